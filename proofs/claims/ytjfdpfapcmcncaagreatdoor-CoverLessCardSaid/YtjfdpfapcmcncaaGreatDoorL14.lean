/- The document's parser. Statements of texts. The document's comparisons and sums; checks. The document's expressions: values; tables that may be. The document's rows. -/
import Derived.Test.YtjfdpfapcmcncaaGreatDoorL13
import Derived.Test.YtjfdpfapcmcncaaGreatDoorL09
import Derived.Test.YtjfdpfapcmcncaaGreatDoorL10
import Derived.Test.YtjfdpfapcmcncaaGreatDoorL05
import Derived.Sort.Grow
import Derived.Deep.Draws
import Derived.Shelf.SlSortCmp.QuietGrown
import Derived.Test.YtjfdpfapcmcncaaGreatDoorL08
import Derived.Shelf.SlSortCmp.InsertionK
import Derived.Sort.OwnSorted
namespace Cad
open Go Go.Proofs
open AV renaming ptr→Qf
open AV renaming agg→Qd
open Tr renaming chk→Qc
open AV renaming nils→Qb
open AO renaming box→Qa
open Tr renaming «to»→Q9
open Sh renaming bool→Q7
open Sh renaming str→Q6
open Sh renaming expr→Q5
open Bool renaming false→Q4
open Bool renaming true→Q3
open Option renaming none→Q2
open Option renaming some→Q1
open Decidable renaming decide→Q0
open Int (toNat)
open List (getD)
open List (length)
set_option maxHeartbeats 4000000
open Tr (chk br re)
open AV (nils agg tup ptr kb str sl)
noncomputable section
abbrev zlV:=lW [(17,[2,4,6,7,8]),(25,[2,4,6,7,9])]
inductive P4 where
 |h17 (l4:LF) (z0:zn jf) (z1:zn aB) (z2:zn jf)
 |h25 (l4:LF) (z0:zn jf) (z1:zn aB) (z2:zn jf)
abbrev zov:P4->Nat×St
 |.h17 l4 z0 z1 z2=>(17,⟨tm 172 [(2,Qf 0 0),(4,sl zo l4),(6,Qf 1 0),(7,Qf 2 0),(8,kb Q3)],[Qa (bF [] jf z0),Qa (bF [] aB z1),Qa (bF [] jf z2)]⟩)
 |.h25 l4 z0 z1 z2=>(25,⟨tm 172 [(2,Qf 0 0),(4,sl zo l4),(6,Qf 1 0),(7,Qf 2 0),(9,kb Q3)],[Qa (bF [] jf z0),Qa (bF [] aB z1),Qa (bF [] jf z2)]⟩)
def zpL(x0:TS):Tr (P4⊕az):=
 let a0:=((yW x0).1,0,Q3,())
 let a1:=fu a0 YH
 let a2:=(a1.2.1,a1.2.2.1,a1.2.2.2.1,())
 let a3:=fu a2 YL
 let a4:=(a3.2.1,a3.2.2.1,a3.2.2.2.1,())
 let a5:=bC a4 YT
 let a6:=(a5.1,a5.2.1,a5.2.2.1,())
 let a7:=bQ a6
 let a8:=(↑(length (yW x0).1):Int)
 let a9:=(EB,a7.1,[],[],[],[],[],[],ze.mk [] (0,0,[]) [] [],[],[],ze.mk [] (0,0,[]) [] [],[])
 let a10:=lv a9
 let a11:=fu a4 YN
 let a12:=(a11.2.1,a11.2.2.1,a11.2.2.2.1,())
 let a13:=bC a12 YO
 let a14:=(a13.1,a13.2.1,a13.2.2.1,())
 let a15:=bQ a14
 let a16:=(a15.2.1,a15.2.2.1,a15.2.2.2.1,())
 let a17:=bC a16 YV
 let a18:=(a17.1,a17.2.1,a17.2.2.1,())
 let a19:=fu a12 YU
 let a20:=(a19.2.1,a19.2.2.1,a19.2.2.2.1,())
 let a21:=bQ a20
 let a22:=(a21.2.1,a21.2.2.1,a21.2.2.2.1,())
 let a23:=fu a20 YJ
 let a24:=(a23.2.1,a23.2.2.1,a23.2.2.2.1,())
 let a25:=bC a24 uv
 let a26:=(a25.1,a25.2.1,a25.2.2.1,())
 let a27:=bQ a26
 let a28:=(a27.2.1,a27.2.2.1,a27.2.2.2.1,())
 let a29:=eU a28 gD
 let a30:=(Jh,a27.1,[],[],[],[],[],[],ze.mk [] (0,0,[]) [] [],[],[],zm a29.1,[])
 let a31:=lv a30
 let a32:=fu a24 YS
 let a33:=(a32.2.1,a32.2.2.1,a32.2.2.2.1,())
 let a34:=bC a33 [42]
 let a35:=(a34.1,a34.2.1,a34.2.2.1,())
 let a36:=bC a35 uv
 let a37:=(a36.1,a36.2.1,a36.2.2.1,())
 let a38:=bQ a37
 let a39:=(a38.2.1,a38.2.2.1,a38.2.2.2.1,())
 let a40:=eU a39 gD
 let a41:=(py,a38.1,[],[],[],[],[],[],ze.mk [] (0,0,[]) [] [],[],[],zm a40.1,[])
 let a42:=lv a41
 let a43:=fu a33 YM
 let a44:=(a43.2.1,a43.2.2.1,a43.2.2.2.1,())
 let a45:=Lt a44 Qx
 let a46:=fu a44 YQ
 let a47:=(a46.2.1,a46.2.2.1,a46.2.2.2.1,())
 let a48:=Lt a47 Qx
 let a49:=fu a47 YP
 let a50:=(a49.2.1,a49.2.2.1,a49.2.2.2.1,())
 let a51:=zcL a50 ([],[],[],[],[],0,0,[],[],[],0,0,[],[],[],())
 let a52:=(a51.2.1,a51.2.2.1,a51.2.2.2.1,a51.t.1,[],a51.t.2.1,[],[],zm a51.t.q.1,[],[],ze.mk a51.t.q.2.1 (a51.t.t.1,a51.t.t.2.1,a51.t.t.q.1) a51.t.t.q.2.1 [],a51.t.t.t.1)
 let a53:=lv a52
 Qc (Iq x0)
 (br (!(yW x0).2)
  (re (tup [Qd [str [],str [],str [],Qb,Qb,str [],Qb,Qb,str [],ai 0,ai 0,str [],str [],Qb,Qb,Qb,str [],ai 0,ai 0,str [],str [],Qb,str []],kb Q4]) [])
  (Qc (dV a0 YH) (br a1.1 Tr.err (Qc (dV a2 YL) (br a3.1 (Qc (aR a4 YT) (Qc (bl a6) (br (bif !a7.2.2.2.1 then Q3 else a7.2.2.1!=a8) (re (tup [Qd [str [],str [],str [],Qb,Qb,str [],Qb,Qb,str [],ai 0,
  ai 0,str [],str [],Qb,Qb,Qb,str [],ai 0,ai 0,str [],str [],Qb,str []],kb Q4]) []) (Qc (iP a9) (br (!a10.2) (re (tup [Qd [str [],str [],str [],Qb,Qb,str [],Qb,Qb,str [],ai 0,
  ai 0,str [],str [],Qb,Qb,Qb,str [],ai 0,ai 0,str [],str [],Qb,str []],kb Q4]) []) (re (tup [Qd [str EB,str a7.1,str [],Qb,Qb,str [],Qb,Qb,str [],
  ai 0,ai 0,str [],str [],Qb,Qb,Qb,str [],ai 0,ai 0,str [],str [],Qb,str []],kb Q3]) [])))))) (Qc (dV a4 YN) (br a11.1 (Qc (aR a12 YO) (Qc (bl a14) (Qc (aR a16 YV) (Qc (aR a18 [40]) (Q9
  (P4.h17 (yW x0).1 ([],[],[],[],[],0,0,[],[],[],0,0,[],[],[],()) (bC a18 [40]) (G7,a15.1,[],[],[],0,0,[],[],[],0,0,[],[],[],()))))))) (Qc (dV a12 YU) (br a19.1 (Qc (bl a20) (Qc (aR a22 [83,69,84]) (Q9
  (P4.h25 (yW x0).1 ([],[],[],[],[],0,0,[],[],[],0,0,[],[],[],()) (bC a22 [83,69,84]) (o6,a21.1,[],[],[],0,0,[],[],[],0,0,[],[],[],()))))) (Qc (dV a20 YJ) (br a23.1 (Qc (aR a24 uv) (Qc (bl a26) (Qc (dM a28 gD)
  (br (bif !a29.2.2.2.1 then Q3 else a29.2.2.1!=a8) (re (tup [Qd [str [],str [],str [],Qb,Qb,str [],Qb,Qb,str [],ai 0,ai 0,str [],str [],Qb,Qb,Qb,str [],ai 0,ai 0,str [],str [],Qb,str []],kb Q4]) []) (Qc (iP a30) (br (!a31.2)
  (re (tup [Qd [str [],str [],str [],Qb,Qb,str [],Qb,Qb,str [],ai 0,ai 0,str [],str [],Qb,Qb,Qb,str [],ai 0,ai 0,str [],str [],Qb,str []],kb Q4]) []) (re (tup [Qd
  [str Jh,str a27.1,str [],Qb,Qb,str [],Qb,Qb,str [],ai 0,ai 0,str [],str [],Qb,Qb,Qb,str (ze.op a29.1),ai (ze.v a29.1).1,ai (ze.v a29.1).2.1,str (ze.v a29.1).2.2,str (ze.s a29.1),sl Q5 (ze.l a29.1),str []],
  kb Q3]) []))))))) (Qc (dV a24 YS) (br a32.1 (Qc (aR a33 [42]) (Qc (aR a35 uv) (Qc (bl a37) (Qc (dM a39 gD) (br (bif !a40.2.2.2.1 then Q3 else a40.2.2.1!=a8) (re (tup [Qd
  [str [],str [],str [],Qb,Qb,str [],Qb,Qb,str [],ai 0,ai 0,str [],str [],Qb,Qb,Qb,str [],ai 0,ai 0,str [],str [],Qb,str []],kb Q4]) []) (Qc (iP a41) (br (!a42.2) (re (tup [Qd
  [str [],str [],str [],Qb,Qb,str [],Qb,Qb,str [],ai 0,ai 0,str [],str [],Qb,Qb,Qb,str [],ai 0,ai 0,str [],str [],Qb,str []],kb Q4]) []) (re (tup [Qd
  [str py,str a38.1,str [],Qb,Qb,str [],Qb,Qb,str [],ai 0,ai 0,str [],str [],Qb,Qb,Qb,str (ze.op a40.1),ai (ze.v a40.1).1,ai (ze.v a40.1).2.1,str (ze.v a40.1).2.2,str (ze.s a40.1),sl Q5 (ze.l a40.1),str []],
  kb Q3]) [])))))))) (Qc (dV a33 YM) (br a43.1 (Qc (IE a44 Qx) (br a45.1 Tr.err Tr.err)) (Qc (dV a44 YQ) (br a46.1 (Qc (IE a47 Qx) (br a48.1 Tr.err Tr.err)) (Qc (dV a47 YP) (br a49.1
  (Qc (Wu a50 ([],[],[],[],[],0,0,[],[],[],0,0,[],[],[],())) (br (bif !a51.1.2.2.1 then Q3 else a51.1.2.1!=a8) (re (tup [Qd [str [],str [],str [],Qb,Qb,str [],Qb,Qb,str [],ai 0,ai 0,str [],str [],Qb,Qb,Qb,str [],
  ai 0,ai 0,str [],str [],Qb,str []],kb Q4]) []) (Qc (iP a52) (br (!a53.2) (re (tup [Qd [str [],str [],str [],Qb,Qb,str [],Qb,Qb,str [],ai 0,ai 0,str [],str [],Qb,Qb,Qb,
  str [],ai 0,ai 0,str [],str [],Qb,str []],kb Q4]) []) (re (tup [Qd [str a51.2.1,str a51.2.2.1,str a51.2.2.2.1,AV.vec 0,Qb,str a51.t.2.1,Qb,Qb,str (ze.op a51.t.q.1),ai (ze.v a51.t.q.1).1,ai (ze.v a51.t.q.1).2.1,
  str (ze.v a51.t.q.1).2.2,str (ze.s a51.t.q.1),sl Q5 (ze.l a51.t.q.1),Qb,Qb,str a51.t.q.2.1,ai a51.t.t.1,ai a51.t.t.2.1,str a51.t.t.q.1,str a51.t.t.q.2.1,Qb,str a51.t.t.t.1],kb Q3])
  [AO.vec Q6 a51.t.1]))))) (br (bif !a49.2.2.2.1 then Q3 else a49.2.2.1!=a8) (re (tup [Qd [str [],str [],str [],Qb,Qb,str [],Qb,Qb,str [],ai 0,ai 0,str [],str [],Qb,Qb,Qb,str [],ai 0,ai 0,str [],str [],Qb,str []],kb Q4]) [])
  (Qc Q3 (br Q3 (re (tup [Qd [str [],str [],str [],Qb,Qb,str [],Qb,Qb,str [],ai 0,ai 0,str [],str [],Qb,Qb,Qb,str [],ai 0,ai 0,str [],str [],Qb,str []],kb Q4]) []) (re (tup [Qd
  [str [],str [],str [],Qb,Qb,str [],Qb,Qb,str [],ai 0,ai 0,str [],str [],Qb,Qb,Qb,str [],ai 0,ai 0,str [],str [],Qb,str []],kb Q3]) [])))))))))))))))))))))))
def zqk:P4->Tr (P4⊕az)
 | .h17 l4 _ z1 z2=>
  let a0:=(z1.1,z1.2.1,z1.2.2.1,())
  let a1:=bC a0 [41]
  let a2:=(z2.1,z2.2.1,z2.2.2.1,[],[],z2.2.2.2.1,[],[],ze.mk z2.t.1 (z2.t.2.1,z2.t.q.1,z2.t.q.2.1) z2.t.t.1 [],[],[],ze.mk z2.t.t.2.1 (z2.t.t.q.1,z2.t.t.q.2.1,z2.t.t.t.1) z2.t.t.t.2.1 [],z2.t.t.t.q.1)
  let a3:=lv a2
  br z1.2.2.1 Tr.err
  (Qc (aR a0 [41])
   (br (bif !a1.2.2.1 then Q3 else a1.2.1!=(↑l4.length:Int)) (re (tup [Qd [str [],str [],str [],Qb,Qb,str [],Qb,Qb,str [],ai 0,ai 0,str [],str [],Qb,Qb,Qb,str [],ai 0,ai 0,str [],str [],Qb,str []],kb Q4]) []) (Qc (iP a2)
   (br (!a3.2) (re (tup [Qd [str [],str [],str [],Qb,Qb,str [],Qb,Qb,str [],ai 0,ai 0,str [],str [],Qb,Qb,Qb,str [],ai 0,ai 0,str [],str [],Qb,str []],kb Q4]) []) (re (tup [Qd
   [str z2.1,str z2.2.1,str z2.2.2.1,Qb,Qb,str z2.2.2.2.1,Qb,Qb,str z2.t.1,ai z2.t.2.1,ai z2.t.q.1,str z2.t.q.2.1,str z2.t.t.1,Qb,Qb,Qb,str z2.t.t.2.1,ai z2.t.t.q.1,
   ai z2.t.t.q.2.1,str z2.t.t.t.1,str z2.t.t.t.2.1,Qb,str z2.t.t.t.q.1],kb Q3]) [])))))
 | .h25 l4 _ z1 z2=>
  let a0:=(z1.1,z1.2.1,z1.2.2.1,())
  let a1:=bQ a0
  let a2:=eU a0 gD
  let a3:=(z2.1,z2.2.1,z2.2.2.1,[],[],z2.2.2.2.1,[],[],ze.mk z2.t.1 (z2.t.2.1,z2.t.q.1,z2.t.q.2.1) z2.t.t.1 [],[],[],zm a2.1,z2.t.t.t.q.1)
  let a4:=lv a3
  br z1.2.2.1 (Qc (bl a0) (Qc (aR (a1.2.1,a1.2.2.1,a1.2.2.2.1,()) [61]) Tr.err))
  (Qc (dM a0 gD)
   (br (bif !a2.2.2.2.1 then Q3 else a2.2.2.1!=(↑l4.length:Int)) (re (tup [Qd [str [],str [],str [],Qb,Qb,str [],Qb,Qb,str [],ai 0,ai 0,str [],str [],Qb,Qb,Qb,str [],ai 0,ai 0,str [],str [],Qb,str []],kb Q4]) []) (Qc (iP a3)
   (br (!a4.2) (re (tup [Qd [str [],str [],str [],Qb,Qb,str [],Qb,Qb,str [],ai 0,ai 0,str [],str [],Qb,Qb,Qb,str [],ai 0,ai 0,str [],str [],Qb,str []],kb Q4]) []) (re (tup [Qd
   [str z2.1,str z2.2.1,str z2.2.2.1,Qb,Qb,str z2.2.2.2.1,Qb,Qb,str z2.t.1,ai z2.t.2.1,ai z2.t.q.1,str z2.t.q.2.1,str z2.t.t.1,Qb,Qb,Qb,str (ze.op a2.1),ai (ze.v a2.1).1,ai (ze.v a2.1).2.1,
   str (ze.v a2.1).2.2,str (ze.s a2.1),sl Q5 (ze.l a2.1),str z2.t.t.t.q.1],kb Q3]) [])))))
def DH(x0:TS):=ah [zl,Q7] zqk 100000000 (zpL x0)
def Wq(x0:TS):=(DH x0).isSome
def cK(x0:TS):=o2 (DH x0)
def zik:=FT [Q6] [zl,Q7] λx=>DH x.1
theorem zee:FK 52 zik:=FN.T1 (f:=Tryz.f52) (keep:=zlV) (e:=zov)
def zbT:=zbS.add 52 zik
theorem FO:zt zbT:=FN.add zee
end
noncomputable def zpH(x0:TS):Tr (Empty⊕az):=
 Qc (Wq x0)
 (re
  (Qd [str (cK x0).1.1,str (cK x0).1.2.1,str (cK x0).1.2.2.1,sl Q6 (cK x0).1.2.2.2.1,sl zi (cK x0).1.t.1,str (cK x0).1.t.2.1,sl Q6 (cK x0).1.t.q.1,sl (Sh.str.pr Q6) (cK x0).1.t.q.2.1,str (ze.op (cK x0).1.t.t.1),
  ai (ze.v (cK x0).1.t.t.1).1,ai (ze.v (cK x0).1.t.t.1).2.1,str (ze.v (cK x0).1.t.t.1).2.2,str (ze.s (cK x0).1.t.t.1),sl Q5 (ze.l (cK x0).1.t.t.1),sl zf (cK x0).1.t.t.2.1,sl (Sh.str.pr Q5) (cK x0).1.t.t.q.1,
  str (ze.op (cK x0).1.t.t.q.2.1),ai (ze.v (cK x0).1.t.t.q.2.1).1,ai (ze.v (cK x0).1.t.t.q.2.1).2.1,str (ze.v (cK x0).1.t.t.q.2.1).2.2,str (ze.s (cK x0).1.t.t.q.2.1),sl Q5 (ze.l (cK x0).1.t.t.q.2.1),
  str (cK x0).1.t.t.t])
  [])
noncomputable def U3(x0:TS):=ah [zl] t0 100000000 (zpH x0)
noncomputable def zma(x0:TS):=(U3 x0).isSome
noncomputable def zp7(x0:TS):=o1 (U3 x0)
noncomputable def zhN:=FT [Q6] [zl] λx=>U3 x.1
theorem zdC:FK 23 zhN:=FO.T1 (f:=Tryz.f23) (keep:=k0) (e:=e0)
noncomputable def zbU:=zbT.add 23 zhN
theorem kD:zt zbU:=FO.add zdC
noncomputable section
def zci(x0:Sem zf)(x1:Sem zf):Tr (Empty⊕az):=
 let a0:=x0.1==x1.1&&(x0.2.1==x1.2.1&&(x0.2.2==x1.2.2&&Q3))
 let a1:=aW a0
 Qc (mY x0 x1)
 (br (rp x0 x1) (re (Qd [ai 0,ai 0,str []]) [])
  (Qc (lr a0) (re (Qd [ai a1.1,ai a1.2.1,str a1.2.2]) [])))
def qb(x0:Sem zf)(x1:Sem zf):=ah [zf] t0 100000000 (zci x0 x1)
def vw(x0:Sem zf)(x1:Sem zf):=(qb x0 x1).isSome
def rm(x0:Sem zf)(x1:Sem zf):=o1 (qb x0 x1)
def za6:=FT [zf,zf] [zf] λx=>qb x.1 x.2.1
theorem XV:FK 64 za6:=kD.T1 (f:=Tryz.f64) (keep:=k0) (e:=e0)
def zcj(x0:Sem zf)(x1:Sem zf):Tr (Empty⊕az):=
 let a0:=Op.bytesLess x0.2.2 x1.2.2
 let a1:=aW a0
 Qc (mY x0 x1)
 (br (rp x0 x1) (re (Qd [ai 0,ai 0,str []]) [])
  (br (Q0 (x0.2.1<x1.2.1)) (Qc Q3 (re (Qd [ai (aW Q3).1,ai (aW Q3).2.1,str (aW Q3).2.2]) [])) (Qc (lr a0) (re (Qd [ai a1.1,ai a1.2.1,str a1.2.2]) []))))
def vA(x0:Sem zf)(x1:Sem zf):=ah [zf] t0 100000000 (zcj x0 x1)
def AW(x0:Sem zf)(x1:Sem zf):=(vA x0 x1).isSome
def xK(x0:Sem zf)(x1:Sem zf):=o1 (vA x0 x1)
def za8:=FT [zf,zf] [zf] λx=>vA x.1 x.2.1
theorem XX:FK 65 za8:=kD.T1 (f:=Tryz.f65) (keep:=k0) (e:=e0)
def zck(x0:Sem zf)(x1:Sem zf):Tr (Empty⊕az):=
 let a0:=IntKind.i64.wrap (9223372036854775807-x1.2.1)
 let a1:=IntKind.i64.wrap (-9223372036854775808-x1.2.1)
 let a2:=bif Q0 (x1.2.1<0)then Q0 (x0.2.1<a1)else Q4
 Qc (mY x0 x1)
 (br (bif rp x0 x1 then Q3 else x0.1!=1) (re (Qd [ai 0,ai 0,str []]) [])
  (br (bif Q0 (x1.2.1>0)then bif Q0 (x0.2.1>a0)then Q3 else a2 else a2) (re (Qd [ai 0,ai 0,str []]) []) (re (Qd [ai 1,ai (IntKind.i64.wrap (x0.2.1+x1.2.1)),str []]) [])))
def vD(x0:Sem zf)(x1:Sem zf):=ah [zf] t0 100000000 (zck x0 x1)
def AX(x0:Sem zf)(x1:Sem zf):=(vD x0 x1).isSome
def xL(x0:Sem zf)(x1:Sem zf):=o1 (vD x0 x1)
def za9:=FT [zf,zf] [zf] λx=>vD x.1 x.2.1
theorem XY:FK 66 za9:=kD.T1 (f:=Tryz.f66) (keep:=k0) (e:=e0)
def zcl(x0:Sem zf)(x1:Sem zf):Tr (Empty⊕az):=
 let a0:=IntKind.i64.wrap (-9223372036854775808+x1.2.1)
 let a1:=IntKind.i64.wrap (9223372036854775807+x1.2.1)
 let a2:=bif Q0 (x1.2.1<0)then Q0 (x0.2.1>a1)else Q4
 Qc (mY x0 x1)
 (br (bif rp x0 x1 then Q3 else x0.1!=1) (re (Qd [ai 0,ai 0,str []]) [])
  (br (bif Q0 (x1.2.1>0)then bif Q0 (x0.2.1<a0)then Q3 else a2 else a2) (re (Qd [ai 0,ai 0,str []]) []) (re (Qd [ai 1,ai (IntKind.i64.wrap (x0.2.1-x1.2.1)),str []]) [])))
def qd(x0:Sem zf)(x1:Sem zf):=ah [zf] t0 100000000 (zcl x0 x1)
def vB(x0:Sem zf)(x1:Sem zf):=(qd x0 x1).isSome
def ro(x0:Sem zf)(x1:Sem zf):=o1 (qd x0 x1)
def zba:=FT [zf,zf] [zf] λx=>qd x.1 x.2.1
theorem XZ:FK 67 zba:=kD.T1 (f:=Tryz.f67) (keep:=k0) (e:=e0)
def zb7(x0:Sem Q5)(x1:Sem zi.sl):Tr (Empty⊕az):=
 br (ze.op x0==[])
 (Qc (gP (zm x0) (ze.mk [] (0,0,[]) [] []))
  (br (!fq (zm x0) (ze.mk [] (0,0,[]) [] [])) (re (ai 1) []) (re (ai 0) [])))
 (Qc (tX (zm x0))
  (br (!Dp (zm x0)) (re (ai 1) []) (Qc (ov (zm x0) x1) (br ((iM (zm x0) x1).2!=0) (re (ai (iM (zm x0) x1).2) []) (br (bif (iM (zm x0) x1).1!=0 then(iM (zm x0) x1).1!=3 else Q4) (re (ai 5) []) (re (ai 0) []))))))
def qj(x0:Sem Q5)(x1:Sem zi.sl):=ah [zg] t0 100000000 (zb7 x0 x1)
def Dv(x0:Sem Q5)(x1:Sem zi.sl):=(qj x0 x1).isSome
def Ig(x0:Sem Q5)(x1:Sem zi.sl):=o1 (qj x0 x1)
def zaw:=FT [Q5,zi.sl] [zg] λx=>qj x.1 x.2.1
theorem Xk:FK 83 zaw:=kD.T1 (f:=Tryz.f83) (keep:=k0) (e:=e0)
def Ho:=zbU.addL [(64,za6),(65,za8),(66,za9),(67,zba),(83,zaw)]
theorem tu:zt Ho:=kD.addL<|fc XV<|fc XX<|fc XY<|fc XZ<|fc Xk ja
end
noncomputable section
def B6(g:Sem Q5->Sem (Sh.sl zi)->Sem (Sh.sl zf)->Sem zf)(c:Sem Q5->Sem (Sh.sl zi)->Sem (Sh.sl zf)->Bool):bW:=Ho.add 31 (zN [Q5,Sh.sl zi,Sh.sl zf] [zf] (λx=>c x.1 x.2.1 x.2.2.1) λx=>(g x.1 x.2.1 x.2.2.1,()))
theorem Mu{g:Sem Q5->Sem (Sh.sl zi)->Sem (Sh.sl zf)->Sem zf}{c:Sem Q5->Sem (Sh.sl zi)->Sem (Sh.sl zf)->Bool}(hg:FK 31 (zN [Q5,Sh.sl zi,Sh.sl zf] [zf] (λx=>c x.1 x.2.1 x.2.2.1) λx=>(g x.1 x.2.1 x.2.2.1,()))):zt (B6 g c):=tu.add hg
abbrev M1:Nat->aN:=λj=>if j=6 then{slots:=[1,2,3,6,7]}else{ }
inductive EY where
 |h6 (l1:LC) (l2:LV) (i7:Int) (z0:zn [CP.d Q5]) (z1:zn [CP.d zf])
abbrev JS:EY->Nat×St
 |.h6 l1 l2 i7 z0 z1=>(6,⟨tm 103 [(1,sl zi l1),(2,sl zf l2),(3,Qf 0 0),(6,Qf 1 0),(7,ai i7)],[Qa (bF [] [CP.d Q5] z0),Qa (bF [] [CP.d zf] z1)]⟩)
theorem zgk(g:Sem Q5->Sem zi.sl->Sem zf.sl->Sem zf)(c:Sem Q5->Sem zi.sl->Sem zf.sl->Bool):zI (B6 g c).P 31 Tryz.f31 3:=bR kw
def pO(g:Sem Q5->Sem zi.sl->Sem zf.sl->Sem zf)(c:Sem Q5->Sem zi.sl->Sem zf.sl->Bool)(x0:Sem Q5)(x1:Sem zi.sl)(x2:Sem zf.sl):Tr (EY⊕az):=
 let a0:=zm ((ze.l x0).getD (toNat 0) (zj Q5))
 let a1:=g a0 x1 x2
 let a2:=Gu a1
 let a3:=a1.1==0
 let a4:=aW a3
 let a5:=zm ((ze.l x0).getD (toNat 1) (zj Q5))
 let a6:=g a5 x1 x2
 let a7:=Gr a1 a6
 let a8:=RI a1 a6
 let a9:=rm a1 a6
 let a10:=xK a1 a6
 let a11:=xL a1 a6
 let a12:=ro a1 a6
 br (ze.op x0==mH)
 (re (Qd [ai (ze.v x0).1,ai (ze.v x0).2.1,str (ze.v x0).2.2]) [])
 (br (ze.op x0==ee) (Q9 (EY.h6 x1 x2 0 (x0,()) ((0,0,[]),())))
  (Qc (zO 0 (ze.l x0).length) (Qc (c a0 x1 x2) (br (ze.op x0==mI) (Qc (H5 a1) (re (Qd [ai a2.1,ai a2.2.1,str a2.2.2]) [])) (br (ze.op x0==oP) (Qc (mq a1) (br (!sQ a1) (Qc Q3
  (re (Qd [ai (aW Q3).1,ai (aW Q3).2.1,str (aW Q3).2.2]) [])) (Qc (lr a3) (re (Qd [ai a4.1,ai a4.2.1,str a4.2.2]) [])))) (Qc (zO 1 (ze.l x0).length) (Qc (c a5 x1 x2) (br (ze.op x0==cY)
  (Qc (H2 a1 a6) (re (Qd [ai a7.1,ai a7.2.1,str a7.2.2]) [])) (br (ze.op x0==uw) (Qc (Pm a1 a6) (re (Qd [ai a8.1,ai a8.2.1,str a8.2.2]) [])) (br (ze.op x0==[61]) (Qc (vw a1 a6) (re (Qd [ai a9.1,ai a9.2.1,str a9.2.2]) [])) (br (ze.op x0==[60])
  (Qc (AW a1 a6) (re (Qd [ai a10.1,ai a10.2.1,str a10.2.2]) [])) (br (ze.op x0==[43]) (Qc (AX a1 a6) (re (Qd [ai a11.1,ai a11.2.1,str a11.2.2]) [])) (Qc (vB a1 a6) (re (Qd [ai a12.1,ai a12.2.1,str a12.2.2]) []))))))))))))))
theorem zfi(g:Sem Q5->Sem zi.sl->Sem zf.sl->Sem zf)(c:Sem Q5->Sem zi.sl->Sem zf.sl->Bool)(x0:Sem Q5)(x1:Sem zi.sl)(x2:Sem zf.sl):rn (B6 g c) 0 M1 Tryz.f31 [zz Q5 x0,zz zi.sl x1,zz zf.sl x2] []=(pO g c x0 x1 x2).map (lf Tryz.f31 JS):=kw
def Ab(_:Sem Q5->Sem zi.sl->Sem zf.sl->Sem zf)(_:Sem Q5->Sem zi.sl->Sem zf.sl->Bool):EY->Tr (EY⊕az)
 | .h6 l1 l2 i7 z0 z1=>
  let a0:=l1.getD i7.toNat (zj zi)
  let a1:=l2.getD i7.toNat (zj zf)
  br (Q0 (i7<(↑l1.length:Int)))
  (Qc (zO i7 l1.length)
   (br (a0.1==ze.s z0.1) (br (Q0 (i7<(↑l2.length:Int))) (Qc (zO i7 l2.length) (re (Qd [ai a1.1,ai a1.2.1,str a1.2.2]) [])) (re (Qd [ai 0,ai 0,str []]) [])) (Q9 (EY.h6 l1 l2 (IntKind.i64.wrap (i7+1)) z0 z1))))
  (re (Qd [ai 0,ai 0,str []]) [])
theorem zgy(g:Sem Q5->Sem zi.sl->Sem zf.sl->Sem zf)(c:Sem Q5->Sem zi.sl->Sem zf.sl->Bool):∀s,run (B6 g c) 0 M1 (Func.results Tryz.f31).toList 400 (ac Tryz.f31 (JS s).1) (JS s).2=(Ab g c s).map (lf Tryz.f31 JS)
 |.h6 l1 l2 i7 z0 z1=>by kernel_rfl
def gO(o:Option (zx (List.map Q1 [zf]))):Sem zf:=(λr:zx (List.map Q1 [zf])=>r.1) (o.getD (cm [zf]))
def Po(g:Sem Q5->Sem zi.sl->Sem zf.sl->Sem zf)(c:Sem Q5->Sem zi.sl->Sem zf.sl->Bool)(x0:Sem Q5)(x1:Sem zi.sl)(x2:Sem zf.sl):Option (zx (List.map Q1 [zf])):=ah [zf] (Ab g c) 100000000 (pO g c x0 x1 x2)
def cj:Nat->Sem Q5->Sem zi.sl->Sem zf.sl->Option (zx (List.map Q1 [zf]))
 |0=>λ_ _ _=>Q2
 |n+1=>Po (λx0 x1 x2=>gO (cj n x0 x1 x2)) λx0 x1 x2=>(cj n x0 x1 x2).isSome
theorem UA:zI Ho.P 31 Tryz.f31 3:=bR kw
theorem Jk:∀n,FK 31 (zN [Q5,zi.sl,zf.sl] [zf] (λx=>(cj n x.1 x.2.1 x.2.2.1).isSome) λx=>(gO (cj n x.1 x.2.1 x.2.2.1),()))
 |0=>eY ⟨Tryz.f31,UA.1,UA.2.1,UA.2.2.1⟩ (λ_=>rfl)
 |n+1=>kK (E:=B6 (λx0 x1 x2=>gO (cj n x0 x1 x2)) (λx0 x1 x2=>(cj n x0 x1 x2).isSome)) (ks:=[Q5,zi.sl,zf.sl]) (outs:=[zf]) (keep:=M1) (gas:=400) (n:=100000000) (e:=JS) (t:=Ab (λx0 x1 x2=>gO (cj n x0 x1 x2)) (λx0 x1 x2=>(cj n x0 x1 x2).isSome)) (i:=λx=>pO (λx0 x1 x2=>gO (cj n x0 x1 x2)) (λx0 x1 x2=>(cj n x0 x1 x2).isSome) x.1 x.2.1 x.2.2.1) (Mu (Jk n)) (zgk _ _) (λx=>zfi _ _ x.1 x.2.1 x.2.2.1) (zgy _ _) (λ_=>by kernel_rfl) (λ_=>by kernel_rfl)
def A0(x0:Sem Q5)(x1:Sem zi.sl)(x2:Sem zf.sl):Option (zx (List.map Q1 [zf])):=cj 16 x0 x1 x2
def AZ(x0:Sem Q5)(x1:Sem zi.sl)(x2:Sem zf.sl):Bool:=(A0 x0 x1 x2).isSome
def H7(x0:Sem Q5)(x1:Sem zi.sl)(x2:Sem zf.sl):Sem zf:=gO (A0 x0 x1 x2)
def zaz:zV:=zN [Q5,zi.sl,zf.sl] [zf] (λx=>AZ x.1 x.2.1 x.2.2.1) λx=>(H7 x.1 x.2.1 x.2.2.1,())
theorem Xn:FK 31 zaz:=Jk 16
abbrev zlQ:=lW [(5,[1,3,4]),(11,[1,3,6]),(16,[1,3,7])]
inductive Ex where
 |h5 (i3:Int) (i4:Int) (z0:zn [CP.d zp])
 |h11 (i3:Int) (i6:Int) (z0:zn [CP.d zp])
 |h16 (i3:Int) (i7:Int) (z0:zn [CP.d zp])
abbrev zoq:Ex->Nat×St
 |.h5 i3 i4 z0=>(5,⟨tm 139 [(1,Qf 0 0),(3,ai i3),(4,ai i4)],[Qa (bF [] [CP.d zp] z0)]⟩)
 |.h11 i3 i6 z0=>(11,⟨tm 139 [(1,Qf 0 0),(3,ai i3),(6,ai i6)],[Qa (bF [] [CP.d zp] z0)]⟩)
 |.h16 i3 i7 z0=>(16,⟨tm 139 [(1,Qf 0 0),(3,ai i3),(7,ai i7)],[Qa (bF [] [CP.d zp] z0)]⟩)
def zfO(x0:Sem zp):Tr (Ex⊕az):=
 let a0:=(↑(length x0.2.1):Int)
 let a1:=Q0 (a0<1)
 let a2:=Q0 (a0>8)
 let a3:=Q0 (x0.2.2.1<0)
 let a4:=Q0 (x0.2.2.1>=a0)
 let a5:=getD x0.2.1 (toNat x0.2.2.1) (zj zi)
 Qc
 (dL x0.1&&
  bif !bm x0.1 then Q3
  else bif a1 then Q3 else bif a2 then Q3 else bif a3 then Q3 else bif a4 then Q3 else zO x0.2.2.1 (length x0.2.1))
 (br (bif !bm x0.1 then Q3 else bif a1 then Q3 else bif a2 then Q3 else bif a3 then Q3 else bif a4 then Q3 else !a5.2.2)
  (re (kb Q4) []) (Q9 (Ex.h5 a0 0 (x0,()))))
def sq:Ex->Tr (Ex⊕az)
 | .h5 i3 i4 z0=>
  let a0:=getD z0.1.2.1 i4.toNat (zj zi)
  let a1:=!bm a0.1
  let a2:=Q0 (a0.2.1<1)
  let a3:=Q0 (a0.2.1>3)
  br (Q0 (i4<i3))
  (Qc (zO i4 (length z0.1.2.1))
   (Qc (dL a0.1&&bif a1 then Q3 else bif a2 then Q3 else bif a3 then Q3 else dH z0.1.2.1 a0.1) (br (bif a1 then Q3 else bif a2 then Q3 else bif a3 then Q3 else eS z0.1.2.1 a0.1!=i4) (re (kb Q4) []) (Q9 (Ex.h5 i3 (IntKind.i64.wrap (i4+1)) z0)))))
  (Q9 (Ex.h11 i3 0 z0))
 | .h11 i3 i6 z0=>
  let a0:=(↑(length z0.1.2.2.2.1):Int)
  let a1:=zO i6 (length z0.1.2.2.2.1)
  let a2:=getD z0.1.2.2.2.1 i6.toNat (zj zg)
  let a3:=Q0 (a2<0)
  br (Q0 (i6<a0))
  (Qc (a1&&bif a3 then Q3 else a1)
   (br (bif a3 then Q3 else Q0 (a2>=i3)) (re (kb Q4) []) (Q9 (Ex.h11 i3 (IntKind.i64.wrap (i6+1)) z0))))
  (Q9 (Ex.h16 i3 0 z0))
 | .h16 i3 i7 z0=>
  let a0:=(↑(length z0.1.t.1):Int)
  let a1:=zO i7 (length z0.1.t.1)
  let a2:=getD z0.1.t.1 i7.toNat (zj zo)
  let a3:=Q0 (a2.1<0)
  let a4:=Q0 (a2.1>=i3)
  let a5:=zm z0.1.t.2
  br (Q0 (i7<a0))
  (Qc (a1&&bif a3 then Q3 else a1&&bif a4 then Q3 else a1&&dL a2.2)
   (br (bif a3 then Q3 else bif a4 then Q3 else !bm a2.2) (re (kb Q4) []) (Q9 (Ex.h16 i3 (IntKind.i64.wrap (i7+1)) z0))))
  (Qc (Dv a5 z0.1.2.1) (re (AV.bool (Ig a5 z0.1.2.1==0)) []))
def If(x0:Sem zp):=ah [Q7] sq 100000000 (zfO x0)
def xM(x0:Sem zp):=(If x0).isSome
def GB(x0:Sem zp):=o1 (If x0)
def zid:=FT [zp] [Q7] λx=>If x.1
theorem zd6:FK 38 zid:=tu.T1 (f:=Tryz.f38) (keep:=zlQ) (e:=zoq)
def Tu:=Ho.addL [(31,zaz),(38,zid)]
theorem kV:zt Tu:=tu.addL<|fc Xn<|fc zd6 ja
end
noncomputable section
abbrev zlS:=lW [(4,[1,2,5]),(9,[1,2,6])]
inductive G0 where
 |h4 (l1:LV) (i5:Int) (z0:zn [CP.d zp])
 |h9 (l1:LV) (i6:Int) (z0:zn [CP.d zp])
abbrev zos:G0->Nat×St
 |.h4 l1 i5 z0=>(4,⟨tm 83 [(1,sl zf l1),(2,Qf 0 0),(5,ai i5)],[Qa (bF [] [CP.d zp] z0)]⟩)
 |.h9 l1 i6 z0=>(9,⟨tm 83 [(1,sl zf l1),(2,Qf 0 0),(6,ai i6)],[Qa (bF [] [CP.d zp] z0)]⟩)
def zfP(x0:Sem zp)(x1:Sem zf.sl):Tr (G0⊕az):=
 let a0:=(x0.1,x0.2.1,x0.2.2.1,x0.2.2.2.1,x0.t.1,zm x0.t.2)
 Qc (xM a0)
 (br (bif !GB a0 then Q3 else(↑(length x1):Int)!=(↑(length x0.2.1):Int)) (re (ai 1) [])
  (Q9 (G0.h4 x1 0 (x0,()))))
def Ed:G0->Tr (G0⊕az)
 | .h4 l1 i5 z0=>
  let a0:=l1.getD i5.toNat (zj zf)
  br (Q0 (i5<(↑l1.length:Int)))
  (Qc (zO i5 l1.length) (Qc (mq a0) (br (!sQ a0) (re (ai 1) []) (Q9 (G0.h4 l1 (IntKind.i64.wrap (i5+1)) z0)))))
  (Q9 (G0.h9 l1 0 z0))
 | .h9 l1 i6 z0=>
  let a0:=l1.getD i6.toNat (zj zf)
  let a1:=a0.1==0
  let a2:=zO i6 (length z0.1.2.1)
  let a3:=getD z0.1.2.1 i6.toNat (zj zi)
  let a4:=a0.1!=0
  let a5:=!ze.op z0.1.t.2==[]
  let a6:=zm z0.1.t.2
  let a7:=H7 a6 z0.1.2.1 l1
  br (Q0 (i6<(↑l1.length:Int)))
  (Qc (zO i6 l1.length&&bif a1 then a2 else Q3)
   (br (bif a1 then a3.2.2 else Q4) (re (ai 8) []) (Qc (zO i6 l1.length&&bif a4 then zO i6 l1.length&&a2 else Q3) (br (bif a4 then a0.1!=a3.2.1 else Q4) (re (ai 5) []) (Q9 (G0.h9 l1 (IntKind.i64.wrap (i6+1)) z0))))))
  (Qc (bif a5 then AZ a6 z0.1.2.1 l1&&mX a7 Q4 else Q3)
   (br (bif a5 then qc a7 Q4 else Q4) (re (ai 9) []) (re (ai 0) [])))
def A5(x0:Sem zp)(x1:Sem zf.sl):=ah [zg] Ed 100000000 (zfP x0 x1)
def Ie(x0:Sem zp)(x1:Sem zf.sl):=(A5 x0 x1).isSome
def Nz(x0:Sem zp)(x1:Sem zf.sl):=o1 (A5 x0 x1)
def zif:=FT [zp,zf.sl] [zg] λx=>A5 x.1 x.2.1
theorem zd8:FK 54 zif:=kV.T1 (f:=Tryz.f54) (keep:=zlS) (e:=zos)
abbrev zlT:=lW [(2,[0,1,5]),(5,[0,1,5,6])]
inductive Ju where
 |h2 (l0:List (Sem zf.sl)) (i1:Sem zg) (i5:Int)
 |h5 (l0:List (Sem zf.sl)) (i1:Sem zg) (i5:Int) (i6:Int)
abbrev zot:Ju->Nat×St
 |.h2 l0 i1 i5=>(2,⟨tm 44 [(0,sl zf.sl l0),(1,ai i1),(5,ai i5)],[]⟩)
 |.h5 l0 i1 i5 i6=>(5,⟨tm 44 [(0,sl zf.sl l0),(1,ai i1),(5,ai i5),(6,ai i6)],[]⟩)
def zlg(x0:Sem zf.sl.sl)(x1:Sem zg):Tr (Ju⊕az):=
 Q9 (Ju.h2 x0 x1 0)
def ER:Ju->Tr (Ju⊕az)
 | .h2 l0 i1 i5=>
  br (Q0 (i5<(↑l0.length:Int))) (Q9 (Ju.h5 l0 i1 i5 0)) (re (kb Q4) [])
 | .h5 l0 i1 i5 i6=>
  let a0:=l0.getD i5.toNat (zj zf.sl)
  let a1:=zO i1 (length a0)
  let a2:=getD a0 (toNat i1) (zj zf)
  let a3:=a2.1!=0
  let a4:=l0.getD i6.toNat (zj zf.sl)
  let a5:=getD a4 (toNat i1) (zj zf)
  br (Q0 (i6<i5))
  (Qc (zO i5 l0.length&&(a1&&bif a3 then zO i5 l0.length&&(a1&&(zO i6 l0.length&&zO i1 (length a4)))else Q3))
   (br (bif a3 then a2.1==a5.1&&(a2.2.1==a5.2.1&&(a2.2.2==a5.2.2&&Q3))else Q4) (re (kb Q3) []) (Q9 (Ju.h5 l0 i1 i5 (IntKind.i64.wrap (i6+1))))))
  (Q9 (Ju.h2 l0 i1 (IntKind.i64.wrap (i5+1))))
def vI(x0:Sem zf.sl.sl)(x1:Sem zg):=ah [Q7] ER 100000000 (zlg x0 x1)
def na(x0:Sem zf.sl.sl)(x1:Sem zg):=(vI x0 x1).isSome
def rJ(x0:Sem zf.sl.sl)(x1:Sem zg):=o1 (vI x0 x1)
def zig:=FT [zf.sl.sl,zg] [Q7] λx=>vI x.1 x.2.1
theorem zd9:FK 145 zig:=kV.T1 (f:=Tryz.f145) (keep:=zlT) (e:=zot)
def zli(x0:Sem zp)(x1:Sem zf.sl):Tr (Empty⊕az):=
 let a0:=(x0.1,x0.2.1,x0.2.2.1,x0.2.2.2.1,x0.t.1,zm x0.t.2)
 let a1:=getD x1 (toNat x0.2.2.1) (zj zf)
 Qc (xM a0)
 (br (bif GB a0 then Q0 (x0.2.2.1<(↑(length x1):Int))else Q4)
  (Qc (zO x0.2.2.1 (length x1)) (re (Qd [ai a1.1,ai a1.2.1,str a1.2.2]) []))
  (re (Qd [ai 0,ai 0,str []]) []))
def Dz(x0:Sem zp)(x1:Sem zf.sl):=ah [zf] t0 100000000 (zli x0 x1)
def Ik(x0:Sem zp)(x1:Sem zf.sl):=(Dz x0 x1).isSome
def Ps(x0:Sem zp)(x1:Sem zf.sl):=o1 (Dz x0 x1)
def zii:=FT [zp,zf.sl] [zf] λx=>Dz x.1 x.2.1
theorem zec:FK 55 zii:=kV.T1 (f:=Tryz.f55) (keep:=k0) (e:=e0)
abbrev zlU:=lW [(2,[2,3,5])]
inductive P3 where
 |h2 (i5:Int) (z0:zn [CP.d zh]) (z1:zn [CP.d zf])
abbrev zou:P3->Nat×St
 |.h2 i5 z0 z1=>(2,⟨tm 43 [(2,Qf 0 0),(3,Qf 1 0),(5,ai i5)],[Qa (bF [] [CP.d zh] z0),Qa (bF [] [CP.d zf] z1)]⟩)
def zlj(x0:Sem zh)(x1:Sem zf):Tr (P3⊕az):=
 Q9 (P3.h2 0 (x0,()) (x1,()))
def WM:P3->Tr (P3⊕az)
 | .h2 i5 z0 z1=>
  let a0:=(↑(length z0.1.2):Int)
  let a1:=Q0 (i5<a0)
  let a2:=(z0.1.1.1,z0.1.1.2.1,z0.1.1.2.2.1,z0.1.1.2.2.2.1,z0.1.1.t.1,zm z0.1.1.t.2)
  let a3:=zO i5 (length z0.1.2)
  let a4:=getD z0.1.2 i5.toNat (zj zf.sl)
  let a5:=(↑(length a4):Int)
  let a6:=Q0 (z0.1.1.2.2.1<a5)
  let a7:=getD a4 (toNat z0.1.1.2.2.1) (zj zf)
  Qc (bif a1 then xM a2 else Q3)
  (br (bif a1 then GB a2 else Q4)
   (Qc (a3&&bif a6 then a3&&zO z0.1.1.2.2.1 (length a4)else Q3) (br (bif a6 then a7.1==z1.1.1&&(a7.2.1==z1.1.2.1&&(a7.2.2==z1.1.2.2&&Q3))else Q4) (re (ai i5) []) (Q9 (P3.h2 (IntKind.i64.wrap (i5+1)) z0 z1))))
   (re (ai (-1)) []))
def A7(x0:Sem zh)(x1:Sem zf):=ah [zg] WM 100000000 (zlj x0 x1)
def Ij(x0:Sem zh)(x1:Sem zf):=(A7 x0 x1).isSome
def NA(x0:Sem zh)(x1:Sem zf):=o1 (A7 x0 x1)
def zij:=FT [zh,zf] [zg] λx=>A7 x.1 x.2.1
theorem zed:FK 15 zij:=kV.T1 (f:=Tryz.f15) (keep:=zlU) (e:=zou)
def Tv:=Tu.addL [(54,zif),(145,zig),(55,zii),(15,zij)]
theorem tv:zt Tv:=kV.addL<|fc zd8<|fc zd9<|fc zec<|fc zed ja
end
noncomputable section
abbrev zlA:=lW [(6,[1,3]),(14,[1,5]),(19,[1,6])]
inductive Eu where
 |h6 (i3:Int) (z0:zn [CP.d zh])
 |h14 (i5:Int) (z0:zn [CP.d zh])
 |h19 (i6:Int) (z0:zn [CP.d zh])
abbrev zog:Eu->Nat×St
 |.h6 i3 z0=>(6,⟨tm 82 [(1,Qf 0 0),(3,ai i3)],[Qa (bF [] [CP.d zh] z0)]⟩)
 |.h14 i5 z0=>(14,⟨tm 82 [(1,Qf 0 0),(5,ai i5)],[Qa (bF [] [CP.d zh] z0)]⟩)
 |.h19 i6 z0=>(19,⟨tm 82 [(1,Qf 0 0),(6,ai i6)],[Qa (bF [] [CP.d zh] z0)]⟩)
def Up(x0:Sem zh):Tr (Eu⊕az):=
 let a0:=(x0.1.1,x0.1.2.1,x0.1.2.2.1,x0.1.2.2.2.1,x0.1.t.1,zm x0.1.t.2)
 Qc (xM a0)
 (br (!GB a0) (re (ai 1) [])
  (br (Q0 ((↑(length x0.2):Int)>200)) (re (ai 13) []) (Q9 (Eu.h6 0 (x0,())))))
def qr:Eu->Tr (Eu⊕az)
 | .h6 i3 z0=>
  let a0:=(↑(length z0.1.2):Int)
  let a1:=(z0.1.1.1,z0.1.1.2.1,z0.1.1.2.2.1,z0.1.1.2.2.2.1,z0.1.1.t.1,zm z0.1.1.t.2)
  let a2:=getD z0.1.2 i3.toNat (zj zf.sl)
  let a3:=Nz a1 a2
  br (Q0 (i3<a0))
  (Qc (zO i3 (length z0.1.2))
   (Qc (Ie a1 a2) (br (a3 !=0) (re (ai a3) []) (Q9 (Eu.h6 (IntKind.i64.wrap (i3+1)) z0)))))
  (Qc (na z0.1.2 z0.1.1.2.2.1)
   (br (rJ z0.1.2 z0.1.1.2.2.1) (re (ai 7) []) (Q9 (Eu.h14 0 z0))))
 | .h14 i5 z0=>
  let a0:=(↑(length z0.1.1.2.2.2.1):Int)
  let a1:=getD z0.1.1.2.2.2.1 i5.toNat (zj zg)
  br (Q0 (i5<a0))
  (Qc (zO i5 (length z0.1.1.2.2.2.1))
   (Qc (na z0.1.2 a1) (br (rJ z0.1.2 a1) (re (ai 7) []) (Q9 (Eu.h14 (IntKind.i64.wrap (i5+1)) z0)))))
  (Q9 (Eu.h19 1 z0))
 | .h19 i6 z0=>
  let a0:=(↑(length z0.1.2):Int)
  let a1:=IntKind.i64.wrap (i6-1)
  let a2:=(z0.1.1.1,z0.1.1.2.1,z0.1.1.2.2.1,z0.1.1.2.2.2.1,z0.1.1.t.1,zm z0.1.1.t.2)
  let a3:=getD z0.1.2 a1.toNat (zj zf.sl)
  let a4:=getD z0.1.2 i6.toNat (zj zf.sl)
  let a5:=Ps a2 a3
  let a6:=Ps a2 a4
  let a7:=H6 a5 a6
  br (Q0 (i6<a0))
  (Qc (zO a1 (length z0.1.2))
   (Qc (Ik a2 a3) (Qc (zO i6 (length z0.1.2)) (Qc (Ik a2 a4) (Qc (Dk a5 a6) (br (Q0 (a7>0)) (re (ai 15) []) (Q9 (Eu.h19 (IntKind.i64.wrap (i6+1)) z0))))))))
  (re (ai 0) [])
def m8(x0:Sem zh):=ah [zg] qr 100000000 (Up x0)
def Dx(x0:Sem zh):=(m8 x0).isSome
def Ih(x0:Sem zh):=o1 (m8 x0)
def zhK:=FT [zh] [zg] λx=>m8 x.1
theorem zdz:FK 89 zhK:=tv.T1 (f:=Tryz.f89) (keep:=zlA) (e:=zog)
abbrev zlC:=lW [(2,[0,3]),(5,[0,3,4]),(12,[0,3,4,5,6,7])]
inductive Ev where
 |h2 (l0:List (Sem zh)) (i3:Int)
 |h5 (l0:List (Sem zh)) (i3:Int) (i4:Int)
 |h12 (l0:List (Sem zh)) (i3:Int) (i4:Int) (i6:Sem zg) (i7:Int) (z0:zn [CP.d zo])
abbrev zoi:Ev->Nat×St
 |.h2 l0 i3=>(2,⟨tm 75 [(0,sl zh l0),(3,ai i3)],[]⟩)
 |.h5 l0 i3 i4=>(5,⟨tm 75 [(0,sl zh l0),(3,ai i3),(4,ai i4)],[]⟩)
 |.h12 l0 i3 i4 i6 i7 z0=>(12,⟨tm 75 [(0,sl zh l0),(3,ai i3),(4,ai i4),(5,Qf 0 0),(6,ai i6),(7,ai i7)],[Qa (bF [] [CP.d zo] z0)]⟩)
def zla(x0:Sem zh.sl):Tr (Ev⊕az):=
 Q9 (Ev.h2 x0 0)
def sm:Ev->Tr (Ev⊕az)
 | .h2 l0 i3=>
  br (Q0 (i3<(↑l0.length:Int))) (Q9 (Ev.h5 l0 i3 0)) (re (kb Q3) [])
 | .h5 l0 i3 i4=>
  let a0:=l0.getD i3.toNat (zj zh)
  let a1:=(↑(length a0.1.t.1):Int)
  let a2:=getD a0.1.t.1 i4.toNat (zj zo)
  let a3:=lw l0 a2.2
  Qc (zO i3 l0.length)
  (br (Q0 (i4<a1))
   (Qc (zO i3 l0.length) (Qc (zO i4 (length a0.1.t.1)) (br (Q0 (a3<0)) (re (kb Q4) []) (Q9 (Ev.h12 l0 i3 i4 a3 0 (a2,()))))))
   (Q9 (Ev.h2 l0 (IntKind.i64.wrap (i3+1)))))
 | .h12 l0 i3 i4 i6 i7 z0=>
  let a0:=l0.getD i3.toNat (zj zh)
  let a1:=(↑(length a0.2):Int)
  let a2:=getD a0.2 i7.toNat (zj zf.sl)
  let a3:=getD a2 (toNat z0.1.1) (zj zf)
  let a4:=a3.1!=0
  let a5:=l0.getD (toNat i6) (zj zh)
  let a6:=((a5.1.1,a5.1.2.1,a5.1.2.2.1,a5.1.2.2.2.1,a5.1.t.1,zm a5.1.t.2),a5.2)
  let a7:=NA a6 a3
  Qc (zO i3 l0.length)
  (br (Q0 (i7<a1))
   (Qc (zO i3 l0.length) (Qc (zO i7 (length a0.2)) (Qc (zO z0.1.1 (length a2)) (Qc (bif a4 then zO i6 l0.length&&Ij a6 a3 else Q3) (br (bif a4 then Q0 (a7<0)else Q4) (re (kb Q4) []) (Q9 (Ev.h12 l0 i3 i4 i6 (IntKind.i64.wrap (i7+1)) z0)))))))
   (Q9 (Ev.h5 l0 i3 (IntKind.i64.wrap (i4+1)))))
def vK(x0:Sem zh.sl):=ah [Q7] sm 100000000 (zla x0)
def DA(x0:Sem zh.sl):=(vK x0).isSome
def Il(x0:Sem zh.sl):=o1 (vK x0)
def zhM:=FT [zh.sl] [Q7] λx=>vK x.1
theorem zdB:FK 90 zhM:=tv.T1 (f:=Tryz.f90) (keep:=zlC) (e:=zoi)
def Tw:=Tv.addL [(89,zhK),(90,zhM)]
theorem Cg:zt Tw:=tv.addL<|fc zdz<|fc zdB ja
end
noncomputable section
abbrev zp5:=lW [(4,[0,3]),(9,[0,4])]
inductive H9p where
 |h4 (l0:List (Sem zh)) (i3:Int)
 |h9 (l0:List (Sem zh)) (i4:Int)
abbrev e9p:H9p->Nat×St
 |.h4 l0 i3=>(4,⟨tm 46 [(0,sl zh l0),(3,ai i3)],[]⟩)
 |.h9 l0 i4=>(9,⟨tm 46 [(0,sl zh l0),(4,ai i4)],[]⟩)
def i9p(x0:Sem zh.sl):Tr (H9p⊕az):=
 br (Q0 ((↑(length x0):Int)>12)) (re (ai 13) []) (Q9 (H9p.h4 x0 1))
def WN:H9p->Tr (H9p⊕az)
 | .h4 l0 i3=>
  let a0:=IntKind.i64.wrap (i3-1)
  let a1:=l0.getD a0.toNat (zj zh)
  let a2:=l0.getD i3.toNat (zj zh)
  br (Q0 (i3<(↑l0.length:Int)))
  (Qc (zO a0 l0.length)
   (Qc (zO i3 l0.length) (br (!Op.bytesLess a1.1.1 a2.1.1) (re (ai 15) []) (Q9 (H9p.h4 l0 (IntKind.i64.wrap (i3+1)))))))
  (Q9 (H9p.h9 l0 0))
 | .h9 l0 i4=>
  let a0:=l0.getD i4.toNat (zj zh)
  let a1:=((a0.1.1,a0.1.2.1,a0.1.2.2.1,a0.1.2.2.2.1,a0.1.t.1,zm a0.1.t.2),a0.2)
  let a2:=Ih a1
  br (Q0 (i4<(↑l0.length:Int)))
  (Qc (zO i4 l0.length) (Qc (Dx a1) (br (a2 !=0) (re (ai a2) []) (Q9 (H9p.h9 l0 (IntKind.i64.wrap (i4+1)))))))
  (Qc (DA l0) (br (!Il l0) (re (ai 10) []) (re (ai 0) [])))
def qk(x0:Sem zh.sl):=ah [zg] WN 100000000 (i9p x0)
def DB(x0:Sem zh.sl):=(qk x0).isSome
def In(x0:Sem zh.sl):=o1 (qk x0)
def F9p:=FT [zh.sl] [zg] λx=>qk x.1
theorem zjW:FK 45 F9p:=Cg.T1 (f:=Tryz.f45) (keep:=zp5) (e:=e9p)
def Tx:=Tw.add 45 F9p
theorem nM:zt Tx:=Cg.add zjW
end
noncomputable section
abbrev zlK:=lW [(4,[0,1,12,13])]
inductive P2 where
 |h4 (l0:List (Sem zg)) (l1:List (Sem zg)) (i12:Int) (i13:Int)
abbrev zoo:P2->Nat×St
 |.h4 l0 l1 i12 i13=>(4,⟨tm 26 [(0,sl zg l0),(1,sl zg l1),(12,ai i12),(13,ai i13)],[]⟩)
def Zp(x0:Sem zg.sl)(x1:Sem zg.sl):Tr (P2⊕az):=
 br ((↑(length x0):Int)!=(↑(length x1):Int)) (re (kb Q4) []) (Q9 (P2.h4 x0 x1 (↑(length x0):Int) 0))
def znG:P2->Tr (P2⊕az)
 | .h4 l0 l1 i12 i13=>
  br (Q0 (i13<i12))
  (Qc (zO i13 l0.length)
   (Qc (zO i13 l1.length) (br (l0.getD i13.toNat (zj zg)!=l1.getD i13.toNat (zj zg)) (re (kb Q4) []) (Q9 (P2.h4 l0 l1 i12 (IntKind.i64.wrap (i13+1)))))))
  (re (kb Q3) [])
def IR(x0:Sem zg.sl)(x1:Sem zg.sl):=ah [Q7] znG 100000000 (Zp x0 x1)
def IQ(x0:Sem zg.sl)(x1:Sem zg.sl):=(IR x0 x1).isSome
def oX(x0:Sem zg.sl)(x1:Sem zg.sl):=o1 (IR x0 x1)
def zh7:=FT [zg.sl,zg.sl] [Q7] λx=>IR x.1 x.2.1
theorem zdX:FK 119 zh7:=nM.T1 (f:=Tryz.f119) (keep:=zlK) (e:=zoo)
abbrev zl7:=lW [(4,[0,1,12,13])]
inductive P8 where
 |h4 (l0:List (Sem zi)) (l1:List (Sem zi)) (i12:Int) (i13:Int)
abbrev zoE:P8->Nat×St
 |.h4 l0 l1 i12 i13=>(4,⟨tm 26 [(0,sl zi l0),(1,sl zi l1),(12,ai i12),(13,ai i13)],[]⟩)
def Zt(x0:Sem zi.sl)(x1:Sem zi.sl):Tr (P8⊕az):=
 br ((↑(length x0):Int)!=(↑(length x1):Int)) (re (kb Q4) []) (Q9 (P8.h4 x0 x1 (↑(length x0):Int) 0))
def znI:P8->Tr (P8⊕az)
 | .h4 l0 l1 i12 i13=>
  let a0:=l0.getD i13.toNat (zj zi)
  let a1:=l1.getD i13.toNat (zj zi)
  br (Q0 (i13<i12))
  (Qc (zO i13 l0.length)
   (Qc (zO i13 l1.length) (br (!(a0.1==a1.1&&(a0.2.1==a1.2.1&&(a0.2.2==a1.2.2&&Q3)))) (re (kb Q4) []) (Q9 (P8.h4 l0 l1 i12 (IntKind.i64.wrap (i13+1)))))))
  (re (kb Q3) [])
def IN(x0:Sem zi.sl)(x1:Sem zi.sl):=ah [Q7] znI 100000000 (Zt x0 x1)
def NO(x0:Sem zi.sl)(x1:Sem zi.sl):=(IN x0 x1).isSome
def yZ(x0:Sem zi.sl)(x1:Sem zi.sl):=o1 (IN x0 x1)
def ziG:=FT [zi.sl,zi.sl] [Q7] λx=>IN x.1 x.2.1
theorem zey:FK 166 ziG:=nM.T1 (f:=Tryz.f166) (keep:=zl7) (e:=zoE)
abbrev zl8:=lW [(4,[0,1,12,13])]
inductive P9 where
 |h4 (l0:List (Sem zo)) (l1:List (Sem zo)) (i12:Int) (i13:Int)
abbrev zoF:P9->Nat×St
 |.h4 l0 l1 i12 i13=>(4,⟨tm 26 [(0,sl zo l0),(1,sl zo l1),(12,ai i12),(13,ai i13)],[]⟩)
def Zu(x0:Sem zo.sl)(x1:Sem zo.sl):Tr (P9⊕az):=
 br ((↑(length x0):Int)!=(↑(length x1):Int)) (re (kb Q4) []) (Q9 (P9.h4 x0 x1 (↑(length x0):Int) 0))
def znJ:P9->Tr (P9⊕az)
 | .h4 l0 l1 i12 i13=>
  let a0:=l0.getD i13.toNat (zj zo)
  let a1:=l1.getD i13.toNat (zj zo)
  br (Q0 (i13<i12))
  (Qc (zO i13 l0.length)
   (Qc (zO i13 l1.length) (br (!(a0.1==a1.1&&(a0.2==a1.2&&Q3))) (re (kb Q4) []) (Q9 (P9.h4 l0 l1 i12 (IntKind.i64.wrap (i13+1)))))))
  (re (kb Q3) [])
def IP(x0:Sem zo.sl)(x1:Sem zo.sl):=ah [Q7] znJ 100000000 (Zu x0 x1)
def NP(x0:Sem zo.sl)(x1:Sem zo.sl):=(IP x0 x1).isSome
def Aa(x0:Sem zo.sl)(x1:Sem zo.sl):=o1 (IP x0 x1)
def ziH:=FT [zo.sl,zo.sl] [Q7] λx=>IP x.1 x.2.1
theorem zez:FK 167 ziH:=nM.T1 (f:=Tryz.f167) (keep:=zl8) (e:=zoF)
def TA:=Tx.addL [(119,zh7),(166,ziG),(167,ziH)]
theorem Cj:zt TA:=nM.addL<|fc zdX<|fc zey<|fc zez ja
end
noncomputable def zlf(x0:Sem zp)(x1:Sem zp):Tr (Empty⊕az):=
 let a0:=x0.1==x1.1
 let a1:=x0.2.2.1==x1.2.2.1
 let a2:=yZ x0.2.1 x1.2.1
 let a3:=oX x0.2.2.2.1 x1.2.2.2.1
 let a4:=Aa x0.t.1 x1.t.1
 let a5:=zm x0.t.2
 let a6:=zm x1.t.2
 Qc
 (bif a0 then
  bif a1 then NO x0.2.1 x1.2.1&&bif a2 then IQ x0.2.2.2.1 x1.2.2.2.1&&bif a3 then NP x0.t.1 x1.t.1&&bif a4 then ju 16 a5 a6 else Q3 else Q3 else Q3
  else Q3
 else Q3)
 (re (AV.bool (bif a0 then bif a1 then bif a2 then bif a3 then bif a4 then fF 16 a5 a6 else Q4 else Q4 else Q4 else Q4 else Q4)) [])
noncomputable def I8(x0:Sem zp)(x1:Sem zp):=ah [Q7] t0 100000000 (zlf x0 x1)
noncomputable def I7(x0:Sem zp)(x1:Sem zp):=(I8 x0 x1).isSome
noncomputable def sU(x0:Sem zp)(x1:Sem zp):=o1 (I8 x0 x1)
noncomputable def zh6:=FT [zp,zp] [Q7] λx=>I8 x.1 x.2.1
theorem zdW:FK 118 zh6:=Cj.T1 (f:=Tryz.f118) (keep:=k0) (e:=e0)
noncomputable def TB:=TA.add 118 zh6
theorem MA:zt TB:=Cj.add zdW
noncomputable section
def zfe:bW:={Y4 with own:=Q3}
theorem MD:zt zfe:=⟨⟨uF.sh⟩,uF.fs,uF.mix⟩
def zfG(x0:Sem zA):Tr (Empty⊕az):=
 let a0:=[x0.2.1]
 let a1:=[x0.2.2.1]
 br (!x0.2.2.1==[]) (Qc (Q0 (a0.length+a1.length<=1073741824)) (re (AV.vec 0) [AO.vec Q6 (a0++a1)]))
 (re (AV.vec 0) [AO.vec Q6 a0])
def l7(x0:Sem zA):=ah [Sh.str.sl] t0 100000000 (zfG x0)
def jQ(x0:Sem zA):=(l7 x0).isSome
def lp(x0:Sem zA):=o1 (l7 x0)
def zcV:=FT [zA] [Sh.str.sl] λx=>l7 x.1
theorem zdp:FK 46 zcV:=MD.T1 (f:=Tryz.f46) (keep:=k0) (e:=e0)
theorem zdq:FK 46 zcV:=zdp
def TC:=TB.add 46 zcV
theorem tw:zt TC:=MA.add zdq
end
noncomputable section
abbrev jZ:List CP:=[.d .str,.d .str,.d .str,.d .str,.nil,.d zg,.nil,.nil,.d .str,.d zg,.d zg,.d .str,.d .str,.nil,.nil,.d zg]
abbrev JP:List CP:=[.d .str,.d .str,.d .str,.d .str,.nil,.d zg,.nil,.nil,.d .expr,.nil,.d zg]
abbrev QG:List CP:=[.d .str,.d .str,.d .str,.d .str,.vec zi,.d zg,.nil,.nil,.d .expr,.d (.sl zg),.d zg]
abbrev zfb:List CP:=[.d .str,.d .str,.d .str,.d .str,.d (.sl zi),.d zg,.nil,.nil,.d .expr,.d (.sl zg),.d zg]
abbrev S6:List CP:=[.d .str,.d .str,.d .str,.d .str,.vec zi,.d zg,.nil,.nil,.d .expr,.vec zg,.d zg]
def zk4(x0:Sem zA)(x1:Sem zA):Tr (Empty⊕az):=
 let a0:=x0.1==x1.1
 let a1:=x0.2.1==x1.2.1
 let a2:=x0.2.2.1==x1.2.2.1
 let a3:=x0.t.2==x1.t.2
 let a4:=(x0.2.2.2.1.1,x0.2.2.2.1.2.1,x0.2.2.2.1.2.2.1,x0.2.2.2.1.2.2.2.1,x0.2.2.2.1.t.1,zm x0.2.2.2.1.t.2)
 let a5:=(x1.2.2.2.1.1,x1.2.2.2.1.2.1,x1.2.2.2.1.2.2.1,x1.2.2.2.1.2.2.2.1,x1.2.2.2.1.t.1,zm x1.2.2.2.1.t.2)
 let a6:=sU a4 a5
 Qc
 (bif a0 then
  bif a1 then bif a2 then bif a3 then I7 a4 a5&&bif a6 then IQ x0.t.1 x1.t.1 else Q3 else Q3 else Q3 else Q3
 else Q3)
 (re
  (AV.bool (bif a0 then bif a1 then bif a2 then bif a3 then bif a6 then oX x0.t.1 x1.t.1 else Q4 else Q4 else Q4 else Q4 else Q4))
  [])
def HU(x0:Sem zA)(x1:Sem zA):=ah [Q7] t0 100000000 (zk4 x0 x1)
def HT(x0:Sem zA)(x1:Sem zA):=(HU x0 x1).isSome
def KV(x0:Sem zA)(x1:Sem zA):=o1 (HU x0 x1)
def zhA:=FT [zA,zA] [Q7] λx=>HU x.1 x.2.1
theorem zdm:FK 76 zhA:=tw.T1 (f:=Tryz.f76) (keep:=k0) (e:=e0)
abbrev zPl:AV:=.agg [str [],str [],str [],str [],Qb,ai 0,Qb,Qb,str [],ai 0,ai 0,str [],str [],Qb,Qb,ai 0]
abbrev rE{σ:Type}(e:Int):Tr (σ⊕az):=.re (.tup [zPl,.int .i64 e]) []
abbrev zlu:Nat->aN:=λj=>if j=7 then{slots:=[0,3,4,8,9,10]}else if j=24 then{slots:=[3,4,8,11,13],prom:=[(8,Q1 4,zi)]}else if j=38 then{slots:=[3,4,8,11,14,15,16]}else if j=48 then{slots:=[3,4,8,14,17],prom:=[(8,Q1 14,.int .i64)]}else if j=64 then{slots:=[3,4,8,20]}else{ }
inductive kL where
 |h7 (l0:List (Sem zh)) (l9:List (Sem Q6)) (i10:Int) (z0:zn [CP.d zl]) (z1:zn jZ) (z2:zn JP)
 |h24 (i13:Int) (z0:zn [CP.d zl]) (z1:zn jZ) (z2:zn QG) (z3:zn [CP.d zp])
 |h38 (i16:Int) (z0:zn [CP.d zl]) (z1:zn jZ) (z2:zn JP) (z3:zn [CP.d zp]) (z4:zn [CP.d zp])
 |h64 (i20:Int) (z0:zn [CP.d zl]) (z1:zn jZ) (z2:zn zfb)
 |h64b (i20:Int) (z0:zn [CP.d zl]) (z1:zn jZ) (z2:zn JP)
 |h64bb (i20:Int) (z0:zn [CP.d zl]) (z1:zn jZ) (z2:zn QG)
 |h38b (b15:Bool) (i16:Int) (z0:zn [CP.d zl]) (z1:zn jZ) (z2:zn JP) (z3:zn [CP.d zp]) (z4:zn [CP.d zp])
 |h48 (i17:Int) (z0:zn [CP.d zl]) (z1:zn jZ) (z2:zn S6) (z3:zn [CP.d zp])
 |h64bbb (i20:Int) (z0:zn [CP.d zl]) (z1:zn jZ) (z2:zn S6)
abbrev zoc:kL->Nat×St
 |.h7 l0 l9 i10 z0 z1 z2=>(7,⟨tm 339 [(0,sl zh l0),(3,Qf 0 0),(4,Qf 1 0),(8,Qf 2 0),(9,sl Q6 l9),(10,ai i10)],[Qa (bF [] [CP.d zl] z0),Qa (bF [] jZ z1),Qa (bF [] JP z2)]⟩)
 |.h24 i13 z0 z1 z2 z3=>(24,⟨tm 339 [(3,Qf 0 0),(4,Qf 1 0),(8,Qf 2 0),(11,Qf 3 0),(13,ai i13)],[Qa (bF [] [CP.d zl] z0),Qa (bF [] jZ z1),Qa (bF [4] QG z2),Qa (bF [] [CP.d zp] z3),AO.vec zi z2.t.1]⟩)
 |.h38 i16 z0 z1 z2 z3 z4=>(38,⟨tm 339 [(3,Qf 0 0),(4,Qf 1 0),(8,Qf 2 0),(11,Qf 3 0),(14,Qf 4 0),(15,kb Q4),(16,ai i16)],[Qa (bF [] [CP.d zl] z0),Qa (bF [] jZ z1),Qa (bF [] JP z2),Qa (bF [] [CP.d zp] z3),Qa (bF [] [CP.d zp] z4)]⟩)
 |.h64 i20 z0 z1 z2=>(64,⟨tm 339 [(3,Qf 0 0),(4,Qf 1 0),(8,Qf 2 0),(20,ai i20)],[Qa (bF [] [CP.d zl] z0),Qa (bF [] jZ z1),Qa (bF [] zfb z2)]⟩)
 |.h64b i20 z0 z1 z2=>(64,⟨tm 339 [(3,Qf 0 0),(4,Qf 1 0),(8,Qf 2 0),(20,ai i20)],[Qa (bF [] [CP.d zl] z0),Qa (bF [] jZ z1),Qa (bF [] JP z2)]⟩)
 |.h64bb i20 z0 z1 z2=>(64,⟨tm 339 [(3,Qf 0 0),(4,Qf 1 0),(8,Qf 2 0),(20,ai i20)],[Qa (bF [] [CP.d zl] z0),Qa (bF [] jZ z1),Qa (bF [3] QG z2),AO.vec zi z2.t.1]⟩)
 |.h38b b15 i16 z0 z1 z2 z3 z4=>(38,⟨tm 339 [(3,Qf 0 0),(4,Qf 1 0),(8,Qf 2 0),(11,Qf 3 0),(14,Qf 4 0),(15,AV.bool b15),(16,ai i16)],[Qa (bF [] [CP.d zl] z0),Qa (bF [] jZ z1),Qa (bF [] JP z2),Qa (bF [] [CP.d zp] z3),Qa (bF [] [CP.d zp] z4)]⟩)
 |.h48 i17 z0 z1 z2 z3=>(48,⟨tm 339 [(3,Qf 0 0),(4,Qf 1 0),(8,Qf 2 0),(14,Qf 3 0),(17,ai i17)],[Qa (bF [] [CP.d zl] z0),Qa (bF [] jZ z1),Qa (bF [4,5] S6 z2),Qa (bF [] [CP.d zp] z3),AO.vec zi z2.t.1,AO.vec zg z2.t.q.2.1]⟩)
 |.h64bbb i20 z0 z1 z2=>(64,⟨tm 339 [(3,Qf 0 0),(4,Qf 1 0),(8,Qf 2 0),(20,ai i20)],[Qa (bF [] [CP.d zl] z0),Qa (bF [] jZ z1),Qa (bF [3,4] S6 z2),AO.vec zi z2.t.1,AO.vec zg z2.t.q.2.1]⟩)
def Rf(x0:Sem zh.sl)(x1:Sem zl):Tr (kL⊕az):=
 let a0:=zm x1.t.t.1
 let a1:=(x1.1,x1.2.1,x1.2.2.1,x1.2.2.2.1,x1.t.1,x1.t.2.1,x1.t.q.1,x1.t.q.2.1,a0,x1.t.t.2.1,x1.t.t.q.1,zm x1.t.t.q.2.1,x1.t.t.t)
 let a2:=lv a1
 let a3:=!a2.2
 let a4:=(x1.1,x1.2.2.1,x1.t.t.t,(x1.2.1,[],0,[],[],a0),[],0)
 Qc (iP a1)
 (Qc (bif a3 then Q3 else DB x0)
  (br (bif a3 then Q3 else bif In x0 !=0 then Q3 else bif !x1.1==dv then bif !x1.1==gK then !x1.1==nA else Q4 else Q4) (rE 1) (Qc (jQ a4) (Q9 (kL.h7 x0 (lp a4) 0 (x1,()) ([],[],[],[],0,[],0,0,[],[],0,()) (x1.1,x1.2.2.1,x1.t.t.t,x1.2.1,0,x1.t.t.1,0,()))))))
def dD:kL->Tr (kL⊕az)
 | .h7 l0 l9 i10 z0 z1 z2=>
  let a0:=lw l0 (l9.getD i10.toNat (zj Q6))
  let a1:=lw l0 z0.1.2.1
  let a2:=lw l0 z0.1.2.2.1
  let a3:=l0.getD (toNat a2) (zj zh)
  let a4:=oh a3.1.2.1 z0.1.2.2.2.1
  let a5:=rk a3.1.2.1 z0.1.2.2.2.1
  let a6:=a5.2!=0
  let a7:=(z2.t.2.1,a5.1,z2.t.q)
  let a8:=(a3.1,())
  let a9:=lw l0 z0.1.t.t.t
  let a10:=eS a3.1.2.1 z0.1.t.2.1
  let a11:=l0.getD (toNat a9) (zj zh)
  let a12:=getD a5.1 (toNat 0) (zj zg)
  let a13:=getD a5.1 (toNat 1) (zj zg)
  let a14:=getD a3.1.2.1 (toNat a13) (zj zi)
  let a15:=getD a3.1.2.1 (toNat a12) (zj zi)
  br (Q0 (i10<(↑l9.length:Int)))
  (Qc (zO i10 l9.length) (br (Q0 (a0<0)) (rE 6) (Q9 (kL.h7 l0 l9 (IntKind.i64.wrap (i10+1)) z0 z1 z2))))
  (br (bif Q0 (a1>=0)then Q3 else z0.1.2.2.1==z0.1.t.t.t) (rE 7) (Qc (tW l0 l9) (br (xJ l0 l9) (rE 10) (Qc (zO a2 l0.length) (br (z0.1.1==dv) (Qc a4 (br a6 (rE a5.2) (Q9 (kL.h24 0 z0 z1 (z2.1,z2.2.1,z2.2.2.1,z2.2.2.2.1,[],-1,a7) a8)))) (br (z0.1.1==gK) (Qc (zO a9 l0.length)
  (Qc (dH a3.1.2.1 z0.1.t.2.1) (br (Q0 (a10<0)) (rE 4) (Q9
  (kL.h38 0 z0 z1 (z2.1,z2.2.1,z2.2.2.1,z2.2.2.2.1,z2.t.1,z2.t.2.1,a10,()) a8 (a11.1,())))))) (br (z0.1.1==nA) (Qc a4 (br a6 (rE a5.2) (Qc (zO 0 (length a5.1)) (Qc (zO a12 (length a3.1.2.1)) (Qc (zO 1 (length a5.1)) (Qc (zO a13 (length a3.1.2.1)) (br (a14.2.1!=1) (rE 5) (Q9 (kL.h64 0 z0 z1 (z2.1,z2.2.1,z2.2.2.1,z2.2.2.2.1,[(a15.1,a15.2.1,Q3),(a14.1,a14.2.1,Q4)],z2.t.1,a7)))))))))) (Q9 (kL.h64b 0 z0 z1 z2)))))))))
 | .h24 i13 z0 z1 z2 z3=>
  let a0:=(↑(length z2.t.q.2.1):Int)
  let a1:=zO i13 (length z2.t.q.2.1)
  let a2:=getD z2.t.q.2.1 i13.toNat (zj zg)
  let a3:=zO a2 (length z3.1.2.1)
  let a4:=[getD z3.1.2.1 (toNat a2) (zj zi)]
  let a5:=Q0 (z2.t.1.length+a4.length<=1073741824)
  let a6:=IntKind.i64.wrap (i13+1)
  let a7:=z2.t.1++a4
  br (Q0 (i13<a0))
  (Qc a1 (br (a2==z3.1.2.2.1) (Qc a1 (Qc a3 (Qc a5 (Q9 (kL.h24 a6 z0 z1 (z2.1,z2.2.1,z2.2.2.1,z2.2.2.2.1,a7,i13,z2.t.q) z3))))) (Qc a1 (Qc a3 (Qc a5 (Q9 (kL.h24 a6 z0 z1 (z2.1,z2.2.1,z2.2.2.1,z2.2.2.2.1,a7,z2.t.2) z3)))))))
  (br (Q0 (z2.t.2.1<0)) (rE 1) (Q9 (kL.h64bb 0 z0 z1 z2)))
 | .h38 i16 z0 z1 z2 z3 z4=>
  let a0:=(↑(length z3.1.t.1):Int)
  let a1:=zO i16 (length z3.1.t.1)
  let a2:=getD z3.1.t.1 i16.toNat (zj zo)
  let a3:=a2.1==z2.t.q.1
  br (Q0 (i16<a0))
  (Qc (a1&&bif a3 then a1 else Q3) (Q9 (kL.h38b (bif a3 then a2.2==z0.1.t.t.t else Q4) (IntKind.i64.wrap (i16+1)) z0 z1 z2 z3 z4)))
  (rE 10)
 | .h64 i20 z0 z1 z2=>
  let a0:=(↑(length z2.t.1):Int)
  let a1:=getD z2.t.1 i20.toNat (zj zi)
  let a2:=zm z0.1.t.t.1
  let a3:=xN a2 z2.t.1
  br (Q0 (i20<a0))
  (Qc (zO i20 (length z2.t.1)) (Qc (dH z2.t.1 a1.1) (br (eS z2.t.1 a1.1!=i20) (rE 7)
  (Q9 (kL.h64 (IntKind.i64.wrap (i20+1)) z0 z1 z2)))))
  (Qc (rI a2 z2.t.1) (br (a3 !=0) (rE a3) (re (tup [Qd [str z2.1,str z2.2.1,str z2.2.2.1,str z2.2.2.2.1,
  sl zi z2.t.1,ai z2.t.2.1,Qb,Qb,str (ze.op z2.t.q.1),ai (ze.v z2.t.q.1).1,ai (ze.v z2.t.q.1).2.1,str (ze.v z2.t.q.1).2.2,str (ze.s z2.t.q.1),sl Q5 (ze.l z2.t.q.1),sl zg z2.t.q.2.1,ai z2.t.t.1],ai 0])
  [])))
 | .h64b i20 z0 _ z2=>
  let a0:=zm z0.1.t.t.1
  let a1:=xN a0 []
  br (Q0 (i20<0)) Tr.err
  (Qc (rI a0 []) (br (a1 !=0) (rE a1) (re (tup [Qd
  [str z2.1,str z2.2.1,str z2.2.2.1,str z2.2.2.2.1,Qb,ai z2.t.1,Qb,Qb,str (ze.op z2.t.2.1),ai (ze.v z2.t.2.1).1,ai (ze.v z2.t.2.1).2.1,str (ze.v z2.t.2.1).2.2,str (ze.s z2.t.2.1),sl Q5 (ze.l z2.t.2.1),Qb,ai z2.t.q.1],
  ai 0]) [])))
 | .h64bb i20 z0 z1 z2=>
  let a0:=(↑z2.t.1.length:Int)
  let a1:=z2.t.1.getD i20.toNat (zj zi)
  let a2:=zm z0.1.t.t.1
  let a3:=xN a2 z2.t.1
  br (Q0 (i20<a0))
  (Qc (zO i20 z2.t.1.length) (Qc (Q0 (i20.toNat<z2.t.1.length)) (Qc (dH z2.t.1 a1.1) (br (eS z2.t.1 a1.1!=i20) (rE 7)
  (Q9 (kL.h64bb (IntKind.i64.wrap (i20+1)) z0 z1 z2))))))
  (Qc (rI a2 z2.t.1) (br (a3 !=0) (rE a3) (re (tup [Qd
  [str z2.1,str z2.2.1,str z2.2.2.1,str z2.2.2.2.1,AV.vec 0,ai z2.t.2.1,Qb,Qb,str (ze.op z2.t.q.1),ai (ze.v z2.t.q.1).1,ai (ze.v z2.t.q.1).2.1,str (ze.v z2.t.q.1).2.2,str (ze.s z2.t.q.1),sl Q5 (ze.l z2.t.q.1),
  sl zg z2.t.q.2.1,ai z2.t.t.1],ai 0]) [AO.vec zi z2.t.1])))
 | .h38b b15 i16 z0 z1 z2 z3 z4=>
  let a0:=(↑(length z3.1.t.1):Int)
  let a1:=zO i16 (length z3.1.t.1)
  let a2:=getD z3.1.t.1 i16.toNat (zj zo)
  let a3:=a2.1==z2.t.q.1
  let a4:=IntKind.i64.wrap ((↑(length z3.1.2.1):Int)+(↑(length z4.1.2.1):Int))
  br (Q0 (i16<a0))
  (Qc (bif b15 then Q3 else a1&&bif a3 then a1 else Q3) (Q9 (kL.h38b (bif b15 then Q3 else bif a3 then a2.2==z0.1.t.t.t else Q4) (IntKind.i64.wrap (i16+1)) z0 z1 z2 z3 z4)))
  (br (!b15) (rE 10) (br (Q0 (a4>9)) (rE 13) (Qc (Q0 (length z3.1.2.1<=1073741824)) (Q9 (kL.h48 0 z0 z1 (z2.1,z2.2.1,z2.2.2.1,z2.2.2.2.1,z3.1.2.1,z3.1.2.2.1,z2.t.2.1,[],z2.t.q) z4)))))
 | .h48 i17 z0 z1 z2 z3=>
  let a0:=(↑(length z3.1.2.1):Int)
  let a1:=[getD z3.1.2.1 i17.toNat (zj zi)]
  let a2:=IntKind.i64.wrap (i17+1)
  br (Q0 (i17<a0))
  (br (i17 !=z3.1.2.2.1) (Qc (Q0 (z2.t.q.2.1.length+[i17].length<=1073741824)) (Qc (zO i17 (length z3.1.2.1)) (Qc (Q0 (z2.t.1.length+a1.length<=1073741824)) (Q9 (kL.h48 a2 z0 z1 (z2.1,z2.2.1,z2.2.2.1,z2.2.2.2.1,z2.t.1++a1,z2.t.2.1,z2.t.q.1,z2.t.q.2.1++[i17],z2.t.t) z3)))))
  (Q9 (kL.h48 a2 z0 z1 z2 z3)))
  (Q9 (kL.h64bbb 0 z0 z1 z2))
 | .h64bbb i20 z0 z1 z2=>
  let a0:=(↑z2.t.1.length:Int)
  let a1:=z2.t.1.getD i20.toNat (zj zi)
  let a2:=zm z0.1.t.t.1
  let a3:=xN a2 z2.t.1
  br (Q0 (i20<a0))
  (Qc (zO i20 z2.t.1.length) (Qc (Q0 (i20.toNat<z2.t.1.length)) (Qc (dH z2.t.1 a1.1) (br (eS z2.t.1 a1.1!=i20) (rE 7)
  (Q9 (kL.h64bbb (IntKind.i64.wrap (i20+1)) z0 z1 z2))))))
  (Qc (rI a2 z2.t.1) (br (a3 !=0) (rE a3) (re (tup [Qd
  [str z2.1,str z2.2.1,str z2.2.2.1,str z2.2.2.2.1,AV.vec 0,ai z2.t.2.1,Qb,Qb,str (ze.op z2.t.q.1),ai (ze.v z2.t.q.1).1,ai (ze.v z2.t.q.1).2.1,str (ze.v z2.t.q.1).2.2,str (ze.s z2.t.q.1),sl Q5 (ze.l z2.t.q.1),AV.vec 1,
  ai z2.t.t.1],ai 0]) [AO.vec zi z2.t.1,AO.vec zg z2.t.q.2.1])))
def De(x0:Sem zh.sl)(x1:Sem zl):=ah [zA,zg] dD 100000000 (Rf x0 x1)
def Np(x0:Sem zh.sl)(x1:Sem zl):=(De x0 x1).isSome
def V7(x0:Sem zh.sl)(x1:Sem zl):=o2 (De x0 x1)
def zhx:=FT [zh.sl,zl] [zA,zg] λx=>De x.1 x.2.1
theorem zdj:FK 19 zhx:=tw.T1 (f:=Tryz.f19) (keep:=zlu) (e:=zoc)
def Hp:=TC.addL [(76,zhA),(19,zhx)]
theorem MB:zt Hp:=tw.addL<|fc zdm<|fc zdj<|ja
end
open Go.RowKit Go.Lib in
theorem Yd:FK 73 (zN [.str,.str] [zg] (λ_=>Q3) λx=>(Lib.compareBytes x.1 x.2.1,())):=by
 refine fi (E:=Hp) ⟨Tryz.f73,kw,kw,kw⟩ λx h0 res hx=>?_
 unfold eR at hx;split at hx
 ·simp only[Tr.val,if_true,bB]at hx;subst hx;obtain⟨s,t,u⟩:=x;intro C w U ρ vals _ hr hH hnew hr0 hW;have hl:=hr.len
  match vals,hl,hr with
  | [v1,v2],_,hr=>
   have h1:=hr.rv 0 (.str s) v1 rfl rfl;have h2:=hr.rv 1 (.str t) v2 rfl rfl;cases h1 with
   |str _ hs=>
   cases h2 with
   |str _ ht=>
   refine(Tryz.strings_Compare ⟨s.toArray⟩ ⟨t.toArray⟩ w).mono ?_;rintro e w' ⟨rfl,rfl⟩;refine ef hH hnew hr0 hW (Below.refl _ _) (.int _ _ ?_);have:∀a b:List UInt8,-1<=Lib.compareBytes a b/\Lib.compareBytes a b<=1:=by
    intro a
    induction a with
    |nil=>intro b;cases b<;>simp[Lib.compareBytes]
    | cons x r ih=>
     intro b;cases b with
     |nil=>simp[Lib.compareBytes]
     | cons y q=>
      unfold Lib.compareBytes;split
      ·simp
      ·split
       ·simp
       ·exact ih q
   obtain⟨h1,h2⟩:=this s t;exact⟨Int.le_trans (by decide:(-9223372036854775808:Int)<=-1) h1,Int.le_trans h2 (by decide:(1:Int)<=9223372036854775807)⟩
 ·simp at hx
def zic:zV:=aG [.str,.str] [zg] λx=>(Lib.compareBytes x.1 x.2.1,())
theorem zd5:FK 73 zic:=Oc Yd
theorem ut:∀(f x:Nat),Lib.bitLenAux f x<=f
 |0,_=>ae _
 | f+1,x=>by
  unfold Lib.bitLenAux;split
  ·omega
  ·have:=ut f (x/2);omega
open Go.RowKit Go.Lib in
theorem Xq:FK 150 (zN [.int .u64] [zg] (λx=>Q0 (0<=x.1/\x.1<=1000000)) λx=>((Lib.bitLen x.1.toNat:Nat),())):=by
 refine fi (E:=Hp) ⟨Tryz.f150,kw,kw,kw⟩ λx h0 res hx=>?_
 unfold eR at hx;split at hx
 ·simp only[Tr.val]at hx;split at hx
  ·rename_i hc;simp only[bB]at hx;subst hx;obtain⟨n,u⟩:=x;simp only[aO]at hc;intro C w U ρ vals _ hr hH hnew hr0 hW;have hl:=hr.len
   match vals,hl,hr with
   | [v1],_,hr=>
    have h1:=hr.rv 0 (.int .u64 n) v1 rfl rfl;cases h1 with
    |int _ _ hs=>
    refine(Tryz.bits_Len n w hc.1 (Int.le_trans hc.2 (by decide))).mono ?_;rintro e w' ⟨rfl,rfl⟩;refine ef hH hnew hr0 hW (Below.refl _ _) (.int _ _ ?_);have:=ut 64 n.toNat;exact⟨Int.le_trans (by decide:(-9223372036854775808:Int)<=0) (Int.natCast_nonneg _),Int.le_trans (Int.ofNat_le.2 this) (by decide:((64:Nat):Int)<=9223372036854775807)⟩
  ·simp at hx
 ·simp at hx
def zaC:zV:=zN [.int .u64] [zg] (λx=>Q0 (0<=x.1/\x.1<=1000000)) λx=>((Lib.bitLen x.1.toNat:Nat),())
theorem Xr:FK 150 zaC:=Xq
noncomputable def zbX:=Hp.addL [(106,F91),(73,zic),(150,zaC)]
theorem qO:zt zbX:=MB.addL<|fc zjQ<|fc zd5<|fc Xr ja
end Cad
namespace Go.Proofs
open Go.RowKit Go.Shelf Go.Sort
open Bool renaming false→Q4
open Bool renaming true→Q3
open Option renaming none→Q2
open Option renaming some→Q1
open Decidable renaming decide→Q0
open Int (toNat)
open List (getD)
open List (length)
set_option maxHeartbeats 1000000 in
theorem Tryz.name52(s:ByteArray)(v1 v2 v3 v4 v5 v6 v7 v8 v9 v10 v11:Value)(W:World):Calls Tryz.prog 68 #[.agg #[.string s,v1,v2,v3,v4,v5,v6,v7,v8,v9,v10,v11]] W λe w'=>e=.returned (.string s)/\w'=W.alloc (.cells #[.string s,v1,v2,v3,v4,v5,v6,v7,v8,v9,v10,v11] 47):=by
 go_enter Tryz.func68,Tryz.ntmps68
 go_wp2
 go_ret
 exact⟨rfl,rfl⟩
set_option maxHeartbeats 4000000 in
theorem Tryz.cmp56(s t:ByteArray)(v1 v2 v3 v4 v5 v6 v7 v8 v9 v10 v11 u1 u2 u3 u4 u5 u6 u7 u8 u9 u10 u11:Value)(nb:Nat)(W:World)(hn:W.cell? ⟨nb,0,Q2⟩=Q1 (.func (.func 68) #[] #[]))(hnb:nb<W.heap.size):
  Calls Tryz.prog 72 #[.agg #[.string s,v1,v2,v3,v4,v5,v6,v7,v8,v9,v10,v11],.agg #[.string t,u1,u2,u3,u4,u5,u6,u7,u8,u9,u10,u11],.pointer (Q1 ⟨nb,0,Q2⟩)] W λe w'=>e=.returned (.int .i64 (Lib.compareBytes s.data.toList t.data.toList))/\∃q os',w'=grow (W.drewN q) os':=by
 have h52:∀(s:ByteArray)(v1 v2 v3 v4 v5 v6 v7 v8 v9 v10 v11:Value)(W':World),Calls Tryz.prog 68 #[.agg #[.string s,v1,v2,v3,v4,v5,v6,v7,v8,v9,v10,v11]] W' λe w'=>e=.returned (.string s)/\∃q os',w'=grow (W'.drewN q) os':=λs v1 v2 v3 v4 v5 v6 v7 v8 v9 v10 v11 W'=>(Tryz.name52 s v1 v2 v3 v4 v5 v6 v7 v8 v9 v10 v11 W').mono λe w' h=>⟨h.1,0,_,h.2.trans (alloc_eq_grow _ _)⟩
 have h57:∀W',Calls Tryz.prog 73 #[.string s,.string t] W' λe w'=>e=.returned (.int .i64 (Lib.compareBytes s.data.toList t.data.toList))/\∃q os',w'=grow (W'.drewN q) os':=λW'=>(Tryz.strings_Compare s t W').mono λe w' h=>⟨h.1,0,#[],by rw[h.2,grow_empty];rfl⟩
 have mixed:Tryz.prog.follows .mixedOrders=Q3:=by kernel_rfl
 generalize Lib.compareBytes s.data.toList t.data.toList=r at h57⊢
 go_enter Tryz.func72,Tryz.ntmps72
 go_wp2
 obtain⟨W2,hW2⟩:∃W2,(W.alloc (.cells #[.string s,v1,v2,v3,v4,v5,v6,v7,v8,v9,v10,v11] 47)).alloc (.cells #[.string t,u1,u2,u3,u4,u5,u6,u7,u8,u9,u10,u11] 47)=W2:=⟨_,rfl⟩;rw[hW2];have hnn:∀n os,(grow (W2.drewN n) os).cell? ⟨nb,0,Q2⟩=Q1 (.func (.func 68) #[] #[]):=cell_grown (by rw[<-hW2];simp;omega) (by rw[<-hW2,World.cell?_alloc_past _ _ _ (by simp;omega),World.cell?_alloc_past _ _ _ hnb];exact hn);have x0:∀n os,(grow (W2.drewN n) os).cell? ⟨W.heap.size,0,Q2⟩=Q1 (.string s):=cell_grown (by rw[<-hW2];simp<;>omega) (by rw[<-hW2];simp);have y0:∀n os,(grow (W2.drewN n) os).cell? ⟨W.heap.size+1,0,Q2⟩=Q1 (.string t):=cell_grown (by rw[<-hW2];simp<;>omega) (by rw[<-hW2];simp);have x1:∀n os,(grow (W2.drewN n) os).cell? ⟨W.heap.size,1,Q2⟩=Q1 v1:=cell_grown (by rw[<-hW2];simp<;>omega) (by rw[<-hW2];simp);have y1:∀n os,(grow (W2.drewN n) os).cell? ⟨W.heap.size+1,1,Q2⟩=Q1 u1:=cell_grown (by rw[<-hW2];simp<;>omega) (by rw[<-hW2];simp);have x2:∀n os,(grow (W2.drewN n) os).cell? ⟨W.heap.size,2,Q2⟩=Q1 v2:=cell_grown (by rw[<-hW2];simp<;>omega) (by rw[<-hW2];simp);have y2:∀n os,(grow (W2.drewN n) os).cell? ⟨W.heap.size+1,2,Q2⟩=Q1 u2:=cell_grown (by rw[<-hW2];simp<;>omega) (by rw[<-hW2];simp);have x3:∀n os,(grow (W2.drewN n) os).cell? ⟨W.heap.size,3,Q2⟩=Q1 v3:=cell_grown (by rw[<-hW2];simp<;>omega) (by rw[<-hW2];simp);have y3:∀n os,(grow (W2.drewN n) os).cell? ⟨W.heap.size+1,3,Q2⟩=Q1 u3:=cell_grown (by rw[<-hW2];simp<;>omega) (by rw[<-hW2];simp);have x4:∀n os,(grow (W2.drewN n) os).cell? ⟨W.heap.size,4,Q2⟩=Q1 v4:=cell_grown (by rw[<-hW2];simp<;>omega) (by rw[<-hW2];simp);have y4:∀n os,(grow (W2.drewN n) os).cell? ⟨W.heap.size+1,4,Q2⟩=Q1 u4:=cell_grown (by rw[<-hW2];simp<;>omega) (by rw[<-hW2];simp);have x5:∀n os,(grow (W2.drewN n) os).cell? ⟨W.heap.size,5,Q2⟩=Q1 v5:=cell_grown (by rw[<-hW2];simp<;>omega) (by rw[<-hW2];simp);have y5:∀n os,(grow (W2.drewN n) os).cell? ⟨W.heap.size+1,5,Q2⟩=Q1 u5:=cell_grown (by rw[<-hW2];simp<;>omega) (by rw[<-hW2];simp);have x6:∀n os,(grow (W2.drewN n) os).cell? ⟨W.heap.size,6,Q2⟩=Q1 v6:=cell_grown (by rw[<-hW2];simp<;>omega) (by rw[<-hW2];simp);have y6:∀n os,(grow (W2.drewN n) os).cell? ⟨W.heap.size+1,6,Q2⟩=Q1 u6:=cell_grown (by rw[<-hW2];simp<;>omega) (by rw[<-hW2];simp);have x7:∀n os,(grow (W2.drewN n) os).cell? ⟨W.heap.size,7,Q2⟩=Q1 v7:=cell_grown (by rw[<-hW2];simp<;>omega) (by rw[<-hW2];simp);have y7:∀n os,(grow (W2.drewN n) os).cell? ⟨W.heap.size+1,7,Q2⟩=Q1 u7:=cell_grown (by rw[<-hW2];simp<;>omega) (by rw[<-hW2];simp);have x8:∀n os,(grow (W2.drewN n) os).cell? ⟨W.heap.size,8,Q2⟩=Q1 v8:=cell_grown (by rw[<-hW2];simp<;>omega) (by rw[<-hW2];simp);have y8:∀n os,(grow (W2.drewN n) os).cell? ⟨W.heap.size+1,8,Q2⟩=Q1 u8:=cell_grown (by rw[<-hW2];simp<;>omega) (by rw[<-hW2];simp);have x9:∀n os,(grow (W2.drewN n) os).cell? ⟨W.heap.size,9,Q2⟩=Q1 v9:=cell_grown (by rw[<-hW2];simp<;>omega) (by rw[<-hW2];simp);have y9:∀n os,(grow (W2.drewN n) os).cell? ⟨W.heap.size+1,9,Q2⟩=Q1 u9:=cell_grown (by rw[<-hW2];simp<;>omega) (by rw[<-hW2];simp);have x10:∀n os,(grow (W2.drewN n) os).cell? ⟨W.heap.size,10,Q2⟩=Q1 v10:=cell_grown (by rw[<-hW2];simp<;>omega) (by rw[<-hW2];simp);have y10:∀n os,(grow (W2.drewN n) os).cell? ⟨W.heap.size+1,10,Q2⟩=Q1 u10:=cell_grown (by rw[<-hW2];simp<;>omega) (by rw[<-hW2];simp);have x11:∀n os,(grow (W2.drewN n) os).cell? ⟨W.heap.size,11,Q2⟩=Q1 v11:=cell_grown (by rw[<-hW2];simp<;>omega) (by rw[<-hW2];simp);have y11:∀n os,(grow (W2.drewN n) os).cell? ⟨W.heap.size+1,11,Q2⟩=Q1 u11:=cell_grown (by rw[<-hW2];simp<;>omega) (by rw[<-hW2];simp);have hgr:∃os0,W2=grow W os0:=⟨_,by rw[<-hW2,alloc_eq_grow,alloc_eq_grow,grow_grow]⟩;clear hW2 hn
 go_quiet_grown (first|(go_at_call 68;refine Calls.grown_of (h52 _ _ _ _ _ _ _ _ _ _ _ _ _))|(go_at_call 73;refine Calls.grown_of (h57 _)))
 obtain⟨os0,rfl⟩:=hgr
 go_wp2
 go_ret
 exact⟨rfl,nq,os0++osq,by show grow (grow (W.drewN nq) os0) osq=_;rw[grow_grow]⟩
end Go.Proofs
namespace Cad
open Go Go.Proofs Go.Sort
open AV renaming ptr→Qf
open AV renaming agg→Qd
open Tr renaming chk→Qc
open AV renaming nils→Qb
open AO renaming box→Qa
open Tr renaming «to»→Q9
open Sh renaming bool→Q7
open Sh renaming str→Q6
open Sh renaming expr→Q5
open Bool renaming false→Q4
open Bool renaming true→Q3
open Option renaming none→Q2
open Option renaming some→Q1
open Decidable renaming decide→Q0
open Int (toNat)
open List (getD)
open List (length)
set_option maxHeartbeats 4000000
open Tr (chk br)
open AV (nils agg tup ptr kb str sl)
abbrev Pl(w:World)(U:Nat->Prop)(ρ:Nat->Option Value)(e:Sh)(G:Sem e->Prop):={p:List Value×Sem e//p.1.length=e.size/\(∀v∈p.1,v.oneCell'=Q3)/\(∀(j:Nat)(c:AV),(zq e p.2)[j]?=Q1 c->∃v,p.1[j]?=Q1 v/\Rv w U ρ c v)/\G p.2}
section
variable {w:World} {U:Nat->Prop} {ρ:Nat->Option Value} {e:Sh} {G:Sem e->Prop}
theorem uQ{α:Type}[Inhabited α]{enc:α->List Value}{k g n:Nat}{os:Array Obj}{cur:Array Value}{T:TypeId}(d:Array α)(hb:w.heap[g]?=Q1 (.cells cur T (0,0))):
  (sortWorldK enc k w g 0 n d os).heap[g]?=Q1 (.cells (putCells id 0 (flatK enc k d) cur) T (0,0)):=by
 have hg:g<w.heap.size:=(dU.1 hb).1;unfold sortWorldK;rw[heap_grow_old _ _ (by simpa[putRowK]using hg)];simp[putRowK,putRow,mapBlock,Sort.ahead,uj,hb,onCells]
theorem gX{α:Type}[Inhabited α]{enc:α->List Value}{k g n:Nat}{os:Array Obj}(d:Array α){b:Nat}(hb:b<w.heap.size)(hne:b≠g):(sortWorldK enc k w g 0 n d os).heap[b]?=w.heap[b]?:=by
 unfold sortWorldK;rw[heap_grow_old _ _ (by simpa[putRowK]using hb)];have:g≠b:=λe=>hne e.symm
 simp[putRowK,putRow,mapBlock,Sort.ahead,uj,this]
theorem R3{id:Nat}{l:List (Sem e)}{v:Value}(_:0<e.size)(ho:bA w U ρ id (.vec e l))(hv:ρ id=Q1 v)(hl:l≠[])(hG:∀x∈l,G x):
  ∃(B cap:Nat)(T:TypeId)(arr:Array Value)(d:Array (Pl w U ρ e G)),v=.slice (Q1 ⟨B,0,Q2⟩) l.length cap/\U B/\w.heap[B]?=Q1 (.cells arr T (0,0))/\arr.size=cap*e.size/\l.length<=cap/\l.length<=aF/\0<cap/\
   d.size=l.length/\d.toList.map (λp=>p.1.2)=l/\∀i(hi:i<d.size)(j:Nat),j<e.size->arr[i*e.size+j]?=d[i].1.1[j]?:=by
 obtain⟨a,c,h1,hm,h3⟩:=ho;rw[hv]at h1;cases h1;rcases h3 with⟨h,_⟩|⟨B,T,arr,rfl,hc,hUB,hB,hsz,hle,hr⟩
 ·exact absurd h hl
 have hex:∀i(hi:i<l.length) j,j<e.size->∃cc x,(zq e l[i])[j]?=Q1 cc/\arr[i*e.size+j]?=Q1 x/\Rv w U ρ cc x/\x.oneCell'=Q3:=by
  intro i hi j hj;have hget:(zq e l[i])[j]?=Q1 ((zq e l[i])[j]'(by rw[zW];exact hj)):=zQ _;obtain⟨x,h1,h2⟩:=hr i hi j _ hget;exact⟨_,x,hget,h1,h2,fL e l[i] j _ x hget h2⟩
 refine⟨B,c,T,arr,Array.ofFn λi:Fin l.length=>⟨((List.range e.size).map λj=>(arr[i.1*e.size+j]?).getD undef,l[i.1]),sw,λx hx=>?_,λj cc hcc=>?_,hG _ (bG _)⟩,rfl,hUB,hB,hsz,hle,hm,hc,sw,?_,λi hi j hj=>?_⟩
 ·obtain⟨j,hj,rfl⟩:=bn.1 hx;obtain⟨cc,y,_,h2,_,h4⟩:=hex i.1 i.2 j (by simpa using hj);rw[h2];exact h4
 ·have hj:j<e.size:=by have:=(dh.1 hcc).1;rwa [zW]at this
  obtain⟨c',y,h1,h2,h3,_⟩:=hex i.1 i.2 j hj;have h1':(zq e l[i.1])[j]?=Q1 cc:=hcc;rw[h1']at h1;cases h1;refine⟨y,?_,h3⟩;rw[fA,ym hj];simp[h2]
 ·apply List.ext_getElem
  ·simp
  ·intro i h1 h2;simp
 ·have hi':i<l.length:=by simpa using hi
  obtain⟨c',y,h1,h2,h3,_⟩:=hex i hi' j hj;rw[h2];simp only[Array.getElem_ofFn];rw[fA,ym hj];simp[h2]
theorem W0{hp:Nat->AO}{id n f:Nat}{l:List (Sem e)}{v fv:Value}(cfS:Sem e->Sem e->Int)(hpos:0<e.size)(hub:∀b,U b->b<w.heap.size)(ho:hp id=.vec e l)(hoo:bA w U ρ id (.vec e l))(hv:ρ id=Q1 v)(hl:l≠[])(hG:∀x∈l,G x)
  (hcall:∀(_:Inhabited (Pl w U ρ e G))(B cap:Nat)(d:Array (Pl w U ρ e G)),d.size=l.length->HoldsK (λp=>p.1.1) e.size w B 0 d->B<w.heap.size->aj ρ id (.vec e l) B->
   Calls Tryz.prog f #[.slice (Q1 ⟨B,0,Q2⟩) d.size cap,fv] w λe' w'=>e'=.returned (.tuple #[])/\∃(d':Array (Pl w U ρ e G))(m:Nat)(os:Array Obj),PermIn 0 d.size d d'/\SortedIn (ltOf λp q=>cfS p.1.2 q.1.2) 0 d.size d'/\w'=sortWorldK (λp=>p.1.1) e.size w B 0 m d' os):
  Calls Tryz.prog f #[v,fv] w λe' w'=>∃l',List.Perm l' l/\l'.Pairwise (λx y=>¬cfS y x<0)/\∃v' U' ρ',e'=.returned v'/\Ef n hp {val:=.tup [],wr:=[(id,.vec e l')]} w U ρ v' w' U' ρ':=by
 obtain⟨B,cap,T,arr,d,rfl,hUB,hB,hsz,hle,hm,hc0,hds,hdm,hda⟩:=R3 (G:=G) hpos hoo hv hl hG;have hd0:0<d.size:=by rw[hds];exact List.length_pos_iff.2 hl
 have hBlt:=hub B hUB;have hown:aj ρ id (.vec e l) B:=⟨rfl,_,hv,by simp[fa];omega⟩
 letI inst:Inhabited (Pl w U ρ e G):=⟨d[0]⟩
 have hH:HoldsK (λp:Pl w U ρ e G=>p.1.1) e.size w B 0 d:=by
  intro t ht;rw[size_flatK]at ht;have hq:t/e.size<d.size:=(Nat.div_lt_iff_lt_mul hpos).2 ht;have hr:t%e.size<e.size:=Nat.mod_lt _ hpos;have hk:=hda _ hq _ hr;have hdm':t/e.size*e.size+t%e.size=t:=by have:=Nat.div_add_mod t e.size;rw[Nat.mul_comm]at this;exact this
  rw[hdm']at hk;have hlen:d[t/e.size].1.1.length=e.size:=d[t/e.size].2.1;rw[zQ (by rw[hlen];exact hr)]at hk;refine⟨?_,by simp[World.frozen?,hB]⟩;rw[get_flatK _ _ _ _ ht,getElem!_pos d _ hq,getElem!_pos _ _ (by rw[hlen];exact hr)];simp[World.cell?,hB,hk]
 have hca:=hcall inst B cap d hds hH hBlt hown;rw[hds]at hca;refine hca.mono ?_;rintro e' w' ⟨rfl,d',m,os,hp',hsd,rfl⟩;rw[<-hds]at hp' hsd;obtain⟨hs',_,hperm⟩:=hp';have hds':d'.size=l.length:=by rw[hs',hds]
 have hpl:d'.toList.Perm d.toList:=by
  have e1:d'.extract 0 d.size=d':=by rw[<-hs'];simp
  have e2:d.extract 0 d.size=d:=by simp
  rwa [e1,e2]at hperm
 have hB':=uQ (enc:=λp:Pl w U ρ e G=>p.1.1) (k:=e.size) (n:=m) (os:=os) d' hB;have hoth:∀b,b<w.heap.size->b≠B->(sortWorldK (λp:Pl w U ρ e G=>p.1.1) e.size w B 0 m d' os).heap[b]?=w.heap[b]?:=λb hb hne=>gX d' hb hne
 have hsize:w.heap.size<=(sortWorldK (λp:Pl w U ρ e G=>p.1.1) e.size w B 0 m d' os).heap.size:=by
  unfold sortWorldK grow putRowK;simp[Sort.ahead]
 have hext:mg w (sortWorldK (λp:Pl w U ρ e G=>p.1.1) e.size w B 0 m d' os):=⟨hsize,rfl,rfl,rfl,λa ha=>by
  by_cases hab:a.block=B
  ·unfold World.frozen?;rw[hab,hB',hB]
  ·exact BD (hoth a.block ha hab)⟩
 generalize sortWorldK (λp:Pl w U ρ e G=>p.1.1) e.size w B 0 m d' os=w' at hB' hoth hsize hext;have hmono:∀{c:AV}{x:Value},Rv w U ρ c x->Rv w' U ρ c x:=λh=>h.mono hsize (λb hb hU=>hoth b hb λhe=>hU (he▸hUB)) (λ_ _ h=>h) (λ_ _ h=>h)
 have hl':(d'.toList.map λp=>p.1.2).length=l.length:=by simp[hds']
 refine⟨d'.toList.map λp=>p.1.2,by rw[<-hdm];exact hpl.map _,?_,_,U,ρ,rfl,?_⟩
 ·rw[List.pairwise_map];refine List.pairwise_iff_getElem.2 λi j hi hj hij=>?_
  have hi':i<d'.size:=by simpa using hi
  have hj':j<d'.size:=by simpa using hj
  have:=hsd i j (aY _) hij (by rw[<-hs'];exact hj');rw[getElem!_pos d' _ hj',getElem!_pos d' _ hi']at this;simp only[ltOf,decide_eq_false_iff_not]at this;simpa using this
 ·have hobj:bA w' U ρ id (.vec e (d'.toList.map λp=>p.1.2)):=by
   refine⟨Q1 ⟨B,0,Q2⟩,cap,by rw[hl'];exact hv,by rw[hl'];exact hm,.inr ⟨B,T,_,rfl,hc0,hUB,hB',by simp[putCells,hsz],by rw[hl'];exact hle,?_⟩⟩;intro i hi j c hc;have hi':i<d'.size:=by rw[hds',<-hl'];exact hi
   have hj:j<e.size:=by have:=(dh.1 hc).1;rwa [zW]at this
   have hc':(zq e d'[i].1.2)[j]?=Q1 c:=by simpa using hc
   obtain⟨x,h1,h2⟩:=d'[i].2.2.2.1 j c hc';refine⟨x,?_,hmono h2⟩;have ht:i*e.size+j<d'.size*e.size:=by
    have:=g7 e.size (yq hi');rw[kN]at this;omega
   have ht2:i*e.size+j<arr.size:=by
    rw[hsz];have:=g7 e.size (show d'.size<=cap by rw[hds'];exact hle);omega
   have h1':(i*e.size+j)/e.size=i:=by
    rw[oO,Nat.add_mul_div_right _ _ hpos,Nat.div_eq_of_lt hj];omega
   have h2':(i*e.size+j)%e.size=j:=by
    rw[oO,Nat.add_mul_mod_self_right,Nat.mod_eq_of_lt hj]
   have hfl:=get_flatK (λp:Pl w U ρ e G=>p.1.1) e.size d' _ ht;rw[h1',h2',getElem!_pos d' _ hi']at hfl;have hx:d'[i].1.1[j]! =x:=by
    obtain⟨hlt,he⟩:=dh.1 h1;rw[getElem!_pos d'[i].1.1 j hlt];exact he
   rw[hx]at hfl;rw[getElem!_pos _ _ (by simpa using ht)]at hfl;simp[putCells,ht2,ht,hfl]
  have hownb:∀b,aj ρ id (.vec e (d'.toList.map λp=>p.1.2)) b->b=B:=by
   rintro b ⟨_,v,h1,h2⟩;rw[hv]at h1;cases h1;simp[fa]at h2;exact h2.2.symm
  refine⟨hext,.tup [] [] rfl sw,λid' o h=>?_,sw,λ_ _=>rfl,λ_ _ h=>h,λb hb hno=>hoth b hb λhe=>hno id (.vec e (d'.toList.map λp=>p.1.2)) sw (by rw[ho,he];exact hown),λb h=>ia (hub b h) hsize,λ_ _ h=>h,λ_ _ h _=>h,?_,?_⟩
  ·simp at h;obtain⟨rfl,rfl⟩:=h;exact hobj
  ·intro id' o b h hb;refine .inr ⟨id,.vec e (d'.toList.map λp=>p.1.2),sw,?_⟩;rcases h with h|⟨_,h⟩
   ·simp at h;obtain⟨rfl,rfl⟩:=h;rw[hownb b hb,ho];exact hown
   ·simp at h
  ·intro id1 o1 id2 o2 b h1 h2 _ _;rcases h1 with h1|⟨_,h1⟩
   ·rcases h2 with h2|⟨_,h2⟩
    ·simp at h1 h2;rw[h1.1,h2.1]
    ·simp at h2
   ·simp at h1
end
end Cad
