/- The document's parser. -/
import Derived.Test.YtjfdpfapcmcncaaGreatDoorH13
import Derived.Test.YtjfdpfapcmcncaaGreatDoorH10
import Derived.Shelf.SlSortCmp.InsertionK
import Derived.Sort.OwnSorted
namespace Cad
open Go Go.Proofs
open List renaming length→Io
open IntKind renaming wrap→Γ,i64→Δ
open AV renaming ptr→Qf,agg→Qd,nils→Qb
open Tr renaming chk→Qc,«to»→Q9
open AO renaming box→Qa
open Sh renaming bool→Q7,str→Q6,expr→Q5
open Bool renaming false→Q4,true→Q3
open Option renaming none→Q2,some→Q1
open Decidable renaming decide→Q0
open Int (toNat)
open List (getD)
set_option maxHeartbeats 4000000
open Tr (chk br re)
open AV (nils agg tup ptr kb str sl)
noncomputable section
abbrev zn8:=lu [(17,[2,4,6,7,8]),(25,[2,4,6,7,9])]
inductive RH where
 |h17 (l4:LF) (z0:zm jk) (z1:zm aC) (z2:zm jk)
 |h25 (l4:LF) (z0:zm jk) (z1:zm aC) (z2:zm jk)
abbrev zqS:RH->Nat×St
 |.h17 h z o u=>(17,⟨tm 172 [(2,Qf 0 0),(4,sl zp h),(6,Qf 1 0),(7,Qf 2 0),(8,kb Q3)],[Qa (bf [] jk z),Qa (bf [] aC o),Qa (bf [] jk u)]⟩)
 |.h25 h z o u=>(25,⟨tm 172 [(2,Qf 0 0),(4,sl zp h),(6,Qf 1 0),(7,Qf 2 0),(9,kb Q3)],[Qa (bf [] jk z),Qa (bf [] aC o),Qa (bf [] jk u)]⟩)
def zr7(x0:TS):Tr (RH⊕aw):=
 let a0:=((AH x0).1,0,Q3,())
 let a1:=fx a0 Z9
 let a2:=(a1.2.1,a1.2.2.1,a1.2.2.2.1,())
 let a3:=fx a2 zad
 let a4:=(a3.2.1,a3.2.2.1,a3.2.2.2.1,())
 let a5:=bI a4 zal
 let a6:=(a5.1,a5.2.1,a5.2.2.1,())
 let a7:=bT a6
 let a8:=(↑(Io (AH x0).1):Int)
 let a9:=(Fr,a7.1,[],[],[],[],[],[],zf.mk [] (0,0,[]) [] [],[],[],zf.mk [] (0,0,[]) [] [],[])
 let x8:=lJ a9
 let D:=fx a4 zaf
 let E:=(D.2.1,D.2.2.1,D.2.2.2.1,())
 let Z:=bI E zag
 let h4:=(Z.1,Z.2.1,Z.2.2.1,())
 let F:=bT h4
 let h5:=(F.2.1,F.2.2.1,F.2.2.2.1,())
 let h0:=bI h5 zan
 let h6:=(h0.1,h0.2.1,h0.2.2.1,())
 let H:=fx E zam
 let I:=(H.2.1,H.2.2.1,H.2.2.2.1,())
 let J:=bT I
 let h7:=(J.2.1,J.2.2.1,J.2.2.2.1,())
 let L:=fx I zab
 let M:=(L.2.1,L.2.2.1,L.2.2.2.1,())
 let h1:=bI M uL
 let h8:=(h1.1,h1.2.1,h1.2.2.1,())
 let B:=bT h8
 let h9:=(B.2.1,B.2.2.1,B.2.2.2.1,())
 let o:=eS h9 gE
 let x1:=(Kn,B.1,[],[],[],[],[],[],zf.mk [] (0,0,[]) [] [],[],[],zl o.1,[])
 let x9:=lJ x1
 let O:=fx M zak
 let S:=(O.2.1,O.2.2.1,O.2.2.2.1,())
 let h2:=bI S [42]
 let x2:=(h2.1,h2.2.1,h2.2.2.1,())
 let h3:=bI x2 uL
 let x3:=(h3.1,h3.2.1,h3.2.2.1,())
 let C:=bT x3
 let x4:=(C.2.1,C.2.2.1,C.2.2.2.1,())
 let u:=eS x4 gE
 let x5:=(pO,C.1,[],[],[],[],[],[],zf.mk [] (0,0,[]) [] [],[],[],zl u.1,[])
 let i0:=lJ x5
 let T:=fx S zae
 let W:=(T.2.1,T.2.2.1,T.2.2.2.1,())
 let i1:=MQ W R5
 let X:=fx W zai
 let Y:=(X.2.1,X.2.2.1,X.2.2.2.1,())
 let i2:=MQ Y R5
 let z:=fx Y zah
 let x6:=(z.2.1,z.2.2.1,z.2.2.2.1,())
 let h:=zep x6 ([],[],[],[],[],0,0,[],[],[],0,0,[],[],[],())
 let x7:=(h.2.1,h.2.2.1,h.2.2.2.1,h.t.1,[],h.t.2.1,[],[],zl h.t.q.1,[],[],zf.mk h.t.q.2.1 (h.t.t.1,h.t.t.2.1,h.t.t.q.1) h.t.t.q.2.1 [],h.t.t.t.1)
 let i3:=lJ x7
 Qc (Jz x0)
 (br (!(AH x0).2)
  (re (tup [Qd [str [],str [],str [],Qb,Qb,str [],Qb,Qb,str [],ai 0,ai 0,str [],str [],Qb,Qb,Qb,str [],ai 0,ai 0,str [],str [],Qb,str []],kb Q4]) [])
  (Qc (ea a0 Z9) (br a1.1 Tr.err (Qc (ea a2 zad) (br a3.1 (Qc (aW a4 zal) (Qc (bu a6) (br (cond (!a7.2.2.2.1) Q3 (a7.2.2.1!=a8)) (re (tup [Qd [str [],str [],str [],Qb,Qb,str [],Qb,Qb,str [],ai 0,
  ai 0,str [],str [],Qb,Qb,Qb,str [],ai 0,ai 0,str [],str [],Qb,str []],kb Q4]) []) (Qc (iN a9) (br (!x8.2) (re (tup [Qd [str [],str [],str [],Qb,Qb,str [],Qb,Qb,str [],ai 0,
  ai 0,str [],str [],Qb,Qb,Qb,str [],ai 0,ai 0,str [],str [],Qb,str []],kb Q4]) []) (re (tup [Qd [str Fr,str a7.1,str [],Qb,Qb,str [],Qb,Qb,str [],
  ai 0,ai 0,str [],str [],Qb,Qb,Qb,str [],ai 0,ai 0,str [],str [],Qb,str []],kb Q3]) [])))))) (Qc (ea a4 zaf) (br D.1 (Qc (aW E zag) (Qc (bu h4) (Qc (aW h5 zan) (Qc (aW h6 [40]) (Q9
  (RH.h17 (AH x0).1 ([],[],[],[],[],0,0,[],[],[],0,0,[],[],[],()) (bI h6 [40]) (H7,F.1,[],[],[],0,0,[],[],[],0,0,[],[],[],()))))))) (Qc (ea E zam) (br H.1 (Qc (bu I) (Qc (aW h7 [83,69,84]) (Q9
  (RH.h25 (AH x0).1 ([],[],[],[],[],0,0,[],[],[],0,0,[],[],[],()) (bI h7 [83,69,84]) (px,J.1,[],[],[],0,0,[],[],[],0,0,[],[],[],()))))) (Qc (ea I zab) (br L.1 (Qc (aW M uL) (Qc (bu h8) (Qc (dO h9 gE)
  (br (cond (!o.2.2.2.1) Q3 (o.2.2.1!=a8)) (re (tup [Qd [str [],str [],str [],Qb,Qb,str [],Qb,Qb,str [],ai 0,ai 0,str [],str [],Qb,Qb,Qb,str [],ai 0,ai 0,str [],str [],Qb,str []],kb Q4]) []) (Qc (iN x1) (br (!x9.2)
  (re (tup [Qd [str [],str [],str [],Qb,Qb,str [],Qb,Qb,str [],ai 0,ai 0,str [],str [],Qb,Qb,Qb,str [],ai 0,ai 0,str [],str [],Qb,str []],kb Q4]) []) (re (tup [Qd
  [str Kn,str B.1,str [],Qb,Qb,str [],Qb,Qb,str [],ai 0,ai 0,str [],str [],Qb,Qb,Qb,str (zf.op o.1),ai (zf.v o.1).1,ai (zf.v o.1).2.1,str (zf.v o.1).2.2,str (zf.s o.1),sl Q5 (zf.l o.1),str []],
  kb Q3]) []))))))) (Qc (ea M zak) (br O.1 (Qc (aW S [42]) (Qc (aW x2 uL) (Qc (bu x3) (Qc (dO x4 gE) (br (cond (!u.2.2.2.1) Q3 (u.2.2.1!=a8)) (re (tup [Qd
  [str [],str [],str [],Qb,Qb,str [],Qb,Qb,str [],ai 0,ai 0,str [],str [],Qb,Qb,Qb,str [],ai 0,ai 0,str [],str [],Qb,str []],kb Q4]) []) (Qc (iN x5) (br (!i0.2) (re (tup [Qd
  [str [],str [],str [],Qb,Qb,str [],Qb,Qb,str [],ai 0,ai 0,str [],str [],Qb,Qb,Qb,str [],ai 0,ai 0,str [],str [],Qb,str []],kb Q4]) []) (re (tup [Qd
  [str pO,str C.1,str [],Qb,Qb,str [],Qb,Qb,str [],ai 0,ai 0,str [],str [],Qb,Qb,Qb,str (zf.op u.1),ai (zf.v u.1).1,ai (zf.v u.1).2.1,str (zf.v u.1).2.2,str (zf.s u.1),sl Q5 (zf.l u.1),str []],
  kb Q3]) [])))))))) (Qc (ea S zae) (br T.1 (Qc (JM W R5) (br i1.1 Tr.err Tr.err)) (Qc (ea W zai) (br X.1 (Qc (JM Y R5) (br i2.1 Tr.err Tr.err)) (Qc (ea Y zah) (br z.1
  (Qc (X0 x6 ([],[],[],[],[],0,0,[],[],[],0,0,[],[],[],())) (br (cond (!h.1.2.2.1) Q3 (h.1.2.1!=a8)) (re (tup [Qd [str [],str [],str [],Qb,Qb,str [],Qb,Qb,str [],ai 0,ai 0,str [],str [],Qb,Qb,Qb,str [],
  ai 0,ai 0,str [],str [],Qb,str []],kb Q4]) []) (Qc (iN x7) (br (!i3.2) (re (tup [Qd [str [],str [],str [],Qb,Qb,str [],Qb,Qb,str [],ai 0,ai 0,str [],str [],Qb,Qb,Qb,
  str [],ai 0,ai 0,str [],str [],Qb,str []],kb Q4]) []) (re (tup [Qd [str h.2.1,str h.2.2.1,str h.2.2.2.1,AV.vec 0,Qb,str h.t.2.1,Qb,Qb,str (zf.op h.t.q.1),ai (zf.v h.t.q.1).1,ai (zf.v h.t.q.1).2.1,
  str (zf.v h.t.q.1).2.2,str (zf.s h.t.q.1),sl Q5 (zf.l h.t.q.1),Qb,Qb,str h.t.q.2.1,ai h.t.t.1,ai h.t.t.2.1,str h.t.t.q.1,str h.t.t.q.2.1,Qb,str h.t.t.t.1],kb Q3])
  [AO.vec Q6 h.t.1]))))) (br (cond (!z.2.2.2.1) Q3 (z.2.2.1!=a8)) (re (tup [Qd [str [],str [],str [],Qb,Qb,str [],Qb,Qb,str [],ai 0,ai 0,str [],str [],Qb,Qb,Qb,str [],ai 0,ai 0,str [],str [],Qb,str []],kb Q4]) [])
  (Qc Q3 (br Q3 (re (tup [Qd [str [],str [],str [],Qb,Qb,str [],Qb,Qb,str [],ai 0,ai 0,str [],str [],Qb,Qb,Qb,str [],ai 0,ai 0,str [],str [],Qb,str []],kb Q4]) []) (re (tup [Qd
  [str [],str [],str [],Qb,Qb,str [],Qb,Qb,str [],ai 0,ai 0,str [],str [],Qb,Qb,Qb,str [],ai 0,ai 0,str [],str [],Qb,str []],kb Q3]) [])))))))))))))))))))))))
def zsG:RH->Tr (RH⊕aw)
 | .h17 D _ o z=>
  let u:=(o.1,o.2.1,o.2.2.1,())
  let B:=bI u [41]
  let h:=(z.1,z.2.1,z.2.2.1,[],[],z.2.2.2.1,[],[],zf.mk z.t.1 (z.t.2.1,z.t.q.1,z.t.q.2.1) z.t.t.1 [],[],[],zf.mk z.t.t.2.1 (z.t.t.q.1,z.t.t.q.2.1,z.t.t.t.1) z.t.t.t.2.1 [],z.t.t.t.q.1)
  let C:=lJ h
  br o.2.2.1 Tr.err
  (Qc (aW u [41])
   (br (cond (!B.2.2.1) Q3 (B.2.1!=(↑D.length:Int))) (re (tup [Qd [str [],str [],str [],Qb,Qb,str [],Qb,Qb,str [],ai 0,ai 0,str [],str [],Qb,Qb,Qb,str [],ai 0,ai 0,str [],str [],Qb,str []],kb Q4]) []) (Qc (iN h)
   (br (!C.2) (re (tup [Qd [str [],str [],str [],Qb,Qb,str [],Qb,Qb,str [],ai 0,ai 0,str [],str [],Qb,Qb,Qb,str [],ai 0,ai 0,str [],str [],Qb,str []],kb Q4]) []) (re (tup [Qd
   [str z.1,str z.2.1,str z.2.2.1,Qb,Qb,str z.2.2.2.1,Qb,Qb,str z.t.1,ai z.t.2.1,ai z.t.q.1,str z.t.q.2.1,str z.t.t.1,Qb,Qb,Qb,str z.t.t.2.1,ai z.t.t.q.1,
   ai z.t.t.q.2.1,str z.t.t.t.1,str z.t.t.t.2.1,Qb,str z.t.t.t.q.1],kb Q3]) [])))))
 | .h25 D _ o z=>
  let u:=(o.1,o.2.1,o.2.2.1,())
  let B:=bT u
  let h:=eS u gE
  let C:=(z.1,z.2.1,z.2.2.1,[],[],z.2.2.2.1,[],[],zf.mk z.t.1 (z.t.2.1,z.t.q.1,z.t.q.2.1) z.t.t.1 [],[],[],zl h.1,z.t.t.t.q.1)
  let E:=lJ C
  br o.2.2.1 (Qc (bu u) (Qc (aW (B.2.1,B.2.2.1,B.2.2.2.1,()) [61]) Tr.err))
  (Qc (dO u gE)
   (br (cond (!h.2.2.2.1) Q3 (h.2.2.1!=(↑D.length:Int))) (re (tup [Qd [str [],str [],str [],Qb,Qb,str [],Qb,Qb,str [],ai 0,ai 0,str [],str [],Qb,Qb,Qb,str [],ai 0,ai 0,str [],str [],Qb,str []],kb Q4]) []) (Qc (iN C)
   (br (!E.2) (re (tup [Qd [str [],str [],str [],Qb,Qb,str [],Qb,Qb,str [],ai 0,ai 0,str [],str [],Qb,Qb,Qb,str [],ai 0,ai 0,str [],str [],Qb,str []],kb Q4]) []) (re (tup [Qd
   [str z.1,str z.2.1,str z.2.2.1,Qb,Qb,str z.2.2.2.1,Qb,Qb,str z.t.1,ai z.t.2.1,ai z.t.q.1,str z.t.q.2.1,str z.t.t.1,Qb,Qb,Qb,str (zf.op h.1),ai (zf.v h.1).1,ai (zf.v h.1).2.1,
   str (zf.v h.1).2.2,str (zf.s h.1),sl Q5 (zf.l h.1),str z.t.t.t.q.1],kb Q3]) [])))))
def Ew(h:TS):=an [zn,Q7] zsG 100000000 (zr7 h)
def XW(h:TS):=(Ew h).isSome
def cN(h:TS):=o2 (Ew h)
def zko:=FT [Q6] [zn,Q7] λx=>Ew x.1
theorem zf2:FK 52 zko:=GI.T1 (f:=Tryz.f52) (keep:=zn8) (e:=zqS)
def zdt:=zds.add 52 zko
theorem GJ:zw zdt:=GI.add zf2
end
noncomputable def zr3(h:TS):Tr (Empty⊕aw):=
 Qc (XW h)
 (re
  (Qd [str (cN h).1.1,str (cN h).1.2.1,str (cN h).1.2.2.1,sl Q6 (cN h).1.2.2.2.1,sl zj (cN h).1.t.1,str (cN h).1.t.2.1,sl Q6 (cN h).1.t.q.1,sl (Sh.str.pr Q6) (cN h).1.t.q.2.1,str (zf.op (cN h).1.t.t.1),
  ai (zf.v (cN h).1.t.t.1).1,ai (zf.v (cN h).1.t.t.1).2.1,str (zf.v (cN h).1.t.t.1).2.2,str (zf.s (cN h).1.t.t.1),sl Q5 (zf.l (cN h).1.t.t.1),sl ze (cN h).1.t.t.2.1,sl (Sh.str.pr Q5) (cN h).1.t.t.q.1,
  str (zf.op (cN h).1.t.t.q.2.1),ai (zf.v (cN h).1.t.t.q.2.1).1,ai (zf.v (cN h).1.t.t.q.2.1).2.1,str (zf.v (cN h).1.t.t.q.2.1).2.2,str (zf.s (cN h).1.t.t.q.2.1),sl Q5 (zf.l (cN h).1.t.t.q.2.1),
  str (cN h).1.t.t.t])
  [])
noncomputable def Wx(h:TS):=an [zn] t0 100000000 (zr3 h)
noncomputable def zon(h:TS):=(Wx h).isSome
noncomputable def zsu(h:TS):=o1 (Wx h)
noncomputable def zjQ:=FT [Q6] [zn] λx=>Wx x.1
theorem zfp:FK 23 zjQ:=GJ.T1 (f:=Tryz.f23) (keep:=k0) (e:=e0)
noncomputable def zdu:=zdt.add 23 zjQ
theorem kM:zw zdu:=GJ.add zfp
noncomputable section
def zdV(h:Sem ze)(o:Sem ze):Tr (Empty⊕aw):=
 let z:=h.1==o.1&&(h.2.1==o.2.1&&(h.2.2==o.2.2&&Q3))
 let u:=bb z
 Qc (nv h o)
 (br (rL h o) (re (Qd [ai 0,ai 0,str []]) [])
  (Qc (lF z) (re (Qd [ai u.1,ai u.2.1,str u.2.2]) [])))
def qy(h:Sem ze)(o:Sem ze):=an [ze] t0 100000000 (zdV h o)
def vT(h:Sem ze)(o:Sem ze):=(qy h o).isSome
def rI(h:Sem ze)(o:Sem ze):=o1 (qy h o)
def zcG:=FT [ze,ze] [ze] λx=>qy x.1 x.2.1
theorem Zn:FK 64 zcG:=kM.T1 (f:=Tryz.f64) (keep:=k0) (e:=e0)
def zdW(h:Sem ze)(o:Sem ze):Tr (Empty⊕aw):=
 let z:=Op.bytesLess h.2.2 o.2.2
 let u:=bb z
 Qc (nv h o)
 (br (rL h o) (re (Qd [ai 0,ai 0,str []]) [])
  (br (Q0 (h.2.1<o.2.1)) (Qc Q3 (re (Qd [ai (bb Q3).1,ai (bb Q3).2.1,str (bb Q3).2.2]) [])) (Qc (lF z) (re (Qd [ai u.1,ai u.2.1,str u.2.2]) []))))
def vV(h:Sem ze)(o:Sem ze):=an [ze] t0 100000000 (zdW h o)
def BA(h:Sem ze)(o:Sem ze):=(vV h o).isSome
def yv(h:Sem ze)(o:Sem ze):=o1 (vV h o)
def zcI:=FT [ze,ze] [ze] λx=>vV x.1 x.2.1
theorem Zp:FK 65 zcI:=kM.T1 (f:=Tryz.f65) (keep:=k0) (e:=e0)
def zdX(o:Sem ze)(h:Sem ze):Tr (Empty⊕aw):=
 let z:=Γ Δ (9223372036854775807-h.2.1)
 let B:=Γ Δ (-9223372036854775808-h.2.1)
 let u:=bif Q0 (h.2.1<0)then Q0 (o.2.1<B)else Q4
 Qc (nv o h)
 (br (cond (rL o h) Q3 (o.1!=1)) (re (Qd [ai 0,ai 0,str []]) [])
  (br (cond (Q0 (h.2.1>0)) (cond (Q0 (o.2.1>z)) Q3 u) u) (re (Qd [ai 0,ai 0,str []]) []) (re (Qd [ai 1,ai (Γ Δ (o.2.1+h.2.1)),str []]) [])))
def rK(h:Sem ze)(o:Sem ze):=an [ze] t0 100000000 (zdX h o)
def vY(h:Sem ze)(o:Sem ze):=(rK h o).isSome
def yx(h:Sem ze)(o:Sem ze):=o1 (rK h o)
def zcJ:=FT [ze,ze] [ze] λx=>rK x.1 x.2.1
theorem Zq:FK 66 zcJ:=kM.T1 (f:=Tryz.f66) (keep:=k0) (e:=e0)
def zdY(o:Sem ze)(h:Sem ze):Tr (Empty⊕aw):=
 let z:=Γ Δ (-9223372036854775808+h.2.1)
 let B:=Γ Δ (9223372036854775807+h.2.1)
 let u:=bif Q0 (h.2.1<0)then Q0 (o.2.1>B)else Q4
 Qc (nv o h)
 (br (cond (rL o h) Q3 (o.1!=1)) (re (Qd [ai 0,ai 0,str []]) [])
  (br (cond (Q0 (h.2.1>0)) (cond (Q0 (o.2.1<z)) Q3 u) u) (re (Qd [ai 0,ai 0,str []]) []) (re (Qd [ai 1,ai (Γ Δ (o.2.1-h.2.1)),str []]) [])))
def qz(h:Sem ze)(o:Sem ze):=an [ze] t0 100000000 (zdY h o)
def vW(h:Sem ze)(o:Sem ze):=(qz h o).isSome
def rJ(h:Sem ze)(o:Sem ze):=o1 (qz h o)
def zcK:=FT [ze,ze] [ze] λx=>qz x.1 x.2.1
theorem Zr:FK 67 zcK:=kM.T1 (f:=Tryz.f67) (keep:=k0) (e:=e0)
def zdK(h:Sem Q5)(o:Sem zj.sl):Tr (Empty⊕aw):=
 br (zf.op h==[])
 (Qc (gO (zl h) (zf.mk [] (0,0,[]) [] []))
  (br (!fu (zl h) (zf.mk [] (0,0,[]) [] [])) (re (ai 1) []) (re (ai 0) [])))
 (Qc (ut (zl h))
  (br (!Ed (zl h)) (re (ai 1) []) (Qc (oP (zl h) o) (br ((iK (zl h) o).2!=0) (re (ai (iK (zl h) o).2) []) (br (cond ((iK (zl h) o).1!=0) ((iK (zl h) o).1!=3) Q4) (re (ai 5) []) (re (ai 0) []))))))
def qE(h:Sem Q5)(o:Sem zj.sl):=an [zg] t0 100000000 (zdK h o)
def Ek(h:Sem Q5)(o:Sem zj.sl):=(qE h o).isSome
def Jn(h:Sem Q5)(o:Sem zj.sl):=o1 (qE h o)
def zb6:=FT [Q5,zj.sl] [zg] λx=>qE x.1 x.2.1
theorem YM:FK 83 zb6:=kM.T1 (f:=Tryz.f83) (keep:=k0) (e:=e0)
def Iq:=zdu.addL [(64,zcG),(65,zcI),(66,zcJ),(67,zcK),(83,zb6)]
theorem tP:zw Iq:=kM.addL<|fc Zn<|fc Zp<|fc Zq<|fc Zr<|fc YM iA
end
noncomputable section
def CS(g:Sem Q5->Sem (Sh.sl zj)->Sem (Sh.sl ze)->Sem ze)(c:Sem Q5->Sem (Sh.sl zj)->Sem (Sh.sl ze)->Bool):bY:=Iq.add 31 (zT [Q5,Sh.sl zj,Sh.sl ze] [ze] (λx=>c x.1 x.2.1 x.2.2.1) λx=>(g x.1 x.2.1 x.2.2.1,()))
theorem NL{g:Sem Q5->Sem (Sh.sl zj)->Sem (Sh.sl ze)->Sem ze}{c:Sem Q5->Sem (Sh.sl zj)->Sem (Sh.sl ze)->Bool}(h:FK 31 (zT [Q5,Sh.sl zj,Sh.sl ze] [ze] (λx=>c x.1 x.2.1 x.2.2.1) λx=>(g x.1 x.2.1 x.2.2.1,()))):zw (CS g c):=tP.add h
abbrev Oj:Nat->aM:=λj=>if j=6 then{slots:=[1,2,3,6,7]}else{ }
inductive FQ where
 |h6 (l1:LC) (l2:LV) (i7:Int) (z0:zm [CP.d Q5]) (z1:zm [CP.d ze])
abbrev KY:FQ->Nat×St
 |.h6 o u h z B=>(6,⟨tm 103 [(1,sl zj o),(2,sl ze u),(3,Qf 0 0),(6,Qf 1 0),(7,ai h)],[Qa (bf [] [CP.d Q5] z),Qa (bf [] [CP.d ze] B)]⟩)
theorem zid(g:Sem Q5->Sem zj.sl->Sem ze.sl->Sem ze)(c:Sem Q5->Sem zj.sl->Sem ze.sl->Bool):zO (CS g c).P 31 Tryz.f31 3:=bU kw
def qi(g:Sem Q5->Sem zj.sl->Sem ze.sl->Sem ze)(c:Sem Q5->Sem zj.sl->Sem ze.sl->Bool)(o:Sem Q5)(D:Sem zj.sl)(E:Sem ze.sl):Tr (FQ⊕aw):=
 let M:=zl ((zf.l o).getD (toNat 0) (zi Q5))
 let h:=g M D E
 let F:=Hu h
 let O:=h.1==0
 let H:=bb O
 let S:=zl ((zf.l o).getD (toNat 1) (zi Q5))
 let u:=g S D E
 let I:=Hs h u
 let J:=Tb h u
 let L:=rI h u
 let z:=yv h u
 let B:=yx h u
 let C:=rJ h u
 br (zf.op o==kF)
 (re (Qd [ai (zf.v o).1,ai (zf.v o).2.1,str (zf.v o).2.2]) [])
 (br (zf.op o==cW) (Q9 (FQ.h6 D E 0 (o,()) ((0,0,[]),())))
  (Qc (zJ 0 (zf.l o).length) (Qc (c M D E) (br (zf.op o==mU) (Qc (Jd h) (re (Qd [ai F.1,ai F.2.1,str F.2.2]) [])) (br (zf.op o==pf) (Qc (mF h) (br (!tk h) (Qc Q3
  (re (Qd [ai (bb Q3).1,ai (bb Q3).2.1,str (bb Q3).2.2]) [])) (Qc (lF O) (re (Qd [ai H.1,ai H.2.1,str H.2.2]) [])))) (Qc (zJ 1 (zf.l o).length) (Qc (c S D E) (br (zf.op o==ej)
  (Qc (Jb h u) (re (Qd [ai I.1,ai I.2.1,str I.2.2]) [])) (br (zf.op o==uM) (Qc (QN h u) (re (Qd [ai J.1,ai J.2.1,str J.2.2]) [])) (br (zf.op o==[61]) (Qc (vT h u) (re (Qd [ai L.1,ai L.2.1,str L.2.2]) [])) (br (zf.op o==[60])
  (Qc (BA h u) (re (Qd [ai z.1,ai z.2.1,str z.2.2]) [])) (br (zf.op o==[43]) (Qc (vY h u) (re (Qd [ai B.1,ai B.2.1,str B.2.2]) [])) (Qc (vW h u) (re (Qd [ai C.1,ai C.2.1,str C.2.2]) []))))))))))))))
theorem zg7(g:Sem Q5->Sem zj.sl->Sem ze.sl->Sem ze)(c:Sem Q5->Sem zj.sl->Sem ze.sl->Bool)(h:Sem Q5)(o:Sem zj.sl)(u:Sem ze.sl):rn (CS g c) 0 Oj Tryz.f31 [zC Q5 h,zC zj.sl o,zC ze.sl u] []=(qi g c h o u).map (lf Tryz.f31 KY):=kw
def AM(_:Sem Q5->Sem zj.sl->Sem ze.sl->Sem ze)(_:Sem Q5->Sem zj.sl->Sem ze.sl->Bool):FQ->Tr (FQ⊕aw)
 | .h6 o u h B D=>
  let C:=o.getD h.toNat (zi zj)
  let z:=u.getD h.toNat (zi ze)
  br (Q0 (h<(↑o.length:Int)))
  (Qc (zJ h (Io o))
   (br (C.1==zf.s B.1) (br (Q0 (h<(↑u.length:Int))) (Qc (zJ h (Io u)) (re (Qd [ai z.1,ai z.2.1,str z.2.2]) [])) (re (Qd [ai 0,ai 0,str []]) [])) (Q9 (FQ.h6 o u (Γ Δ (h+1)) B D))))
  (re (Qd [ai 0,ai 0,str []]) [])
theorem zis(g:Sem Q5->Sem zj.sl->Sem ze.sl->Sem ze)(c:Sem Q5->Sem zj.sl->Sem ze.sl->Bool):∀s,run (CS g c) 0 Oj (Func.results Tryz.f31).toList 400 (aj Tryz.f31 (KY s).1) (KY s).2=(AM g c s).map (lf Tryz.f31 KY)
 |.h6 o u h z B=>by kernel_rfl
def gN(o:Option (zz (List.map Q1 [ze]))):Sem ze:=(λr:zz (List.map Q1 [ze])=>r.1) (o.getD (bQ [ze]))
def QP(g:Sem Q5->Sem zj.sl->Sem ze.sl->Sem ze)(c:Sem Q5->Sem zj.sl->Sem ze.sl->Bool)(h:Sem Q5)(o:Sem zj.sl)(u:Sem ze.sl):Option (zz (List.map Q1 [ze])):=an [ze] (AM g c) 100000000 (qi g c h o u)
def cv:Nat->Sem Q5->Sem zj.sl->Sem ze.sl->Option (zz (List.map Q1 [ze]))
 |0=>λ_ _ _=>Q2
 |n+1=>QP (λh o u=>gN (cv n h o u)) λh o u=>(cv n h o u).isSome
theorem V5:zO Iq.P 31 Tryz.f31 3:=bU kw
theorem Ko:∀n,FK 31 (zT [Q5,zj.sl,ze.sl] [ze] (λx=>(cv n x.1 x.2.1 x.2.2.1).isSome) λx=>(gN (cv n x.1 x.2.1 x.2.2.1),()))
 |0=>eX ⟨Tryz.f31,V5.1,V5.2.1,V5.2.2.1⟩ (λ_=>rfl)
 |n+1=>kU (E:=CS (λh o u=>gN (cv n h o u)) (λh o u=>(cv n h o u).isSome)) (ks:=[Q5,zj.sl,ze.sl]) (outs:=[ze]) (keep:=Oj) (gas:=400) (n:=100000000) (e:=KY) (t:=AM (λh o u=>gN (cv n h o u)) (λh o u=>(cv n h o u).isSome)) (i:=λx=>qi (λh o u=>gN (cv n h o u)) (λh o u=>(cv n h o u).isSome) x.1 x.2.1 x.2.2.1) (NL (Ko n)) (zid _ _) (λx=>zg7 _ _ x.1 x.2.1 x.2.2.1) (zis _ _) (λ_=>by kernel_rfl) (λ_=>by kernel_rfl)
def BD(h:Sem Q5)(o:Sem zj.sl)(u:Sem ze.sl):Option (zz (List.map Q1 [ze])):=cv 16 h o u
def mo(h:Sem Q5)(o:Sem zj.sl)(u:Sem ze.sl):Bool:=(BD h o u).isSome
def oN(h:Sem Q5)(o:Sem zj.sl)(u:Sem ze.sl):Sem ze:=gN (BD h o u)
def zb9:ac:=zT [Q5,zj.sl,ze.sl] [ze] (λx=>mo x.1 x.2.1 x.2.2.1) λx=>(oN x.1 x.2.1 x.2.2.1,())
theorem YP:FK 31 zb9:=Ko 16
abbrev zn3:=lu [(5,[1,3,4]),(11,[1,3,6]),(16,[1,3,7])]
inductive Fm where
 |h5 (i3:Int) (i4:Int) (z0:zm [CP.d zo])
 |h11 (i3:Int) (i6:Int) (z0:zm [CP.d zo])
 |h16 (i3:Int) (i7:Int) (z0:zm [CP.d zo])
abbrev zqN:Fm->Nat×St
 |.h5 h o z=>(5,⟨tm 139 [(1,Qf 0 0),(3,ai h),(4,ai o)],[Qa (bf [] [CP.d zo] z)]⟩)
 |.h11 h u z=>(11,⟨tm 139 [(1,Qf 0 0),(3,ai h),(6,ai u)],[Qa (bf [] [CP.d zo] z)]⟩)
 |.h16 h B z=>(16,⟨tm 139 [(1,Qf 0 0),(3,ai h),(7,ai B)],[Qa (bf [] [CP.d zo] z)]⟩)
def zhF(h:Sem zo):Tr (Fm⊕aw):=
 let o:=(↑(Io h.2.1):Int)
 let u:=Q0 (o<1)
 let z:=Q0 (o>8)
 let B:=Q0 (h.2.2.1<0)
 let C:=Q0 (h.2.2.1>=o)
 let D:=getD h.2.1 (toNat h.2.2.1) (zi zj)
 Qc
 (dN h.1&&
  bif !bv h.1 then Q3
  else bif u then Q3 else bif z then Q3 else bif B then Q3 else bif C then Q3 else zJ h.2.2.1 (Io h.2.1))
 (br (cond (!bv h.1) Q3 (cond u Q3 (cond z Q3 (cond B Q3 (cond C Q3 (!D.2.2))))))
  (re (kb Q4) []) (Q9 (Fm.h5 o 0 (h,()))))
def sL:Fm->Tr (Fm⊕aw)
 | .h5 u D z=>
  let h:=getD z.1.2.1 D.toNat (zi zj)
  let B:=!bv h.1
  let o:=Q0 (h.2.1<1)
  let C:=Q0 (h.2.1>3)
  br (Q0 (D<u))
  (Qc (zJ D (Io z.1.2.1))
   (Qc (dN h.1&&bif B then Q3 else bif o then Q3 else bif C then Q3 else dJ z.1.2.1 h.1) (br (cond B Q3 (cond o Q3 (cond C Q3 (eP z.1.2.1 h.1!=D)))) (re (kb Q4) []) (Q9 (Fm.h5 u (Γ Δ (D+1)) z)))))
  (Q9 (Fm.h11 u 0 z))
 | .h11 u E z=>
  let h:=(↑(Io z.1.2.2.2.1):Int)
  let B:=zJ E (Io z.1.2.2.2.1)
  let o:=getD z.1.2.2.2.1 E.toNat (zi zg)
  let C:=Q0 (o<0)
  br (Q0 (E<h))
  (Qc (B&&bif C then Q3 else B)
   (br (cond C Q3 (Q0 (o>=u))) (re (kb Q4) []) (Q9 (Fm.h11 u (Γ Δ (E+1)) z))))
  (Q9 (Fm.h16 u 0 z))
 | .h16 u F z=>
  let h:=(↑(Io z.1.t.1):Int)
  let B:=zJ F (Io z.1.t.1)
  let o:=getD z.1.t.1 F.toNat (zi zp)
  let C:=Q0 (o.1<0)
  let H:=Q0 (o.1>=u)
  let I:=zl z.1.t.2
  br (Q0 (F<h))
  (Qc (B&&bif C then Q3 else B&&bif H then Q3 else B&&dN o.2)
   (br (cond C Q3 (cond H Q3 (!bv o.2))) (re (kb Q4) []) (Q9 (Fm.h16 u (Γ Δ (F+1)) z))))
  (Qc (Ek I z.1.2.1) (re (AV.bool (Jn I z.1.2.1==0)) []))
def Jm(h:Sem zo):=an [Q7] sL 100000000 (zhF h)
def yA(h:Sem zo):=(Jm h).isSome
def HC(h:Sem zo):=o1 (Jm h)
def zkh:=FT [zo] [Q7] λx=>Jm x.1
theorem zfU:FK 38 zkh:=tP.T1 (f:=Tryz.f38) (keep:=zn3) (e:=zqN)
def UV:=Iq.addL [(31,zb9),(38,zkh)]
theorem lg:zw UV:=tP.addL<|fc YP<|fc zfU iA
end
noncomputable section
abbrev zn5:=lu [(4,[1,2,5]),(9,[1,2,6])]
inductive HZ where
 |h4 (l1:LV) (i5:Int) (z0:zm [CP.d zo])
 |h9 (l1:LV) (i6:Int) (z0:zm [CP.d zo])
abbrev zqP:HZ->Nat×St
 |.h4 h o z=>(4,⟨tm 83 [(1,sl ze h),(2,Qf 0 0),(5,ai o)],[Qa (bf [] [CP.d zo] z)]⟩)
 |.h9 h u z=>(9,⟨tm 83 [(1,sl ze h),(2,Qf 0 0),(6,ai u)],[Qa (bf [] [CP.d zo] z)]⟩)
def zhG(h:Sem zo)(u:Sem ze.sl):Tr (HZ⊕aw):=
 let o:=(h.1,h.2.1,h.2.2.1,h.2.2.2.1,h.t.1,zl h.t.2)
 Qc (yA o)
 (br (cond (!HC o) Q3 ((↑(Io u):Int)!=(↑(Io h.2.1):Int))) (re (ai 1) [])
  (Q9 (HZ.h4 u 0 (h,()))))
def E3:HZ->Tr (HZ⊕aw)
 | .h4 h B z=>
  let u:=h.getD B.toNat (zi ze)
  br (Q0 (B<(↑h.length:Int)))
  (Qc (zJ B (Io h)) (Qc (mF u) (br (!tk u) (re (ai 1) []) (Q9 (HZ.h4 h (Γ Δ (B+1)) z)))))
  (Q9 (HZ.h9 h 0 z))
 | .h9 h o z=>
  let u:=h.getD o.toNat (zi ze)
  let C:=u.1==0
  let D:=zJ o (Io z.1.2.1)
  let E:=getD z.1.2.1 o.toNat (zi zj)
  let F:=u.1!=0
  let H:=!zf.op z.1.t.2==[]
  let I:=zl z.1.t.2
  let J:=oN I z.1.2.1 h
  br (Q0 (o<(↑h.length:Int)))
  (Qc (zJ o (Io h)&&bif C then D else Q3)
   (br (cond C E.2.2 Q4) (re (ai 8) []) (Qc (zJ o (Io h)&&bif F then zJ o (Io h)&&D else Q3) (br (cond F (u.1!=E.2.1) Q4) (re (ai 5) []) (Q9 (HZ.h9 h (Γ Δ (o+1)) z))))))
  (Qc (cond H (mo I z.1.2.1 h&&lB J Q4) Q3)
   (br (cond H (oG J Q4) Q4) (re (ai 9) []) (re (ai 0) [])))
def BJ(h:Sem zo)(o:Sem ze.sl):=an [zg] E3 100000000 (zhG h o)
def BI(h:Sem zo)(o:Sem ze.sl):=(BJ h o).isSome
def Jl(h:Sem zo)(o:Sem ze.sl):=o1 (BJ h o)
def zkj:=FT [zo,ze.sl] [zg] λx=>BJ x.1 x.2.1
theorem zfW:FK 54 zkj:=lg.T1 (f:=Tryz.f54) (keep:=zn5) (e:=zqP)
abbrev zn6:=lu [(2,[0,1,5]),(5,[0,1,5,6])]
inductive Kz where
 |h2 (l0:List (Sem ze.sl)) (i1:Sem zg) (i5:Int)
 |h5 (l0:List (Sem ze.sl)) (i1:Sem zg) (i5:Int) (i6:Int)
abbrev zqQ:Kz->Nat×St
 |.h2 u h o=>(2,⟨tm 44 [(0,sl ze.sl u),(1,ai h),(5,ai o)],[]⟩)
 |.h5 u h o z=>(5,⟨tm 44 [(0,sl ze.sl u),(1,ai h),(5,ai o),(6,ai z)],[]⟩)
def znn(h:Sem ze.sl.sl)(o:Sem zg):Tr (Kz⊕aw):=
 Q9 (Kz.h2 h o 0)
def FH:Kz->Tr (Kz⊕aw)
 | .h2 h u o=>
  br (Q0 (o<(↑h.length:Int))) (Q9 (Kz.h5 h u o 0)) (re (kb Q4) [])
 | .h5 h u o B=>
  let D:=h.getD o.toNat (zi ze.sl)
  let E:=zJ u (Io D)
  let z:=getD D (toNat u) (zi ze)
  let F:=z.1!=0
  let H:=h.getD B.toNat (zi ze.sl)
  let C:=getD H (toNat u) (zi ze)
  br (Q0 (B<o))
  (Qc (zJ o (Io h)&&(E&&bif F then zJ o (Io h)&&(E&&(zJ B (Io h)&&zJ u (Io H)))else Q3))
   (br (cond F (z.1==C.1&&(z.2.1==C.2.1&&(z.2.2==C.2.2&&Q3))) Q4) (re (kb Q3) []) (Q9 (Kz.h5 h u o (Γ Δ (B+1))))))
  (Q9 (Kz.h2 h u (Γ Δ (o+1))))
def wh(h:Sem ze.sl.sl)(o:Sem zg):=an [Q7] FH 100000000 (znn h o)
def nD(h:Sem ze.sl.sl)(o:Sem zg):=(wh h o).isSome
def r7(h:Sem ze.sl.sl)(o:Sem zg):=o1 (wh h o)
def zkk:=FT [ze.sl.sl,zg] [Q7] λx=>wh x.1 x.2.1
theorem zfX:FK 145 zkk:=lg.T1 (f:=Tryz.f145) (keep:=zn6) (e:=zqQ)
def znp(h:Sem zo)(u:Sem ze.sl):Tr (Empty⊕aw):=
 let z:=(h.1,h.2.1,h.2.2.1,h.2.2.2.1,h.t.1,zl h.t.2)
 let o:=getD u (toNat h.2.2.1) (zi ze)
 Qc (yA z)
 (br (cond (HC z) (Q0 (h.2.2.1<(↑(Io u):Int))) Q4)
  (Qc (zJ h.2.2.1 (Io u)) (re (Qd [ai o.1,ai o.2.1,str o.2.2]) []))
  (re (Qd [ai 0,ai 0,str []]) []))
def En(h:Sem zo)(o:Sem ze.sl):=an [ze] t0 100000000 (znp h o)
def yD(h:Sem zo)(o:Sem ze.sl):=(En h o).isSome
def HD(h:Sem zo)(o:Sem ze.sl):=o1 (En h o)
def zkm:=FT [zo,ze.sl] [ze] λx=>En x.1 x.2.1
theorem zf0:FK 55 zkm:=lg.T1 (f:=Tryz.f55) (keep:=k0) (e:=e0)
abbrev zn7:=lu [(2,[2,3,5])]
inductive RG where
 |h2 (i5:Int) (z0:zm [CP.d zh]) (z1:zm [CP.d ze])
abbrev zqR:RG->Nat×St
 |.h2 h z o=>(2,⟨tm 43 [(2,Qf 0 0),(3,Qf 1 0),(5,ai h)],[Qa (bf [] [CP.d zh] z),Qa (bf [] [CP.d ze] o)]⟩)
def znq(h:Sem zh)(o:Sem ze):Tr (RG⊕aw):=
 Q9 (RG.h2 0 (h,()) (o,()))
def Yi:RG->Tr (RG⊕aw)
 | .h2 h z o=>
  let H:=(↑(Io z.1.2):Int)
  let C:=Q0 (h<H)
  let D:=(z.1.1.1,z.1.1.2.1,z.1.1.2.2.1,z.1.1.2.2.2.1,z.1.1.t.1,zl z.1.1.t.2)
  let E:=zJ h (Io z.1.2)
  let u:=getD z.1.2 h.toNat (zi ze.sl)
  let I:=(↑(Io u):Int)
  let F:=Q0 (z.1.1.2.2.1<I)
  let B:=getD u (toNat z.1.1.2.2.1) (zi ze)
  Qc (cond C (yA D) Q3)
  (br (cond C (HC D) Q4)
   (Qc (E&&bif F then E&&zJ z.1.1.2.2.1 (Io u)else Q3) (br (cond F (B.1==o.1.1&&(B.2.1==o.1.2.1&&(B.2.2==o.1.2.2&&Q3))) Q4) (re (ai h) []) (Q9 (RG.h2 (Γ Δ (h+1)) z o))))
   (re (ai (-1)) []))
def BK(h:Sem zh)(o:Sem ze):=an [zg] Yi 100000000 (znq h o)
def rY(h:Sem zh)(o:Sem ze):=(BK h o).isSome
def yB(h:Sem zh)(o:Sem ze):=o1 (BK h o)
def zkn:=FT [zh,ze] [zg] λx=>BK x.1 x.2.1
theorem zf1:FK 15 zkn:=lg.T1 (f:=Tryz.f15) (keep:=zn7) (e:=zqR)
def UW:=UV.addL [(54,zkj),(145,zkk),(55,zkm),(15,zkn)]
theorem tQ:zw UW:=lg.addL<|fc zfW<|fc zfX<|fc zf0<|fc zf1 iA
end
noncomputable section
abbrev znM:=lu [(6,[1,3]),(14,[1,5]),(19,[1,6])]
inductive Fj where
 |h6 (i3:Int) (z0:zm [CP.d zh])
 |h14 (i5:Int) (z0:zm [CP.d zh])
 |h19 (i6:Int) (z0:zm [CP.d zh])
abbrev zqC:Fj->Nat×St
 |.h6 h z=>(6,⟨tm 82 [(1,Qf 0 0),(3,ai h)],[Qa (bf [] [CP.d zh] z)]⟩)
 |.h14 o z=>(14,⟨tm 82 [(1,Qf 0 0),(5,ai o)],[Qa (bf [] [CP.d zh] z)]⟩)
 |.h19 u z=>(19,⟨tm 82 [(1,Qf 0 0),(6,ai u)],[Qa (bf [] [CP.d zh] z)]⟩)
def VS(h:Sem zh):Tr (Fj⊕aw):=
 let o:=(h.1.1,h.1.2.1,h.1.2.2.1,h.1.2.2.2.1,h.1.t.1,zl h.1.t.2)
 Qc (yA o)
 (br (!HC o) (re (ai 1) [])
  (br (Q0 ((↑(Io h.2):Int)>200)) (re (ai 13) []) (Q9 (Fj.h6 0 (h,())))))
def qK:Fj->Tr (Fj⊕aw)
 | .h6 D z=>
  let u:=(↑(Io z.1.2):Int)
  let h:=(z.1.1.1,z.1.1.2.1,z.1.1.2.2.1,z.1.1.2.2.2.1,z.1.1.t.1,zl z.1.1.t.2)
  let o:=getD z.1.2 D.toNat (zi ze.sl)
  let B:=Jl h o
  br (Q0 (D<u))
  (Qc (zJ D (Io z.1.2))
   (Qc (BI h o) (br (B !=0) (re (ai B) []) (Q9 (Fj.h6 (Γ Δ (D+1)) z)))))
  (Qc (nD z.1.2 z.1.1.2.2.1)
   (br (r7 z.1.2 z.1.1.2.2.1) (re (ai 7) []) (Q9 (Fj.h14 0 z))))
 | .h14 E z=>
  let u:=(↑(Io z.1.1.2.2.2.1):Int)
  let h:=getD z.1.1.2.2.2.1 E.toNat (zi zg)
  br (Q0 (E<u))
  (Qc (zJ E (Io z.1.1.2.2.2.1))
   (Qc (nD z.1.2 h) (br (r7 z.1.2 h) (re (ai 7) []) (Q9 (Fj.h14 (Γ Δ (E+1)) z)))))
  (Q9 (Fj.h19 1 z))
 | .h19 C z=>
  let u:=(↑(Io z.1.2):Int)
  let h:=Γ Δ (C-1)
  let o:=(z.1.1.1,z.1.1.2.1,z.1.1.2.2.1,z.1.1.2.2.2.1,z.1.1.t.1,zl z.1.1.t.2)
  let B:=getD z.1.2 h.toNat (zi ze.sl)
  let F:=getD z.1.2 C.toNat (zi ze.sl)
  let H:=HD o B
  let I:=HD o F
  let J:=oI H I
  br (Q0 (C<u))
  (Qc (zJ h (Io z.1.2))
   (Qc (yD o B) (Qc (zJ C (Io z.1.2)) (Qc (yD o F) (Qc (lD H I) (br (Q0 (J>0)) (re (ai 15) []) (Q9 (Fj.h19 (Γ Δ (C+1)) z))))))))
  (re (ai 0) [])
def nB(h:Sem zh):=an [zg] qK 100000000 (VS h)
def Em(h:Sem zh):=(nB h).isSome
def Jo(h:Sem zh):=o1 (nB h)
def zjN:=FT [zh] [zg] λx=>nB x.1
theorem zfm:FK 89 zjN:=tQ.T1 (f:=Tryz.f89) (keep:=znM) (e:=zqC)
abbrev znO:=lu [(2,[0,3]),(5,[0,3,4]),(12,[0,3,4,5,6,7])]
inductive Fk where
 |h2 (l0:List (Sem zh)) (i3:Int)
 |h5 (l0:List (Sem zh)) (i3:Int) (i4:Int)
 |h12 (l0:List (Sem zh)) (i3:Int) (i4:Int) (i6:Sem zg) (i7:Int) (z0:zm [CP.d zp])
abbrev zqE:Fk->Nat×St
 |.h2 o h=>(2,⟨tm 75 [(0,sl zh o),(3,ai h)],[]⟩)
 |.h5 o h u=>(5,⟨tm 75 [(0,sl zh o),(3,ai h),(4,ai u)],[]⟩)
 |.h12 o h u z B C=>(12,⟨tm 75 [(0,sl zh o),(3,ai h),(4,ai u),(5,Qf 0 0),(6,ai z),(7,ai B)],[Qa (bf [] [CP.d zp] C)]⟩)
def znh(h:Sem zh.sl):Tr (Fk⊕aw):=
 Q9 (Fk.h2 h 0)
def sK:Fk->Tr (Fk⊕aw)
 | .h2 h o=>
  br (Q0 (o<(↑h.length:Int))) (Q9 (Fk.h5 h o 0)) (re (kb Q3) [])
 | .h5 h o B=>
  let u:=h.getD o.toNat (zi zh)
  let F:=(↑(Io u.1.t.1):Int)
  let D:=getD u.1.t.1 B.toNat (zi zp)
  let C:=lK h D.2
  Qc (zJ o (Io h))
  (br (Q0 (B<F))
   (Qc (zJ o (Io h)) (Qc (zJ B (Io u.1.t.1)) (br (Q0 (C<0)) (re (kb Q4) []) (Q9 (Fk.h12 h o B C 0 (D,()))))))
   (Q9 (Fk.h2 h (Γ Δ (o+1)))))
 | .h12 h o B H E I=>
  let u:=h.getD o.toNat (zi zh)
  let F:=(↑(Io u.2):Int)
  let D:=getD u.2 E.toNat (zi ze.sl)
  let C:=getD D (toNat I.1.1) (zi ze)
  let J:=C.1!=0
  let z:=h.getD (toNat H) (zi zh)
  let L:=((z.1.1,z.1.2.1,z.1.2.2.1,z.1.2.2.2.1,z.1.t.1,zl z.1.t.2),z.2)
  let M:=yB L C
  Qc (zJ o (Io h))
  (br (Q0 (E<F))
   (Qc (zJ o (Io h)) (Qc (zJ E (Io u.2)) (Qc (zJ I.1.1 (Io D)) (Qc (cond J (zJ H (Io h)&&rY L C) Q3) (br (cond J (Q0 (M<0)) Q4) (re (kb Q4) []) (Q9 (Fk.h12 h o B H (Γ Δ (E+1)) I)))))))
   (Q9 (Fk.h5 h o (Γ Δ (B+1)))))
def wj(h:Sem zh.sl):=an [Q7] sK 100000000 (znh h)
def Eo(h:Sem zh.sl):=(wj h).isSome
def Ju(h:Sem zh.sl):=o1 (wj h)
def zjP:=FT [zh.sl] [Q7] λx=>wj x.1
theorem zfo:FK 90 zjP:=tQ.T1 (f:=Tryz.f90) (keep:=znO) (e:=zqE)
def UX:=UW.addL [(89,zjN),(90,zjP)]
theorem C2:zw UX:=tQ.addL<|fc zfm<|fc zfo iA
end
noncomputable section
abbrev zsr:=lu [(4,[0,3]),(9,[0,4])]
inductive H9p where
 |h4 (l0:List (Sem zh)) (i3:Int)
 |h9 (l0:List (Sem zh)) (i4:Int)
abbrev e9p:H9p->Nat×St
 |.h4 h o=>(4,⟨tm 46 [(0,sl zh h),(3,ai o)],[]⟩)
 |.h9 h u=>(9,⟨tm 46 [(0,sl zh h),(4,ai u)],[]⟩)
def i9p(h:Sem zh.sl):Tr (H9p⊕aw):=
 br (Q0 ((↑(Io h):Int)>12)) (re (ai 13) []) (Q9 (H9p.h4 h 1))
def Yj:H9p->Tr (H9p⊕aw)
 | .h4 h u=>
  let o:=Γ Δ (u-1)
  let z:=h.getD o.toNat (zi zh)
  let B:=h.getD u.toNat (zi zh)
  br (Q0 (u<(↑h.length:Int)))
  (Qc (zJ o (Io h))
   (Qc (zJ u (Io h)) (br (!Op.bytesLess z.1.1 B.1.1) (re (ai 15) []) (Q9 (H9p.h4 h (Γ Δ (u+1)))))))
  (Q9 (H9p.h9 h 0))
 | .h9 h C=>
  let o:=h.getD C.toNat (zi zh)
  let z:=((o.1.1,o.1.2.1,o.1.2.2.1,o.1.2.2.2.1,o.1.t.1,zl o.1.t.2),o.2)
  let B:=Jo z
  br (Q0 (C<(↑h.length:Int)))
  (Qc (zJ C (Io h)) (Qc (Em z) (br (B !=0) (re (ai B) []) (Q9 (H9p.h9 h (Γ Δ (C+1)))))))
  (Qc (Eo h) (br (!Ju h) (re (ai 10) []) (re (ai 0) [])))
def qF(h:Sem zh.sl):=an [zg] Yj 100000000 (i9p h)
def Ep(h:Sem zh.sl):=(qF h).isSome
def Jw(h:Sem zh.sl):=o1 (qF h)
def F9p:=FT [zh.sl] [zg] λx=>qF x.1
theorem zlZ:FK 45 F9p:=C2.T1 (f:=Tryz.f45) (keep:=zsr) (e:=e9p)
def UY:=UX.add 45 F9p
theorem oe:zw UY:=C2.add zlZ
end
noncomputable section
abbrev znW:=lu [(4,[0,1,12,13])]
inductive RF where
 |h4 (l0:List (Sem zg)) (l1:List (Sem zg)) (i12:Int) (i13:Int)
abbrev zqK:RF->Nat×St
 |.h4 u z h o=>(4,⟨tm 26 [(0,sl zg u),(1,sl zg z),(12,ai h),(13,ai o)],[]⟩)
def zaS(h:Sem zg.sl)(o:Sem zg.sl):Tr (RF⊕aw):=
 br ((↑(Io h):Int)!=(↑(Io o):Int)) (re (kb Q4) []) (Q9 (RF.h4 h o (↑(Io h):Int) 0))
def zpW:RF->Tr (RF⊕aw)
 | .h4 u z o h=>
  br (Q0 (h<o))
  (Qc (zJ h (Io u))
   (Qc (zJ h (Io z)) (br (u.getD h.toNat (zi zg)!=z.getD h.toNat (zi zg)) (re (kb Q4) []) (Q9 (RF.h4 u z o (Γ Δ (h+1)))))))
  (re (kb Q3) [])
def JY(h:Sem zg.sl)(o:Sem zg.sl):=an [Q7] zpW 100000000 (zaS h o)
def JX(h:Sem zg.sl)(o:Sem zg.sl):=(JY h o).isSome
def pn(h:Sem zg.sl)(o:Sem zg.sl):=o1 (JY h o)
def zka:=FT [zg.sl,zg.sl] [Q7] λx=>JY x.1 x.2.1
theorem zfK:FK 119 zka:=oe.T1 (f:=Tryz.f119) (keep:=znW) (e:=zqK)
abbrev zok:=lu [(4,[0,1,12,13])]
inductive RL where
 |h4 (l0:List (Sem zj)) (l1:List (Sem zj)) (i12:Int) (i13:Int)
abbrev zq1:RL->Nat×St
 |.h4 u z h o=>(4,⟨tm 26 [(0,sl zj u),(1,sl zj z),(12,ai h),(13,ai o)],[]⟩)
def zaW(h:Sem zj.sl)(o:Sem zj.sl):Tr (RL⊕aw):=
 br ((↑(Io h):Int)!=(↑(Io o):Int)) (re (kb Q4) []) (Q9 (RL.h4 h o (↑(Io h):Int) 0))
def zpY:RL->Tr (RL⊕aw)
 | .h4 B C o h=>
  let u:=B.getD h.toNat (zi zj)
  let z:=C.getD h.toNat (zi zj)
  br (Q0 (h<o))
  (Qc (zJ h (Io B))
   (Qc (zJ h (Io C)) (br (!(u.1==z.1&&(u.2.1==z.2.1&&(u.2.2==z.2.2&&Q3)))) (re (kb Q4) []) (Q9 (RL.h4 B C o (Γ Δ (h+1)))))))
  (re (kb Q3) [])
def JV(h:Sem zj.sl)(o:Sem zj.sl):=an [Q7] zpY 100000000 (zaW h o)
def O9(h:Sem zj.sl)(o:Sem zj.sl):=(JV h o).isSome
def AK(h:Sem zj.sl)(o:Sem zj.sl):=o1 (JV h o)
def zkJ:=FT [zj.sl,zj.sl] [Q7] λx=>JV x.1 x.2.1
theorem zgm:FK 166 zkJ:=oe.T1 (f:=Tryz.f166) (keep:=zok) (e:=zq1)
abbrev zol:=lu [(4,[0,1,12,13])]
inductive RM where
 |h4 (l0:List (Sem zp)) (l1:List (Sem zp)) (i12:Int) (i13:Int)
abbrev zq2:RM->Nat×St
 |.h4 u z h o=>(4,⟨tm 26 [(0,sl zp u),(1,sl zp z),(12,ai h),(13,ai o)],[]⟩)
def zaX(h:Sem zp.sl)(o:Sem zp.sl):Tr (RM⊕aw):=
 br ((↑(Io h):Int)!=(↑(Io o):Int)) (re (kb Q4) []) (Q9 (RM.h4 h o (↑(Io h):Int) 0))
def zpZ:RM->Tr (RM⊕aw)
 | .h4 u z o h=>
  let B:=u.getD h.toNat (zi zp)
  let C:=z.getD h.toNat (zi zp)
  br (Q0 (h<o))
  (Qc (zJ h (Io u))
   (Qc (zJ h (Io z)) (br (!(B.1==C.1&&(B.2==C.2&&Q3))) (re (kb Q4) []) (Q9 (RM.h4 u z o (Γ Δ (h+1)))))))
  (re (kb Q3) [])
def JW(h:Sem zp.sl)(o:Sem zp.sl):=an [Q7] zpZ 100000000 (zaX h o)
def Pa(h:Sem zp.sl)(o:Sem zp.sl):=(JW h o).isSome
def AL(h:Sem zp.sl)(o:Sem zp.sl):=o1 (JW h o)
def zkK:=FT [zp.sl,zp.sl] [Q7] λx=>JW x.1 x.2.1
theorem zgn:FK 167 zkK:=oe.T1 (f:=Tryz.f167) (keep:=zol) (e:=zq2)
def U3:=UY.addL [(119,zka),(166,zkJ),(167,zkK)]
theorem C5:zw U3:=oe.addL<|fc zfK<|fc zgm<|fc zgn iA
end
noncomputable def znm(h:Sem zo)(o:Sem zo):Tr (Empty⊕aw):=
 let u:=h.1==o.1
 let z:=h.2.2.1==o.2.2.1
 let B:=AK h.2.1 o.2.1
 let C:=pn h.2.2.2.1 o.2.2.2.1
 let D:=AL h.t.1 o.t.1
 let E:=zl h.t.2
 let F:=zl o.t.2
 Qc
 (bif u then
  bif z then O9 h.2.1 o.2.1&&bif B then JX h.2.2.2.1 o.2.2.2.1&&bif C then Pa h.t.1 o.t.1&&bif D then jB 16 E F else Q3 else Q3 else Q3
  else Q3
 else Q3)
 (re (AV.bool (cond u (cond z (cond B (cond C (cond D (fE 16 E F) Q4) Q4) Q4) Q4) Q4)) [])
noncomputable def Kf(h:Sem zo)(o:Sem zo):=an [Q7] t0 100000000 (znm h o)
noncomputable def Ke(h:Sem zo)(o:Sem zo):=(Kf h o).isSome
noncomputable def tq(h:Sem zo)(o:Sem zo):=o1 (Kf h o)
noncomputable def zj9:=FT [zo,zo] [Q7] λx=>Kf x.1 x.2.1
theorem zfJ:FK 118 zj9:=C5.T1 (f:=Tryz.f118) (keep:=k0) (e:=e0)
noncomputable def U4:=U3.add 118 zj9
theorem NR:zw U4:=C5.add zfJ
noncomputable section
def zg3:bY:={zax with own:=Q3}
theorem NU:zw zg3:=⟨⟨uW.sh⟩,uW.fs,uW.mix⟩
def zhv(o:Sem zq):Tr (Empty⊕aw):=
 let h:=[o.2.1]
 let u:=[o.2.2.1]
 br (!o.2.2.1==[]) (Qc (Q0 (Io h+Io u<=1073741824)) (re (AV.vec 0) [AO.vec Q6 (h++u)]))
 (re (AV.vec 0) [AO.vec Q6 h])
def mn(h:Sem zq):=an [Sh.str.sl] t0 100000000 (zhv h)
def jV(h:Sem zq):=(mn h).isSome
def lA(h:Sem zq):=o1 (mn h)
def zeB:=FT [zq] [Sh.str.sl] λx=>mn x.1
theorem ze7:FK 46 zeB:=NU.T1 (f:=Tryz.f46) (keep:=k0) (e:=e0)
theorem ze8:FK 46 zeB:=ze7
def U5:=U4.add 46 zeB
theorem tR:zw U5:=NR.add ze8
end
noncomputable section
abbrev kh:List CP:=[.d .str,.d .str,.d .str,.d .str,.nil,.d zg,.nil,.nil,.d .str,.d zg,.d zg,.d .str,.d .str,.nil,.nil,.d zg]
abbrev KV:List CP:=[.d .str,.d .str,.d .str,.d .str,.nil,.d zg,.nil,.nil,.d .expr,.nil,.d zg]
abbrev Se:List CP:=[.d .str,.d .str,.d .str,.d .str,.vec zj,.d zg,.nil,.nil,.d .expr,.d (.sl zg),.d zg]
abbrev zg0:List CP:=[.d .str,.d .str,.d .str,.d .str,.d (.sl zj),.d zg,.nil,.nil,.d .expr,.d (.sl zg),.d zg]
abbrev Ux:List CP:=[.d .str,.d .str,.d .str,.d .str,.vec zj,.d zg,.nil,.nil,.d .expr,.vec zg,.d zg]
def zm8(h:Sem zq)(o:Sem zq):Tr (Empty⊕aw):=
 let u:=h.1==o.1
 let z:=h.2.1==o.2.1
 let B:=h.2.2.1==o.2.2.1
 let C:=h.t.2==o.t.2
 let D:=(h.2.2.2.1.1,h.2.2.2.1.2.1,h.2.2.2.1.2.2.1,h.2.2.2.1.2.2.2.1,h.2.2.2.1.t.1,zl h.2.2.2.1.t.2)
 let E:=(o.2.2.2.1.1,o.2.2.2.1.2.1,o.2.2.2.1.2.2.1,o.2.2.2.1.2.2.2.1,o.2.2.2.1.t.1,zl o.2.2.2.1.t.2)
 let F:=tq D E
 Qc
 (bif u then
  bif z then bif B then bif C then Ke D E&&bif F then JX h.t.1 o.t.1 else Q3 else Q3 else Q3 else Q3
 else Q3)
 (re
  (AV.bool (cond u (cond z (cond B (cond C (cond F (pn h.t.1 o.t.1) Q4) Q4) Q4) Q4) Q4))
  [])
def I0(h:Sem zq)(o:Sem zq):=an [Q7] t0 100000000 (zm8 h o)
def IZ(h:Sem zq)(o:Sem zq):=(I0 h o).isSome
def Mf(h:Sem zq)(o:Sem zq):=o1 (I0 h o)
def zjx:=FT [zq,zq] [Q7] λx=>I0 x.1 x.2.1
theorem ze3:FK 76 zjx:=tR.T1 (f:=Tryz.f76) (keep:=k0) (e:=e0)
abbrev zPl:AV:=.agg [str [],str [],str [],str [],Qb,ai 0,Qb,Qb,str [],ai 0,ai 0,str [],str [],Qb,Qb,ai 0]
abbrev rE{σ:Type}(e:Int):Tr (σ⊕aw):=.re (.tup [zPl,.int .i64 e]) []
abbrev znB:Nat->aM:=λj=>if j=7 then{slots:=[0,3,4,8,9,10]}else if j=24 then{slots:=[3,4,8,11,13],prom:=[(8,Q1 4,zj)]}else if j=38 then{slots:=[3,4,8,11,14,15,16]}else if j=48 then{slots:=[3,4,8,14,17],prom:=[(8,Q1 14,.int .i64)]}else if j=64 then{slots:=[3,4,8,20]}else{ }
inductive kV where
 |h7 (l0:List (Sem zh)) (l9:List (Sem Q6)) (i10:Int) (z0:zm [CP.d zn]) (z1:zm kh) (z2:zm KV)
 |h24 (i13:Int) (z0:zm [CP.d zn]) (z1:zm kh) (z2:zm Se) (z3:zm [CP.d zo])
 |h38 (i16:Int) (z0:zm [CP.d zn]) (z1:zm kh) (z2:zm KV) (z3:zm [CP.d zo]) (z4:zm [CP.d zo])
 |h64 (i20:Int) (z0:zm [CP.d zn]) (z1:zm kh) (z2:zm zg0)
 |h64b (i20:Int) (z0:zm [CP.d zn]) (z1:zm kh) (z2:zm KV)
 |h64bb (i20:Int) (z0:zm [CP.d zn]) (z1:zm kh) (z2:zm Se)
 |h38b (b15:Bool) (i16:Int) (z0:zm [CP.d zn]) (z1:zm kh) (z2:zm KV) (z3:zm [CP.d zo]) (z4:zm [CP.d zo])
 |h48 (i17:Int) (z0:zm [CP.d zn]) (z1:zm kh) (z2:zm Ux) (z3:zm [CP.d zo])
 |h64bbb (i20:Int) (z0:zm [CP.d zn]) (z1:zm kh) (z2:zm Ux)
abbrev zqt:kV->Nat×St
 |.h7 J L E h o z=>(7,⟨tm 339 [(0,sl zh J),(3,Qf 0 0),(4,Qf 1 0),(8,Qf 2 0),(9,sl Q6 L),(10,ai E)],[Qa (bf [] [CP.d zn] h),Qa (bf [] kh o),Qa (bf [] KV z)]⟩)
 |.h24 F h o z C=>(24,⟨tm 339 [(3,Qf 0 0),(4,Qf 1 0),(8,Qf 2 0),(11,Qf 3 0),(13,ai F)],[Qa (bf [] [CP.d zn] h),Qa (bf [] kh o),Qa (bf [4] Se z),Qa (bf [] [CP.d zo] C),AO.vec zj z.t.1]⟩)
 |.h38 B h o z C I=>(38,⟨tm 339 [(3,Qf 0 0),(4,Qf 1 0),(8,Qf 2 0),(11,Qf 3 0),(14,Qf 4 0),(15,kb Q4),(16,ai B)],[Qa (bf [] [CP.d zn] h),Qa (bf [] kh o),Qa (bf [] KV z),Qa (bf [] [CP.d zo] C),Qa (bf [] [CP.d zo] I)]⟩)
 |.h64 u h o z=>(64,⟨tm 339 [(3,Qf 0 0),(4,Qf 1 0),(8,Qf 2 0),(20,ai u)],[Qa (bf [] [CP.d zn] h),Qa (bf [] kh o),Qa (bf [] zg0 z)]⟩)
 |.h64b u h o z=>(64,⟨tm 339 [(3,Qf 0 0),(4,Qf 1 0),(8,Qf 2 0),(20,ai u)],[Qa (bf [] [CP.d zn] h),Qa (bf [] kh o),Qa (bf [] KV z)]⟩)
 |.h64bb u h o z=>(64,⟨tm 339 [(3,Qf 0 0),(4,Qf 1 0),(8,Qf 2 0),(20,ai u)],[Qa (bf [] [CP.d zn] h),Qa (bf [] kh o),Qa (bf [3] Se z),AO.vec zj z.t.1]⟩)
 |.h38b D B h o z C I=>(38,⟨tm 339 [(3,Qf 0 0),(4,Qf 1 0),(8,Qf 2 0),(11,Qf 3 0),(14,Qf 4 0),(15,AV.bool D),(16,ai B)],[Qa (bf [] [CP.d zn] h),Qa (bf [] kh o),Qa (bf [] KV z),Qa (bf [] [CP.d zo] C),Qa (bf [] [CP.d zo] I)]⟩)
 |.h48 H h o z C=>(48,⟨tm 339 [(3,Qf 0 0),(4,Qf 1 0),(8,Qf 2 0),(14,Qf 3 0),(17,ai H)],[Qa (bf [] [CP.d zn] h),Qa (bf [] kh o),Qa (bf [4,5] Ux z),Qa (bf [] [CP.d zo] C),AO.vec zj z.t.1,AO.vec zg z.t.q.2.1]⟩)
 |.h64bbb u h o z=>(64,⟨tm 339 [(3,Qf 0 0),(4,Qf 1 0),(8,Qf 2 0),(20,ai u)],[Qa (bf [] [CP.d zn] h),Qa (bf [] kh o),Qa (bf [3,4] Ux z),AO.vec zj z.t.1,AO.vec zg z.t.q.2.1]⟩)
def SH(o:Sem zh.sl)(h:Sem zn):Tr (kV⊕aw):=
 let u:=zl h.t.t.1
 let z:=(h.1,h.2.1,h.2.2.1,h.2.2.2.1,h.t.1,h.t.2.1,h.t.q.1,h.t.q.2.1,u,h.t.t.2.1,h.t.t.q.1,zl h.t.t.q.2.1,h.t.t.t)
 let D:=lJ z
 let B:=!D.2
 let C:=(h.1,h.2.2.1,h.t.t.t,(h.2.1,[],0,[],[],u),[],0)
 Qc (iN z)
 (Qc (cond B Q3 (Ep o))
  (br (cond B Q3 (cond (Jw o !=0) Q3 (cond (!h.1==cV) (cond (!h.1==eW) (!h.1==ku) Q4) Q4))) (rE 1) (Qc (jV C) (Q9 (kV.h7 o (lA C) 0 (h,()) ([],[],[],[],0,[],0,0,[],[],0,()) (h.1,h.2.2.1,h.t.t.t,h.2.1,0,h.t.t.1,0,()))))))
def dG:kV->Tr (kV⊕aw)
 | .h7 M X O o D z=>
  let H:=lK M (X.getD O.toNat (zi Q6))
  let B:=lK M o.1.2.1
  let E:=lK M o.1.2.2.1
  let u:=M.getD (toNat E) (zi zh)
  let T:=oD u.1.2.1 o.1.2.2.2.1
  let J:=rH u.1.2.1 o.1.2.2.2.1
  let a6:=J.2!=0
  let a7:=(z.t.2.1,J.1,z.t.q)
  let a8:=(u.1,())
  let a9:=lK M o.1.t.t.t
  let Y:=eP u.1.2.1 o.1.t.2.1
  let h2:=M.getD (toNat a9) (zi zh)
  let Z:=getD J.1 (toNat 0) (zi zg)
  let h0:=getD J.1 (toNat 1) (zi zg)
  let S:=getD u.1.2.1 (toNat h0) (zi zj)
  let h1:=getD u.1.2.1 (toNat Z) (zi zj)
  br (Q0 (O<(↑X.length:Int)))
  (Qc (zJ O (Io X)) (br (Q0 (H<0)) (rE 6) (Q9 (kV.h7 M X (Γ Δ (O+1)) o D z))))
  (br (cond (Q0 (B>=0)) Q3 (o.1.2.2.1==o.1.t.t.t)) (rE 7) (Qc (uo M X) (br (yu M X) (rE 10) (Qc (zJ E (Io M)) (br (o.1.1==cV) (Qc T (br a6 (rE J.2) (Q9 (kV.h24 0 o D (z.1,z.2.1,z.2.2.1,z.2.2.2.1,[],-1,a7) a8)))) (br (o.1.1==eW) (Qc (zJ a9 (Io M))
  (Qc (dJ u.1.2.1 o.1.t.2.1) (br (Q0 (Y<0)) (rE 4) (Q9
  (kV.h38 0 o D (z.1,z.2.1,z.2.2.1,z.2.2.2.1,z.t.1,z.t.2.1,Y,()) a8 (h2.1,())))))) (br (o.1.1==ku) (Qc T (br a6 (rE J.2) (Qc (zJ 0 (Io J.1)) (Qc (zJ Z (Io u.1.2.1)) (Qc (zJ 1 (Io J.1)) (Qc (zJ h0 (Io u.1.2.1)) (br (S.2.1!=1) (rE 5) (Q9 (kV.h64 0 o D (z.1,z.2.1,z.2.2.1,z.2.2.2.1,[(h1.1,h1.2.1,Q3),(S.1,S.2.1,Q4)],z.t.1,a7)))))))))) (Q9 (kV.h64b 0 o D z)))))))))
 | .h24 L o D z C=>
  let H:=(↑(Io z.t.q.2.1):Int)
  let B:=zJ L (Io z.t.q.2.1)
  let E:=getD z.t.q.2.1 L.toNat (zi zg)
  let u:=zJ E (Io C.1.2.1)
  let T:=[getD C.1.2.1 (toNat E) (zi zj)]
  let J:=Q0 (Io z.t.1+Io T<=1073741824)
  let a6:=Γ Δ (L+1)
  let a7:=z.t.1++T
  br (Q0 (L<H))
  (Qc B (br (E==C.1.2.2.1) (Qc B (Qc u (Qc J (Q9 (kV.h24 a6 o D (z.1,z.2.1,z.2.2.1,z.2.2.2.1,a7,L,z.t.q) C))))) (Qc B (Qc u (Qc J (Q9 (kV.h24 a6 o D (z.1,z.2.1,z.2.2.1,z.2.2.2.1,a7,z.t.2) C)))))))
  (br (Q0 (z.t.2.1<0)) (rE 1) (Q9 (kV.h64bb 0 o D z)))
 | .h38 F o D z C z4=>
  let H:=(↑(Io C.1.t.1):Int)
  let B:=zJ F (Io C.1.t.1)
  let E:=getD C.1.t.1 F.toNat (zi zp)
  let u:=E.1==z.t.q.1
  br (Q0 (F<H))
  (Qc (B&&bif u then B else Q3) (Q9 (kV.h38b (cond u (E.2==o.1.t.t.t) Q4) (Γ Δ (F+1)) o D z C z4)))
  (rE 10)
 | .h64 h o D z=>
  let H:=(↑(Io z.t.1):Int)
  let B:=getD z.t.1 h.toNat (zi zj)
  let E:=zl o.1.t.t.1
  let u:=eQ E z.t.1
  br (Q0 (h<H))
  (Qc (zJ h (Io z.t.1)) (Qc (dJ z.t.1 B.1) (br (eP z.t.1 B.1!=h) (rE 7)
  (Q9 (kV.h64 (Γ Δ (h+1)) o D z)))))
  (Qc (kC E z.t.1) (br (u !=0) (rE u) (re (tup [Qd [str z.1,str z.2.1,str z.2.2.1,str z.2.2.2.1,
  sl zj z.t.1,ai z.t.2.1,Qb,Qb,str (zf.op z.t.q.1),ai (zf.v z.t.q.1).1,ai (zf.v z.t.q.1).2.1,str (zf.v z.t.q.1).2.2,str (zf.s z.t.q.1),sl Q5 (zf.l z.t.q.1),sl zg z.t.q.2.1,ai z.t.t.1],ai 0])
  [])))
 | .h64b h o _ z=>
  let H:=zl o.1.t.t.1
  let B:=eQ H []
  br (Q0 (h<0)) Tr.err
  (Qc (kC H []) (br (B !=0) (rE B) (re (tup [Qd
  [str z.1,str z.2.1,str z.2.2.1,str z.2.2.2.1,Qb,ai z.t.1,Qb,Qb,str (zf.op z.t.2.1),ai (zf.v z.t.2.1).1,ai (zf.v z.t.2.1).2.1,str (zf.v z.t.2.1).2.2,str (zf.s z.t.2.1),sl Q5 (zf.l z.t.2.1),Qb,ai z.t.q.1],
  ai 0]) [])))
 | .h64bb h o D z=>
  let H:=(↑z.t.1.length:Int)
  let B:=z.t.1.getD h.toNat (zi zj)
  let E:=zl o.1.t.t.1
  let u:=eQ E z.t.1
  br (Q0 (h<H))
  (Qc (zJ h (Io z.t.1)) (Qc (Q0 (h.toNat<Io z.t.1)) (Qc (dJ z.t.1 B.1) (br (eP z.t.1 B.1!=h) (rE 7)
  (Q9 (kV.h64bb (Γ Δ (h+1)) o D z))))))
  (Qc (kC E z.t.1) (br (u !=0) (rE u) (re (tup [Qd
  [str z.1,str z.2.1,str z.2.2.1,str z.2.2.2.1,AV.vec 0,ai z.t.2.1,Qb,Qb,str (zf.op z.t.q.1),ai (zf.v z.t.q.1).1,ai (zf.v z.t.q.1).2.1,str (zf.v z.t.q.1).2.2,str (zf.s z.t.q.1),sl Q5 (zf.l z.t.q.1),
  sl zg z.t.q.2.1,ai z.t.t.1],ai 0]) [AO.vec zj z.t.1])))
 | .h38b W F o D z C z4=>
  let H:=(↑(Io C.1.t.1):Int)
  let B:=zJ F (Io C.1.t.1)
  let E:=getD C.1.t.1 F.toNat (zi zp)
  let u:=E.1==z.t.q.1
  let T:=Γ Δ ((↑(Io C.1.2.1):Int)+(↑(Io z4.1.2.1):Int))
  br (Q0 (F<H))
  (Qc (cond W Q3 (B&&bif u then B else Q3)) (Q9 (kV.h38b (cond W Q3 (cond u (E.2==o.1.t.t.t) Q4)) (Γ Δ (F+1)) o D z C z4)))
  (br (!W) (rE 10) (br (Q0 (T>9)) (rE 13) (Qc (Q0 (Io C.1.2.1<=1073741824)) (Q9 (kV.h48 0 o D (z.1,z.2.1,z.2.2.1,z.2.2.2.1,C.1.2.1,C.1.2.2.1,z.t.2.1,[],z.t.q) z4)))))
 | .h48 I o D z C=>
  let H:=(↑(Io C.1.2.1):Int)
  let B:=[getD C.1.2.1 I.toNat (zi zj)]
  let E:=Γ Δ (I+1)
  br (Q0 (I<H))
  (br (I !=C.1.2.2.1) (Qc (Q0 (Io z.t.q.2.1+[I].length<=1073741824)) (Qc (zJ I (Io C.1.2.1)) (Qc (Q0 (Io z.t.1+Io B<=1073741824)) (Q9 (kV.h48 E o D (z.1,z.2.1,z.2.2.1,z.2.2.2.1,z.t.1++B,z.t.2.1,z.t.q.1,z.t.q.2.1++[I],z.t.t) C)))))
  (Q9 (kV.h48 E o D z C)))
  (Q9 (kV.h64bbb 0 o D z))
 | .h64bbb h o D z=>
  let H:=(↑z.t.1.length:Int)
  let B:=z.t.1.getD h.toNat (zi zj)
  let E:=zl o.1.t.t.1
  let u:=eQ E z.t.1
  br (Q0 (h<H))
  (Qc (zJ h (Io z.t.1)) (Qc (Q0 (h.toNat<Io z.t.1)) (Qc (dJ z.t.1 B.1) (br (eP z.t.1 B.1!=h) (rE 7)
  (Q9 (kV.h64bbb (Γ Δ (h+1)) o D z))))))
  (Qc (kC E z.t.1) (br (u !=0) (rE u) (re (tup [Qd
  [str z.1,str z.2.1,str z.2.2.1,str z.2.2.2.1,AV.vec 0,ai z.t.2.1,Qb,Qb,str (zf.op z.t.q.1),ai (zf.v z.t.q.1).1,ai (zf.v z.t.q.1).2.1,str (zf.v z.t.q.1).2.2,str (zf.s z.t.q.1),sl Q5 (zf.l z.t.q.1),AV.vec 1,
  ai z.t.t.1],ai 0]) [AO.vec zj z.t.1,AO.vec zg z.t.q.2.1])))
def D0(h:Sem zh.sl)(o:Sem zn):=an [zq,zg] dG 100000000 (SH h o)
def OI(h:Sem zh.sl)(o:Sem zn):=(D0 h o).isSome
def XF(h:Sem zh.sl)(o:Sem zn):=o2 (D0 h o)
def zju:=FT [zh.sl,zn] [zq,zg] λx=>D0 x.1 x.2.1
theorem ze0:FK 19 zju:=tR.T1 (f:=Tryz.f19) (keep:=znB) (e:=zqt)
def Ir:=U5.addL [(76,zjx),(19,zju)]
theorem NS:zw Ir:=tR.addL<|fc ze3<|fc ze0<|iA
end
open Go.RowKit Go.Lib in
theorem ZF:FK 73 (zT [.str,.str] [zg] (λ_=>Q3) λx=>(Lib.compareBytes x.1 x.2.1,())):=by
 refine fh (E:=Ir) ⟨Tryz.f73,kw,kw,kw⟩ λx W O z=>?_
 unfold eO at z;split at z
 ·simp only[Tr.val,if_true,bH]at z;subst z;obtain⟨s,t,u⟩:=x;intro C w U ρ B _ o I h H J;have L:=o.len
  match B,L,o with
  | [S,T],_,o=>
   have D:=o.rv 0 (.str s) S rfl rfl;have F:=o.rv 1 (.str t) T rfl rfl;cases D with
   |str _ X=>
   cases F with
   |str _ Y=>
   refine(Tryz.strings_Compare ⟨s.toArray⟩ ⟨t.toArray⟩ w).mono ?_;rintro e Z ⟨rfl,rfl⟩;refine ek I h H J (Below.refl _ _) (.int _ _ ?_);have:∀a b:List UInt8,-1<=Lib.compareBytes a b/\Lib.compareBytes a b<=1:=by
    intro a
    induction a with
    |nil=>intro b;cases b<;>simp[Lib.compareBytes]
    | cons x r M=>
     intro b;cases b with
     |nil=>simp[Lib.compareBytes]
     | cons y q=>
      unfold Lib.compareBytes;split
      ·simp
      ·split
       ·simp
       ·exact M q
   obtain⟨D,F⟩:=this s t;exact⟨Int.le_trans (by decide:(-9223372036854775808:Int)<=-1) D,Int.le_trans F (by decide:(1:Int)<=9223372036854775807)⟩
 ·simp at z
def zkg:ac:=aH [.str,.str] [zg] λx=>(Lib.compareBytes x.1 x.2.1,())
theorem zfT:FK 73 zkg:=Py ZF
theorem uJ:∀(f x:Nat),Lib.bitLenAux f x<=f
 |0,_=>af _
 | f+1,x=>by
  unfold Lib.bitLenAux;split
  ·omega
  ·have:=uJ f (x/2);omega
open Go.RowKit Go.Lib in
theorem YS:FK 150 (zT [.int .u64] [zg] (λx=>Q0 (0<=x.1/\x.1<=1000000)) λx=>((Lib.bitLen x.1.toNat:Nat),())):=by
 refine fh (E:=Ir) ⟨Tryz.f150,kw,kw,kw⟩ λx S M h=>?_
 unfold eO at h;split at h
 ·simp only[Tr.val]at h;split at h
  ·rename_i D;simp only[bH]at h;subst h;obtain⟨n,u⟩:=x;simp only[aN]at D;intro C w U ρ z _ B I o F J;have L:=B.len
   match z,L,B with
   | [O],_,B=>
    have H:=B.rv 0 (.int .u64 n) O rfl rfl;cases H with
    |int _ _ T=>
    refine(Tryz.bits_Len n w D.1 (Int.le_trans D.2 (by decide))).mono ?_;rintro e W ⟨rfl,rfl⟩;refine ek I o F J (Below.refl _ _) (.int _ _ ?_);have:=uJ 64 n.toNat;exact⟨Int.le_trans (by decide:(-9223372036854775808:Int)<=0) (Int.natCast_nonneg _),Int.le_trans (Int.ofNat_le.2 this) (by decide:((64:Nat):Int)<=9223372036854775807)⟩
  ·simp at h
 ·simp at h
def zcc:ac:=zT [.int .u64] [zg] (λx=>Q0 (0<=x.1/\x.1<=1000000)) λx=>((Lib.bitLen x.1.toNat:Nat),())
theorem YT:FK 150 zcc:=YS
noncomputable def zdA:=Ir.addL [(106,F91),(73,zkg),(150,zcc)]
theorem rg:zw zdA:=NS.addL<|fc zlT<|fc zfT<|fc YT iA
end Cad
namespace Go.Proofs
open Go.RowKit Go.Shelf Go.Sort
open Bool renaming false→Q4,true→Q3
open Option renaming none→Q2,some→Q1
open Decidable renaming decide→Q0
open Int (toNat)
open List (getD length)
set_option maxHeartbeats 1000000 in
theorem Tryz.name52(s:ByteArray)(v1 v2 v3 v4 v5 v6 v7 v8 v9 v10 v11:Value)(W:World):Calls Tryz.prog 68 #[.agg #[.string s,v1,v2,v3,v4,v5,v6,v7,v8,v9,v10,v11]] W λe w'=>e=.returned (.string s)/\w'=W.alloc (.cells #[.string s,v1,v2,v3,v4,v5,v6,v7,v8,v9,v10,v11] 47):=by
 go_enter Tryz.func68,Tryz.ntmps68
 go_wp2
 go_ret
 exact⟨rfl,rfl⟩
set_option maxHeartbeats 4000000 in
theorem Tryz.cmp56(s t:ByteArray)(v1 v2 v3 v4 v5 v6 v7 v8 v9 v10 v11 u1 u2 u3 u4 u5 u6 u7 u8 u9 u10 u11:Value)(nb:Nat)(W:World)(hn:W.cell? ⟨nb,0,Q2⟩=Q1 (.func (.func 68) #[] #[]))(hnb:nb<W.heap.size):
  Calls Tryz.prog 72 #[.agg #[.string s,v1,v2,v3,v4,v5,v6,v7,v8,v9,v10,v11],.agg #[.string t,u1,u2,u3,u4,u5,u6,u7,u8,u9,u10,u11],.pointer (Q1 ⟨nb,0,Q2⟩)] W λe w'=>e=.returned (.int .i64 (Lib.compareBytes s.data.toList t.data.toList))/\∃q os',w'=grow (W.drewN q) os':=by
 have h52:∀(s:ByteArray)(v1 v2 v3 v4 v5 v6 v7 v8 v9 v10 v11:Value)(W':World),Calls Tryz.prog 68 #[.agg #[.string s,v1,v2,v3,v4,v5,v6,v7,v8,v9,v10,v11]] W' λe w'=>e=.returned (.string s)/\∃q os',w'=grow (W'.drewN q) os':=λs v1 v2 v3 v4 v5 v6 v7 v8 v9 v10 v11 W'=>(Tryz.name52 s v1 v2 v3 v4 v5 v6 v7 v8 v9 v10 v11 W').mono λe w' h=>⟨h.1,0,_,h.2.trans (alloc_eq_grow _ _)⟩
 have h57:∀W',Calls Tryz.prog 73 #[.string s,.string t] W' λe w'=>e=.returned (.int .i64 (Lib.compareBytes s.data.toList t.data.toList))/\∃q os',w'=grow (W'.drewN q) os':=λW'=>(Tryz.strings_Compare s t W').mono λe w' h=>⟨h.1,0,#[],by rw[h.2,grow_empty];rfl⟩
 have mixed:Tryz.prog.follows .mixedOrders=Q3:=by kernel_rfl
 generalize Lib.compareBytes s.data.toList t.data.toList=r at h57⊢
 go_enter Tryz.func72,Tryz.ntmps72
 go_wp2
 obtain⟨W2,hW2⟩:∃W2,(W.alloc (.cells #[.string s,v1,v2,v3,v4,v5,v6,v7,v8,v9,v10,v11] 47)).alloc (.cells #[.string t,u1,u2,u3,u4,u5,u6,u7,u8,u9,u10,u11] 47)=W2:=⟨_,rfl⟩;rw[hW2];have hnn:∀n os,(grow (W2.drewN n) os).cell? ⟨nb,0,Q2⟩=Q1 (.func (.func 68) #[] #[]):=cell_grown (by rw[<-hW2];simp;omega) (by rw[<-hW2,World.cell?_alloc_past _ _ _ (by simp;omega),World.cell?_alloc_past _ _ _ hnb];exact hn);have x0:∀n os,(grow (W2.drewN n) os).cell? ⟨W.heap.size,0,Q2⟩=Q1 (.string s):=cell_grown (by rw[<-hW2];simp<;>omega) (by rw[<-hW2];simp);have y0:∀n os,(grow (W2.drewN n) os).cell? ⟨W.heap.size+1,0,Q2⟩=Q1 (.string t):=cell_grown (by rw[<-hW2];simp<;>omega) (by rw[<-hW2];simp);have x1:∀n os,(grow (W2.drewN n) os).cell? ⟨W.heap.size,1,Q2⟩=Q1 v1:=cell_grown (by rw[<-hW2];simp<;>omega) (by rw[<-hW2];simp);have y1:∀n os,(grow (W2.drewN n) os).cell? ⟨W.heap.size+1,1,Q2⟩=Q1 u1:=cell_grown (by rw[<-hW2];simp<;>omega) (by rw[<-hW2];simp);have x2:∀n os,(grow (W2.drewN n) os).cell? ⟨W.heap.size,2,Q2⟩=Q1 v2:=cell_grown (by rw[<-hW2];simp<;>omega) (by rw[<-hW2];simp);have y2:∀n os,(grow (W2.drewN n) os).cell? ⟨W.heap.size+1,2,Q2⟩=Q1 u2:=cell_grown (by rw[<-hW2];simp<;>omega) (by rw[<-hW2];simp);have x3:∀n os,(grow (W2.drewN n) os).cell? ⟨W.heap.size,3,Q2⟩=Q1 v3:=cell_grown (by rw[<-hW2];simp<;>omega) (by rw[<-hW2];simp);have y3:∀n os,(grow (W2.drewN n) os).cell? ⟨W.heap.size+1,3,Q2⟩=Q1 u3:=cell_grown (by rw[<-hW2];simp<;>omega) (by rw[<-hW2];simp);have x4:∀n os,(grow (W2.drewN n) os).cell? ⟨W.heap.size,4,Q2⟩=Q1 v4:=cell_grown (by rw[<-hW2];simp<;>omega) (by rw[<-hW2];simp);have y4:∀n os,(grow (W2.drewN n) os).cell? ⟨W.heap.size+1,4,Q2⟩=Q1 u4:=cell_grown (by rw[<-hW2];simp<;>omega) (by rw[<-hW2];simp);have x5:∀n os,(grow (W2.drewN n) os).cell? ⟨W.heap.size,5,Q2⟩=Q1 v5:=cell_grown (by rw[<-hW2];simp<;>omega) (by rw[<-hW2];simp);have y5:∀n os,(grow (W2.drewN n) os).cell? ⟨W.heap.size+1,5,Q2⟩=Q1 u5:=cell_grown (by rw[<-hW2];simp<;>omega) (by rw[<-hW2];simp);have x6:∀n os,(grow (W2.drewN n) os).cell? ⟨W.heap.size,6,Q2⟩=Q1 v6:=cell_grown (by rw[<-hW2];simp<;>omega) (by rw[<-hW2];simp);have y6:∀n os,(grow (W2.drewN n) os).cell? ⟨W.heap.size+1,6,Q2⟩=Q1 u6:=cell_grown (by rw[<-hW2];simp<;>omega) (by rw[<-hW2];simp);have x7:∀n os,(grow (W2.drewN n) os).cell? ⟨W.heap.size,7,Q2⟩=Q1 v7:=cell_grown (by rw[<-hW2];simp<;>omega) (by rw[<-hW2];simp);have y7:∀n os,(grow (W2.drewN n) os).cell? ⟨W.heap.size+1,7,Q2⟩=Q1 u7:=cell_grown (by rw[<-hW2];simp<;>omega) (by rw[<-hW2];simp);have x8:∀n os,(grow (W2.drewN n) os).cell? ⟨W.heap.size,8,Q2⟩=Q1 v8:=cell_grown (by rw[<-hW2];simp<;>omega) (by rw[<-hW2];simp);have y8:∀n os,(grow (W2.drewN n) os).cell? ⟨W.heap.size+1,8,Q2⟩=Q1 u8:=cell_grown (by rw[<-hW2];simp<;>omega) (by rw[<-hW2];simp);have x9:∀n os,(grow (W2.drewN n) os).cell? ⟨W.heap.size,9,Q2⟩=Q1 v9:=cell_grown (by rw[<-hW2];simp<;>omega) (by rw[<-hW2];simp);have y9:∀n os,(grow (W2.drewN n) os).cell? ⟨W.heap.size+1,9,Q2⟩=Q1 u9:=cell_grown (by rw[<-hW2];simp<;>omega) (by rw[<-hW2];simp);have x10:∀n os,(grow (W2.drewN n) os).cell? ⟨W.heap.size,10,Q2⟩=Q1 v10:=cell_grown (by rw[<-hW2];simp<;>omega) (by rw[<-hW2];simp);have y10:∀n os,(grow (W2.drewN n) os).cell? ⟨W.heap.size+1,10,Q2⟩=Q1 u10:=cell_grown (by rw[<-hW2];simp<;>omega) (by rw[<-hW2];simp);have x11:∀n os,(grow (W2.drewN n) os).cell? ⟨W.heap.size,11,Q2⟩=Q1 v11:=cell_grown (by rw[<-hW2];simp<;>omega) (by rw[<-hW2];simp);have y11:∀n os,(grow (W2.drewN n) os).cell? ⟨W.heap.size+1,11,Q2⟩=Q1 u11:=cell_grown (by rw[<-hW2];simp<;>omega) (by rw[<-hW2];simp);have hgr:∃os0,W2=grow W os0:=⟨_,by rw[<-hW2,alloc_eq_grow,alloc_eq_grow,grow_grow]⟩;clear hW2 hn
 go_quiet_grown (first|(go_at_call 68;refine Calls.grown_of (h52 _ _ _ _ _ _ _ _ _ _ _ _ _))|(go_at_call 73;refine Calls.grown_of (h57 _)))
 obtain⟨os0,rfl⟩:=hgr
 go_wp2
 go_ret
 exact⟨rfl,nq,os0++osq,by show grow (grow (W.drewN nq) os0) osq=_;rw[grow_grow]⟩
end Go.Proofs
namespace Cad
open Go Go.Proofs Go.Sort
open List renaming length→Io
open IntKind renaming wrap→Γ,i64→Δ
open AV renaming ptr→Qf,agg→Qd,nils→Qb
open Tr renaming chk→Qc,«to»→Q9
open AO renaming box→Qa
open Sh renaming bool→Q7,str→Q6,expr→Q5
open Bool renaming false→Q4,true→Q3
open Option renaming none→Q2,some→Q1
open Decidable renaming decide→Q0
open Int (toNat)
open List (getD)
set_option maxHeartbeats 4000000
open Tr (chk br)
open AV (nils agg tup ptr kb str sl)
abbrev Pl(w:World)(U:Nat->Prop)(ρ:Nat->Option Value)(e:Sh)(G:Sem e->Prop):={p:List Value×Sem e//Io p.1=e.size/\(∀v∈p.1,v.oneCell'=Q3)/\(∀(j:Nat)(c:AV),(zu e p.2)[j]?=Q1 c->∃v,p.1[j]?=Q1 v/\Rv w U ρ c v)/\G p.2}
section
variable {w:World} {U:Nat->Prop} {ρ:Nat->Option Value} {e:Sh} {G:Sem e->Prop}
theorem vr{α:Type}[Inhabited α]{enc:α->List Value}{k g n:Nat}{os:Array Obj}{h:Array Value}{T:TypeId}(d:Array α)(o:w.heap[g]?=Q1 (.cells h T (0,0))):
  (sortWorldK enc k w g 0 n d os).heap[g]?=Q1 (.cells (putCells id 0 (flatK enc k d) h) T (0,0)):=by
 have u:g<w.heap.size:=(dY.1 o).1;unfold sortWorldK;rw[heap_grow_old _ _ (by simpa[putRowK]using u)];simp[putRowK,putRow,mapBlock,Sort.ahead,uD,o,onCells]
theorem gX{α:Type}[Inhabited α]{h:α->List Value}{k g n:Nat}{os:Array Obj}(d:Array α){b:Nat}(u:b<w.heap.size)(o:b≠g):(sortWorldK h k w g 0 n d os).heap[b]?=w.heap[b]?:=by
 unfold sortWorldK;rw[heap_grow_old _ _ (by simpa[putRowK]using u)];have:g≠b:=λe=>o e.symm
 simp[putRowK,putRow,mapBlock,Sort.ahead,uD,this]
theorem Tx{id:Nat}{l:List (Sem e)}{v:Value}(_:0<e.size)(ho:bF w U ρ id (.vec e l))(hv:ρ id=Q1 v)(hl:l≠[])(hG:∀x∈l,G x):
  ∃(B z:Nat)(T:TypeId)(arr:Array Value)(d:Array (Pl w U ρ e G)),v=.slice (Q1 ⟨B,0,Q2⟩) (Io l) z/\U B/\w.heap[B]?=Q1 (.cells arr T (0,0))/\arr.size=z*e.size/\Io l<=z/\Io l<=aF/\0<z/\
   d.size=Io l/\d.toList.map (λp=>p.1.2)=l/\∀i(I:i<d.size)(j:Nat),j<e.size->arr[i*e.size+j]?=d[i].1.1[j]?:=by
 obtain⟨a,c,C,hm,J⟩:=ho;rw[hv]at C;cases C;rcases J with⟨h,_⟩|⟨B,T,arr,rfl,hc,M,hB,W,S,hr⟩
 ·exact absurd h hl
 have E:∀i(I:i<Io l) j,j<e.size->∃F x,(zu e l[i])[j]?=Q1 F/\arr[i*e.size+j]?=Q1 x/\Rv w U ρ F x/\x.oneCell'=Q3:=by
  intro i I j D;have o:(zu e l[i])[j]?=Q1 ((zu e l[i])[j]'(by rw[ae];exact D)):=zU _;obtain⟨x,C,u⟩:=hr i I j _ o;exact⟨_,x,o,C,u,fL e l[i] j _ x o u⟩
 refine⟨B,c,T,arr,Array.ofFn λi:Fin (Io l)=>⟨((List.range e.size).map λj=>(arr[i.1*e.size+j]?).getD undef,l[i.1]),sw,λx hx=>?_,λj F H=>?_,hG _ (aP _)⟩,rfl,M,hB,W,S,hm,hc,sw,?_,λi I j D=>?_⟩
 ·obtain⟨j,D,rfl⟩:=bc.1 hx;obtain⟨F,y,_,u,_,Z⟩:=E i.1 i.2 j (by simpa using D);rw[u];exact Z
 ·have D:j<e.size:=by have:=(dp.1 H).1;rwa [ae]at this
  obtain⟨Y,y,C,u,J,_⟩:=E i.1 i.2 j D;have L:(zu e l[i.1])[j]?=Q1 F:=H;rw[L]at C;cases C;refine⟨y,?_,J⟩;rw[eY,Aa D];simp[u]
 ·apply List.ext_getElem
  ·simp
  ·intro i C u;simp
 ·have O:i<Io l:=by simpa using I
  obtain⟨Y,y,C,u,J,_⟩:=E i O j D;rw[u];simp only[Array.getElem_ofFn];rw[eY,Aa D];simp[u]
theorem Yw{hp:Nat->AO}{id n f:Nat}{l:List (Sem e)}{v fv:Value}(h8:Sem e->Sem e->Int)(D:0<e.size)(x9:∀b,U b->b<w.heap.size)(ho:hp id=.vec e l)(i0:bF w U ρ id (.vec e l))(hv:ρ id=Q1 v)(hl:l≠[])(hG:∀x∈l,G x)
  (h3:∀(_:Inhabited (Pl w U ρ e G))(B E:Nat)(d:Array (Pl w U ρ e G)),d.size=Io l->HoldsK (λp=>p.1.1) e.size w B 0 d->B<w.heap.size->ar ρ id (.vec e l) B->
   Calls Tryz.prog f #[.slice (Q1 ⟨B,0,Q2⟩) d.size E,fv] w λe' w'=>e'=.returned (.tuple #[])/\∃(u:Array (Pl w U ρ e G))(m:Nat)(os:Array Obj),PermIn 0 d.size d u/\SortedIn (ltOf λp q=>h8 p.1.2 q.1.2) 0 d.size u/\w'=sortWorldK (λp=>p.1.1) e.size w B 0 m u os):
  Calls Tryz.prog f #[v,fv] w λe' w'=>∃l',List.Perm l' l/\l'.Pairwise (λx y=>¬h8 y x<0)/\∃v' U' ρ',e'=.returned v'/\Ef n hp {val:=.tup [],wr:=[(id,.vec e l')]} w U ρ v' w' U' ρ':=by
 obtain⟨B,E,T,arr,d,rfl,h0,hB,x8,x4,hm,a3,I,a5,a4⟩:=Tx (G:=G) D i0 hv hl hG;have i3:0<d.size:=by rw[I];exact List.length_pos_iff.2 hl
 have h9:=x9 B h0;have L:ar ρ id (.vec e l) B:=⟨rfl,_,hv,by simp[e7];omega⟩
 letI Y:Inhabited (Pl w U ρ e G):=⟨d[0]⟩
 have hH:HoldsK (λp:Pl w U ρ e G=>p.1.1) e.size w B 0 d:=by
  intro t ht;rw[size_flatK]at ht;have hq:t/e.size<d.size:=(Nat.div_lt_iff_lt_mul D).2 ht;have hr:t%e.size<e.size:=Nat.mod_lt _ D;have hk:=a4 _ hq _ hr;have x2:t/e.size*e.size+t%e.size=t:=by have:=Nat.div_add_mod t e.size;rw[Nat.mul_comm]at this;exact this
  rw[x2]at hk;have X:d[t/e.size].1.1.length=e.size:=d[t/e.size].2.1;rw[zU (by rw[X];exact hr)]at hk;refine⟨?_,by simp[World.frozen?,hB]⟩;rw[get_flatK _ _ _ _ ht,getElem!_pos d _ hq,getElem!_pos _ _ (by rw[X];exact hr)];simp[World.cell?,hB,hk]
 have x1:=h3 Y B E d I hH h9 L;rw[I]at x1;refine x1.mono ?_;rintro e' w' ⟨rfl,u,m,os,x6,x7,rfl⟩;rw[<-I]at x6 x7;obtain⟨h7,_,h6⟩:=x6;have J:u.size=Io l:=by rw[h7,I]
 have hpl:u.toList.Perm d.toList:=by
  have e1:u.extract 0 d.size=u:=by rw[<-h7];simp
  have e2:d.extract 0 d.size=d:=by simp
  rwa [e1,e2]at h6
 have Z:=vr (enc:=λp:Pl w U ρ e G=>p.1.1) (k:=e.size) (n:=m) (os:=os) u hB;have C:∀b,b<w.heap.size->b≠B->(sortWorldK (λp:Pl w U ρ e G=>p.1.1) e.size w B 0 m u os).heap[b]?=w.heap[b]?:=λb hb a8=>gX u hb a8
 have z:w.heap.size<=(sortWorldK (λp:Pl w U ρ e G=>p.1.1) e.size w B 0 m u os).heap.size:=by
  unfold sortWorldK grow putRowK;simp[Sort.ahead]
 have W:my w (sortWorldK (λp:Pl w U ρ e G=>p.1.1) e.size w B 0 m u os):=⟨z,rfl,rfl,rfl,λa ha=>by
  by_cases x0:a.block=B
  ·unfold World.frozen?;rw[x0,Z,hB]
  ·exact Ck (C a.block ha x0)⟩
 generalize sortWorldK (λp:Pl w U ρ e G=>p.1.1) e.size w B 0 m u os=w' at Z C z W;have h4:∀{c:AV}{x:Value},Rv w U ρ c x->Rv w' U ρ c x:=λh=>h.mono z (λb hb hU=>C b hb λhe=>hU (he▸h0)) (λ_ _ h=>h) (λ_ _ h=>h)
 have S:(u.toList.map λp=>p.1.2).length=Io l:=by simp[J]
 refine⟨u.toList.map λp=>p.1.2,by rw[<-a5];exact hpl.map _,?_,_,U,ρ,rfl,?_⟩
 ·rw[List.pairwise_map];refine List.pairwise_iff_getElem.2 λi j hi hj a6=>?_
  have O:i<u.size:=by simpa using hi
  have x3:j<u.size:=by simpa using hj
  have:=x7 i j (aQ _) a6 (by rw[<-h7];exact x3);rw[getElem!_pos u _ x3,getElem!_pos u _ O]at this;simp only[ltOf,decide_eq_false_iff_not]at this;simpa using this
 ·have x5:bF w' U ρ id (.vec e (u.toList.map λp=>p.1.2)):=by
   refine⟨Q1 ⟨B,0,Q2⟩,E,by rw[S];exact hv,by rw[S];exact hm,.inr ⟨B,T,_,rfl,a3,h0,Z,by simp[putCells,x8],by rw[S];exact x4,?_⟩⟩;intro i hi j c hc;have O:i<u.size:=by rw[J,<-S];exact hi
   have hj:j<e.size:=by have:=(dp.1 hc).1;rwa [ae]at this
   have a2:(zu e u[i].1.2)[j]?=Q1 c:=by simpa using hc
   obtain⟨x,F,H⟩:=u[i].2.2.2.1 j c a2;refine⟨x,?_,h4 H⟩;have ht:i*e.size+j<u.size*e.size:=by
    have:=fH e.size (Ad O);rw[gT]at this;omega
   have i1:i*e.size+j<arr.size:=by
    rw[x8];have:=fH e.size (show u.size<=E by rw[J];exact x4);omega
   have a0:(i*e.size+j)/e.size=i:=by
    rw[pd,Nat.add_mul_div_right _ _ D,Nat.div_eq_of_lt hj];omega
   have a1:(i*e.size+j)%e.size=j:=by
    rw[pd,Nat.add_mul_mod_self_right,Nat.mod_eq_of_lt hj]
   have M:=get_flatK (λp:Pl w U ρ e G=>p.1.1) e.size u _ ht;rw[a0,a1,getElem!_pos u _ O]at M;have hx:u[i].1.1[j]! =x:=by
    obtain⟨a7,he⟩:=dp.1 F;rw[getElem!_pos u[i].1.1 j a7];exact he
   rw[hx]at M;rw[getElem!_pos _ _ (by simpa using ht)]at M;simp[putCells,i1,ht,M]
  have h5:∀b,ar ρ id (.vec e (u.toList.map λp=>p.1.2)) b->b=B:=by
   rintro b ⟨_,v,F,H⟩;rw[hv]at F;cases F;simp[e7]at H;exact H.2.symm
  refine⟨W,.tup [] [] rfl sw,λi2 o h=>?_,sw,λ_ _=>rfl,λ_ _ h=>h,λb hb a9=>C b hb λhe=>a9 id (.vec e (u.toList.map λp=>p.1.2)) sw (by rw[ho,he];exact L),λb h=>g8 (x9 b h) z,λ_ _ h=>h,λ_ _ h _=>h,?_,?_⟩
  ·simp at h;obtain⟨rfl,rfl⟩:=h;exact x5
  ·intro i2 o b h hb;refine .inr ⟨id,.vec e (u.toList.map λp=>p.1.2),sw,?_⟩;rcases h with h|⟨_,h⟩
   ·simp at h;obtain⟨rfl,rfl⟩:=h;rw[h5 b hb,ho];exact L
   ·simp at h
  ·intro id1 o1 i4 o2 b F H _ _;rcases F with F|⟨_,F⟩
   ·rcases H with H|⟨_,H⟩
    ·simp at F H;rw[F.1,H.1]
    ·simp at H
   ·simp at F
end
end Cad
