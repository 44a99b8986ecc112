/- The document's parser. -/
import Derived.Test.YtjfdpfapcmcncaaGreatDoorR13
import Derived.Test.YtjfdpfapcmcncaaGreatDoorR10
import Derived.Shelf.SlSortCmp.InsertionK
import Derived.Sort.OwnSorted
namespace Cad
open Go Go.Proofs
open List renaming length→Io
open IntKind renaming wrap→Γ,i64→Δ
open AV renaming ptr→Qf,agg→Qd,nils→Qb
open Tr renaming chk→Qc,«to»→Q9
open AO renaming box→Qa
open Sh renaming bool→Q7,str→Q6,expr→Q5
open Bool renaming false→Q4,true→Q3
open Option renaming none→Q2,some→Q1
open Decidable renaming decide→Q0
open Int (toNat)
open List (getD)
set_option maxHeartbeats 4000000
open Tr (chk br re)
open AV (nils agg tup ptr kb str sl)
noncomputable section
abbrev zn4:=kR [(17,[2,4,6,7,8]),(25,[2,4,6,7,9])]
inductive RA where
 |h17 (l4:LF) (z0:zl jg) (z1:zl aC) (z2:zl jg)
 |h25 (l4:LF) (z0:zl jg) (z1:zl aC) (z2:zl jg)
abbrev zqR:RA->Nat×St
 |.h17 h z o u=>(17,⟨tm 172 [(2,Qf 0 0),(4,sl zp h),(6,Qf 1 0),(7,Qf 2 0),(8,kb Q3)],[Qa (bb [] jg z),Qa (bb [] aC o),Qa (bb [] jg u)]⟩)
 |.h25 h z o u=>(25,⟨tm 172 [(2,Qf 0 0),(4,sl zp h),(6,Qf 1 0),(7,Qf 2 0),(9,kb Q3)],[Qa (bb [] jg z),Qa (bb [] aC o),Qa (bb [] jg u)]⟩)
def zr8(x0:TS):Tr (RA⊕aw):=
 let a0:=((AB x0).1,0,Q3,())
 let a1:=fw a0 Z7
 let a2:=(a1.2.1,a1.2.2.1,a1.2.2.2.1,())
 let a3:=fw a2 zab
 let a4:=(a3.2.1,a3.2.2.1,a3.2.2.2.1,())
 let a5:=bI a4 zaj
 let a6:=(a5.1,a5.2.1,a5.2.2.1,())
 let a7:=bT a6
 let a8:=(↑(Io (AB x0).1):Int)
 let a9:=(Ft,a7.1,[],[],[],[],[],[],zf.mk [] (0,0,[]) [] [],[],[],zf.mk [] (0,0,[]) [] [],[])
 let x8:=lJ a9
 let D:=fw a4 zad
 let E:=(D.2.1,D.2.2.1,D.2.2.2.1,())
 let Z:=bI E zae
 let h4:=(Z.1,Z.2.1,Z.2.2.1,())
 let F:=bT h4
 let h5:=(F.2.1,F.2.2.1,F.2.2.2.1,())
 let h0:=bI h5 zal
 let h6:=(h0.1,h0.2.1,h0.2.2.1,())
 let H:=fw E zak
 let I:=(H.2.1,H.2.2.1,H.2.2.2.1,())
 let J:=bT I
 let h7:=(J.2.1,J.2.2.1,J.2.2.2.1,())
 let L:=fw I Z9
 let M:=(L.2.1,L.2.2.1,L.2.2.2.1,())
 let h1:=bI M uP
 let h8:=(h1.1,h1.2.1,h1.2.2.1,())
 let B:=bT h8
 let h9:=(B.2.1,B.2.2.1,B.2.2.2.1,())
 let o:=eT h9 gE
 let x1:=(Kh,B.1,[],[],[],[],[],[],zf.mk [] (0,0,[]) [] [],[],[],zm o.1,[])
 let x9:=lJ x1
 let O:=fw M zai
 let S:=(O.2.1,O.2.2.1,O.2.2.2.1,())
 let h2:=bI S [42]
 let x2:=(h2.1,h2.2.1,h2.2.2.1,())
 let h3:=bI x2 uP
 let x3:=(h3.1,h3.2.1,h3.2.2.1,())
 let C:=bT x3
 let x4:=(C.2.1,C.2.2.1,C.2.2.2.1,())
 let u:=eT x4 gE
 let x5:=(pO,C.1,[],[],[],[],[],[],zf.mk [] (0,0,[]) [] [],[],[],zm u.1,[])
 let i0:=lJ x5
 let T:=fw S zac
 let W:=(T.2.1,T.2.2.1,T.2.2.2.1,())
 let i1:=MI W RY
 let X:=fw W zag
 let Y:=(X.2.1,X.2.2.1,X.2.2.2.1,())
 let i2:=MI Y RY
 let z:=fw Y zaf
 let x6:=(z.2.1,z.2.2.1,z.2.2.2.1,())
 let h:=zem x6 ([],[],[],[],[],0,0,[],[],[],0,0,[],[],[],())
 let x7:=(h.2.1,h.2.2.1,h.2.2.2.1,h.t.1,[],h.t.2.1,[],[],zm h.t.q.1,[],[],zf.mk h.t.q.2.1 (h.t.t.1,h.t.t.2.1,h.t.t.q.1) h.t.t.q.2.1 [],h.t.t.t.1)
 let i3:=lJ x7
 Qc (Js x0)
 (br (!(AB x0).2)
  (re (tup [Qd [str [],str [],str [],Qb,Qb,str [],Qb,Qb,str [],ai 0,ai 0,str [],str [],Qb,Qb,Qb,str [],ai 0,ai 0,str [],str [],Qb,str []],kb Q4]) [])
  (Qc (eb a0 Z7) (br a1.1 Tr.err (Qc (eb a2 zab) (br a3.1 (Qc (aW a4 zaj) (Qc (bu a6) (br (cond (!a7.2.2.2.1) Q3 (a7.2.2.1!=a8)) (re (tup [Qd [str [],str [],str [],Qb,Qb,str [],Qb,Qb,str [],ai 0,
  ai 0,str [],str [],Qb,Qb,Qb,str [],ai 0,ai 0,str [],str [],Qb,str []],kb Q4]) []) (Qc (iM a9) (br (!x8.2) (re (tup [Qd [str [],str [],str [],Qb,Qb,str [],Qb,Qb,str [],ai 0,
  ai 0,str [],str [],Qb,Qb,Qb,str [],ai 0,ai 0,str [],str [],Qb,str []],kb Q4]) []) (re (tup [Qd [str Ft,str a7.1,str [],Qb,Qb,str [],Qb,Qb,str [],
  ai 0,ai 0,str [],str [],Qb,Qb,Qb,str [],ai 0,ai 0,str [],str [],Qb,str []],kb Q3]) [])))))) (Qc (eb a4 zad) (br D.1 (Qc (aW E zae) (Qc (bu h4) (Qc (aW h5 zal) (Qc (aW h6 [40]) (Q9
  (RA.h17 (AB x0).1 ([],[],[],[],[],0,0,[],[],[],0,0,[],[],[],()) (bI h6 [40]) (H6,F.1,[],[],[],0,0,[],[],[],0,0,[],[],[],()))))))) (Qc (eb E zak) (br H.1 (Qc (bu I) (Qc (aW h7 [83,69,84]) (Q9
  (RA.h25 (AB x0).1 ([],[],[],[],[],0,0,[],[],[],0,0,[],[],[],()) (bI h7 [83,69,84]) (pt,J.1,[],[],[],0,0,[],[],[],0,0,[],[],[],()))))) (Qc (eb I Z9) (br L.1 (Qc (aW M uP) (Qc (bu h8) (Qc (dR h9 gE)
  (br (cond (!o.2.2.2.1) Q3 (o.2.2.1!=a8)) (re (tup [Qd [str [],str [],str [],Qb,Qb,str [],Qb,Qb,str [],ai 0,ai 0,str [],str [],Qb,Qb,Qb,str [],ai 0,ai 0,str [],str [],Qb,str []],kb Q4]) []) (Qc (iM x1) (br (!x9.2)
  (re (tup [Qd [str [],str [],str [],Qb,Qb,str [],Qb,Qb,str [],ai 0,ai 0,str [],str [],Qb,Qb,Qb,str [],ai 0,ai 0,str [],str [],Qb,str []],kb Q4]) []) (re (tup [Qd
  [str Kh,str B.1,str [],Qb,Qb,str [],Qb,Qb,str [],ai 0,ai 0,str [],str [],Qb,Qb,Qb,str (zf.op o.1),ai (zf.v o.1).1,ai (zf.v o.1).2.1,str (zf.v o.1).2.2,str (zf.s o.1),sl Q5 (zf.l o.1),str []],
  kb Q3]) []))))))) (Qc (eb M zai) (br O.1 (Qc (aW S [42]) (Qc (aW x2 uP) (Qc (bu x3) (Qc (dR x4 gE) (br (cond (!u.2.2.2.1) Q3 (u.2.2.1!=a8)) (re (tup [Qd
  [str [],str [],str [],Qb,Qb,str [],Qb,Qb,str [],ai 0,ai 0,str [],str [],Qb,Qb,Qb,str [],ai 0,ai 0,str [],str [],Qb,str []],kb Q4]) []) (Qc (iM x5) (br (!i0.2) (re (tup [Qd
  [str [],str [],str [],Qb,Qb,str [],Qb,Qb,str [],ai 0,ai 0,str [],str [],Qb,Qb,Qb,str [],ai 0,ai 0,str [],str [],Qb,str []],kb Q4]) []) (re (tup [Qd
  [str pO,str C.1,str [],Qb,Qb,str [],Qb,Qb,str [],ai 0,ai 0,str [],str [],Qb,Qb,Qb,str (zf.op u.1),ai (zf.v u.1).1,ai (zf.v u.1).2.1,str (zf.v u.1).2.2,str (zf.s u.1),sl Q5 (zf.l u.1),str []],
  kb Q3]) [])))))))) (Qc (eb S zac) (br T.1 (Qc (JG W RY) (br i1.1 Tr.err Tr.err)) (Qc (eb W zag) (br X.1 (Qc (JG Y RY) (br i2.1 Tr.err Tr.err)) (Qc (eb Y zaf) (br z.1
  (Qc (XY x6 ([],[],[],[],[],0,0,[],[],[],0,0,[],[],[],())) (br (cond (!h.1.2.2.1) Q3 (h.1.2.1!=a8)) (re (tup [Qd [str [],str [],str [],Qb,Qb,str [],Qb,Qb,str [],ai 0,ai 0,str [],str [],Qb,Qb,Qb,str [],
  ai 0,ai 0,str [],str [],Qb,str []],kb Q4]) []) (Qc (iM x7) (br (!i3.2) (re (tup [Qd [str [],str [],str [],Qb,Qb,str [],Qb,Qb,str [],ai 0,ai 0,str [],str [],Qb,Qb,Qb,
  str [],ai 0,ai 0,str [],str [],Qb,str []],kb Q4]) []) (re (tup [Qd [str h.2.1,str h.2.2.1,str h.2.2.2.1,AV.vec 0,Qb,str h.t.2.1,Qb,Qb,str (zf.op h.t.q.1),ai (zf.v h.t.q.1).1,ai (zf.v h.t.q.1).2.1,
  str (zf.v h.t.q.1).2.2,str (zf.s h.t.q.1),sl Q5 (zf.l h.t.q.1),Qb,Qb,str h.t.q.2.1,ai h.t.t.1,ai h.t.t.2.1,str h.t.t.q.1,str h.t.t.q.2.1,Qb,str h.t.t.t.1],kb Q3])
  [AO.vec Q6 h.t.1]))))) (br (cond (!z.2.2.2.1) Q3 (z.2.2.1!=a8)) (re (tup [Qd [str [],str [],str [],Qb,Qb,str [],Qb,Qb,str [],ai 0,ai 0,str [],str [],Qb,Qb,Qb,str [],ai 0,ai 0,str [],str [],Qb,str []],kb Q4]) [])
  (Qc Q3 (br Q3 (re (tup [Qd [str [],str [],str [],Qb,Qb,str [],Qb,Qb,str [],ai 0,ai 0,str [],str [],Qb,Qb,Qb,str [],ai 0,ai 0,str [],str [],Qb,str []],kb Q4]) []) (re (tup [Qd
  [str [],str [],str [],Qb,Qb,str [],Qb,Qb,str [],ai 0,ai 0,str [],str [],Qb,Qb,Qb,str [],ai 0,ai 0,str [],str [],Qb,str []],kb Q3]) [])))))))))))))))))))))))
def zsK:RA->Tr (RA⊕aw)
 | .h17 D _ o z=>
  let u:=(o.1,o.2.1,o.2.2.1,())
  let B:=bI u [41]
  let h:=(z.1,z.2.1,z.2.2.1,[],[],z.2.2.2.1,[],[],zf.mk z.t.1 (z.t.2.1,z.t.q.1,z.t.q.2.1) z.t.t.1 [],[],[],zf.mk z.t.t.2.1 (z.t.t.q.1,z.t.t.q.2.1,z.t.t.t.1) z.t.t.t.2.1 [],z.t.t.t.q.1)
  let C:=lJ h
  br o.2.2.1 Tr.err
  (Qc (aW u [41])
   (br (cond (!B.2.2.1) Q3 (B.2.1!=(↑D.length:Int))) (re (tup [Qd [str [],str [],str [],Qb,Qb,str [],Qb,Qb,str [],ai 0,ai 0,str [],str [],Qb,Qb,Qb,str [],ai 0,ai 0,str [],str [],Qb,str []],kb Q4]) []) (Qc (iM h)
   (br (!C.2) (re (tup [Qd [str [],str [],str [],Qb,Qb,str [],Qb,Qb,str [],ai 0,ai 0,str [],str [],Qb,Qb,Qb,str [],ai 0,ai 0,str [],str [],Qb,str []],kb Q4]) []) (re (tup [Qd
   [str z.1,str z.2.1,str z.2.2.1,Qb,Qb,str z.2.2.2.1,Qb,Qb,str z.t.1,ai z.t.2.1,ai z.t.q.1,str z.t.q.2.1,str z.t.t.1,Qb,Qb,Qb,str z.t.t.2.1,ai z.t.t.q.1,
   ai z.t.t.q.2.1,str z.t.t.t.1,str z.t.t.t.2.1,Qb,str z.t.t.t.q.1],kb Q3]) [])))))
 | .h25 D _ o z=>
  let u:=(o.1,o.2.1,o.2.2.1,())
  let B:=bT u
  let h:=eT u gE
  let C:=(z.1,z.2.1,z.2.2.1,[],[],z.2.2.2.1,[],[],zf.mk z.t.1 (z.t.2.1,z.t.q.1,z.t.q.2.1) z.t.t.1 [],[],[],zm h.1,z.t.t.t.q.1)
  let E:=lJ C
  br o.2.2.1 (Qc (bu u) (Qc (aW (B.2.1,B.2.2.1,B.2.2.2.1,()) [61]) Tr.err))
  (Qc (dR u gE)
   (br (cond (!h.2.2.2.1) Q3 (h.2.2.1!=(↑D.length:Int))) (re (tup [Qd [str [],str [],str [],Qb,Qb,str [],Qb,Qb,str [],ai 0,ai 0,str [],str [],Qb,Qb,Qb,str [],ai 0,ai 0,str [],str [],Qb,str []],kb Q4]) []) (Qc (iM C)
   (br (!E.2) (re (tup [Qd [str [],str [],str [],Qb,Qb,str [],Qb,Qb,str [],ai 0,ai 0,str [],str [],Qb,Qb,Qb,str [],ai 0,ai 0,str [],str [],Qb,str []],kb Q4]) []) (re (tup [Qd
   [str z.1,str z.2.1,str z.2.2.1,Qb,Qb,str z.2.2.2.1,Qb,Qb,str z.t.1,ai z.t.2.1,ai z.t.q.1,str z.t.q.2.1,str z.t.t.1,Qb,Qb,Qb,str (zf.op h.1),ai (zf.v h.1).1,ai (zf.v h.1).2.1,
   str (zf.v h.1).2.2,str (zf.s h.1),sl Q5 (zf.l h.1),str z.t.t.t.q.1],kb Q3]) [])))))
def Ex(h:TS):=al [zn,Q7] zsK 100000000 (zr8 h)
def XU(h:TS):=(Ex h).isSome
def cO(h:TS):=o2 (Ex h)
def zkk:=FT [Q6] [zn,Q7] λx=>Ex x.1
theorem zfY:FK 52 zkk:=GK.T1 (f:=Tryz.f52) (keep:=zn4) (e:=zqR)
def zdq:=zdp.add 52 zkk
theorem GL:zw zdq:=GK.add zfY
end
noncomputable def zr4(h:TS):Tr (Empty⊕aw):=
 Qc (XU h)
 (re
  (Qd [str (cO h).1.1,str (cO h).1.2.1,str (cO h).1.2.2.1,sl Q6 (cO h).1.2.2.2.1,sl zj (cO h).1.t.1,str (cO h).1.t.2.1,sl Q6 (cO h).1.t.q.1,sl (Sh.str.pr Q6) (cO h).1.t.q.2.1,str (zf.op (cO h).1.t.t.1),
  ai (zf.v (cO h).1.t.t.1).1,ai (zf.v (cO h).1.t.t.1).2.1,str (zf.v (cO h).1.t.t.1).2.2,str (zf.s (cO h).1.t.t.1),sl Q5 (zf.l (cO h).1.t.t.1),sl ze (cO h).1.t.t.2.1,sl (Sh.str.pr Q5) (cO h).1.t.t.q.1,
  str (zf.op (cO h).1.t.t.q.2.1),ai (zf.v (cO h).1.t.t.q.2.1).1,ai (zf.v (cO h).1.t.t.q.2.1).2.1,str (zf.v (cO h).1.t.t.q.2.1).2.2,str (zf.s (cO h).1.t.t.q.2.1),sl Q5 (zf.l (cO h).1.t.t.q.2.1),
  str (cO h).1.t.t.t])
  [])
noncomputable def Wt(h:TS):=al [zn] t0 100000000 (zr4 h)
noncomputable def zoj(h:TS):=(Wt h).isSome
noncomputable def zsw(h:TS):=o1 (Wt h)
noncomputable def zjM:=FT [Q6] [zn] λx=>Wt x.1
theorem zfl:FK 23 zjM:=GL.T1 (f:=Tryz.f23) (keep:=k0) (e:=e0)
noncomputable def zdr:=zdq.add 23 zjM
theorem kO:zw zdr:=GL.add zfl
noncomputable section
def zdS(h:Sem ze)(o:Sem ze):Tr (Empty⊕aw):=
 let z:=h.1==o.1&&(h.2.1==o.2.1&&(h.2.2==o.2.2&&Q3))
 let u:=bc z
 Qc (nr h o)
 (br (rL h o) (re (Qd [ai 0,ai 0,str []]) [])
  (Qc (lG z) (re (Qd [ai u.1,ai u.2.1,str u.2.2]) [])))
def qz(h:Sem ze)(o:Sem ze):=al [ze] t0 100000000 (zdS h o)
def vW(h:Sem ze)(o:Sem ze):=(qz h o).isSome
def rI(h:Sem ze)(o:Sem ze):=o1 (qz h o)
def zcC:=FT [ze,ze] [ze] λx=>qz x.1 x.2.1
theorem Zl:FK 64 zcC:=kO.T1 (f:=Tryz.f64) (keep:=k0) (e:=e0)
def zdT(h:Sem ze)(o:Sem ze):Tr (Empty⊕aw):=
 let z:=Op.bytesLess h.2.2 o.2.2
 let u:=bc z
 Qc (nr h o)
 (br (rL h o) (re (Qd [ai 0,ai 0,str []]) [])
  (br (Q0 (h.2.1<o.2.1)) (Qc Q3 (re (Qd [ai (bc Q3).1,ai (bc Q3).2.1,str (bc Q3).2.2]) [])) (Qc (lG z) (re (Qd [ai u.1,ai u.2.1,str u.2.2]) []))))
def vX(h:Sem ze)(o:Sem ze):=al [ze] t0 100000000 (zdT h o)
def Bz(h:Sem ze)(o:Sem ze):=(vX h o).isSome
def yv(h:Sem ze)(o:Sem ze):=o1 (vX h o)
def zcE:=FT [ze,ze] [ze] λx=>vX x.1 x.2.1
theorem Zn:FK 65 zcE:=kO.T1 (f:=Tryz.f65) (keep:=k0) (e:=e0)
def zdU(o:Sem ze)(h:Sem ze):Tr (Empty⊕aw):=
 let z:=Γ Δ (9223372036854775807-h.2.1)
 let B:=Γ Δ (-9223372036854775808-h.2.1)
 let u:=bif Q0 (h.2.1<0)then Q0 (o.2.1<B)else Q4
 Qc (nr o h)
 (br (cond (rL o h) Q3 (o.1!=1)) (re (Qd [ai 0,ai 0,str []]) [])
  (br (cond (Q0 (h.2.1>0)) (cond (Q0 (o.2.1>z)) Q3 u) u) (re (Qd [ai 0,ai 0,str []]) []) (re (Qd [ai 1,ai (Γ Δ (o.2.1+h.2.1)),str []]) [])))
def rK(h:Sem ze)(o:Sem ze):=al [ze] t0 100000000 (zdU h o)
def wa(h:Sem ze)(o:Sem ze):=(rK h o).isSome
def yx(h:Sem ze)(o:Sem ze):=o1 (rK h o)
def zcF:=FT [ze,ze] [ze] λx=>rK x.1 x.2.1
theorem Zo:FK 66 zcF:=kO.T1 (f:=Tryz.f66) (keep:=k0) (e:=e0)
def zdV(o:Sem ze)(h:Sem ze):Tr (Empty⊕aw):=
 let z:=Γ Δ (-9223372036854775808+h.2.1)
 let B:=Γ Δ (9223372036854775807+h.2.1)
 let u:=bif Q0 (h.2.1<0)then Q0 (o.2.1>B)else Q4
 Qc (nr o h)
 (br (cond (rL o h) Q3 (o.1!=1)) (re (Qd [ai 0,ai 0,str []]) [])
  (br (cond (Q0 (h.2.1>0)) (cond (Q0 (o.2.1<z)) Q3 u) u) (re (Qd [ai 0,ai 0,str []]) []) (re (Qd [ai 1,ai (Γ Δ (o.2.1-h.2.1)),str []]) [])))
def qA(h:Sem ze)(o:Sem ze):=al [ze] t0 100000000 (zdV h o)
def vY(h:Sem ze)(o:Sem ze):=(qA h o).isSome
def rJ(h:Sem ze)(o:Sem ze):=o1 (qA h o)
def zcG:=FT [ze,ze] [ze] λx=>qA x.1 x.2.1
theorem Zp:FK 67 zcG:=kO.T1 (f:=Tryz.f67) (keep:=k0) (e:=e0)
def zdH(h:Sem Q5)(o:Sem zj.sl):Tr (Empty⊕aw):=
 br (zf.op h==[])
 (Qc (gO (zm h) (zf.mk [] (0,0,[]) [] []))
  (br (!ft (zm h) (zf.mk [] (0,0,[]) [] [])) (re (ai 1) []) (re (ai 0) [])))
 (Qc (ut (zm h))
  (br (!Ed (zm h)) (re (ai 1) []) (Qc (oJ (zm h) o) (br ((iJ (zm h) o).2!=0) (re (ai (iJ (zm h) o).2) []) (br (cond ((iJ (zm h) o).1!=0) ((iJ (zm h) o).1!=3) Q4) (re (ai 5) []) (re (ai 0) []))))))
def qF(h:Sem Q5)(o:Sem zj.sl):=al [zg] t0 100000000 (zdH h o)
def Ek(h:Sem Q5)(o:Sem zj.sl):=(qF h o).isSome
def Jk(h:Sem Q5)(o:Sem zj.sl):=o1 (qF h o)
def zb2:=FT [Q5,zj.sl] [zg] λx=>qF x.1 x.2.1
theorem YK:FK 83 zb2:=kO.T1 (f:=Tryz.f83) (keep:=k0) (e:=e0)
def Im:=zdr.addL [(64,zcC),(65,zcE),(66,zcF),(67,zcG),(83,zb2)]
theorem tP:zw Im:=kO.addL<|fc Zl<|fc Zn<|fc Zo<|fc Zp<|fc YK iz
end
noncomputable section
def CQ(g:Sem Q5->Sem (Sh.sl zj)->Sem (Sh.sl ze)->Sem ze)(c:Sem Q5->Sem (Sh.sl zj)->Sem (Sh.sl ze)->Bool):bZ:=Im.add 31 (zT [Q5,Sh.sl zj,Sh.sl ze] [ze] (λx=>c x.1 x.2.1 x.2.2.1) λx=>(g x.1 x.2.1 x.2.2.1,()))
theorem NE{g:Sem Q5->Sem (Sh.sl zj)->Sem (Sh.sl ze)->Sem ze}{c:Sem Q5->Sem (Sh.sl zj)->Sem (Sh.sl ze)->Bool}(h:FK 31 (zT [Q5,Sh.sl zj,Sh.sl ze] [ze] (λx=>c x.1 x.2.1 x.2.2.1) λx=>(g x.1 x.2.1 x.2.2.1,()))):zw (CQ g c):=tP.add h
abbrev Od:Nat->aN:=λj=>if j=6 then{slots:=[1,2,3,6,7]}else{ }
inductive FR where
 |h6 (l1:LC) (l2:LV) (i7:Int) (z0:zl [CP.d Q5]) (z1:zl [CP.d ze])
abbrev KS:FR->Nat×St
 |.h6 o u h z B=>(6,⟨tm 103 [(1,sl zj o),(2,sl ze u),(3,Qf 0 0),(6,Qf 1 0),(7,ai h)],[Qa (bb [] [CP.d Q5] z),Qa (bb [] [CP.d ze] B)]⟩)
theorem zh7(g:Sem Q5->Sem zj.sl->Sem ze.sl->Sem ze)(c:Sem Q5->Sem zj.sl->Sem ze.sl->Bool):zO (CQ g c).P 31 Tryz.f31 3:=bU kw
def qi(g:Sem Q5->Sem zj.sl->Sem ze.sl->Sem ze)(c:Sem Q5->Sem zj.sl->Sem ze.sl->Bool)(o:Sem Q5)(D:Sem zj.sl)(E:Sem ze.sl):Tr (FR⊕aw):=
 let M:=zm ((zf.l o).getD (toNat 0) (zi Q5))
 let h:=g M D E
 let F:=Hu h
 let O:=h.1==0
 let H:=bc O
 let S:=zm ((zf.l o).getD (toNat 1) (zi Q5))
 let u:=g S D E
 let I:=Hs h u
 let J:=S5 h u
 let L:=rI h u
 let z:=yv h u
 let B:=yx h u
 let C:=rJ h u
 br (zf.op o==kH)
 (re (Qd [ai (zf.v o).1,ai (zf.v o).2.1,str (zf.v o).2.2]) [])
 (br (zf.op o==cX) (Q9 (FR.h6 D E 0 (o,()) ((0,0,[]),())))
  (Qc (zJ 0 (zf.l o).length) (Qc (c M D E) (br (zf.op o==mS) (Qc (Ja h) (re (Qd [ai F.1,ai F.2.1,str F.2.2]) [])) (br (zf.op o==pb) (Qc (mC h) (br (!tj h) (Qc Q3
  (re (Qd [ai (bc Q3).1,ai (bc Q3).2.1,str (bc Q3).2.2]) [])) (Qc (lG O) (re (Qd [ai H.1,ai H.2.1,str H.2.2]) [])))) (Qc (zJ 1 (zf.l o).length) (Qc (c S D E) (br (zf.op o==em)
  (Qc (I7 h u) (re (Qd [ai I.1,ai I.2.1,str I.2.2]) [])) (br (zf.op o==uQ) (Qc (QH h u) (re (Qd [ai J.1,ai J.2.1,str J.2.2]) [])) (br (zf.op o==[61]) (Qc (vW h u) (re (Qd [ai L.1,ai L.2.1,str L.2.2]) [])) (br (zf.op o==[60])
  (Qc (Bz h u) (re (Qd [ai z.1,ai z.2.1,str z.2.2]) [])) (br (zf.op o==[43]) (Qc (wa h u) (re (Qd [ai B.1,ai B.2.1,str B.2.2]) [])) (Qc (vY h u) (re (Qd [ai C.1,ai C.2.1,str C.2.2]) []))))))))))))))
theorem zg3(g:Sem Q5->Sem zj.sl->Sem ze.sl->Sem ze)(c:Sem Q5->Sem zj.sl->Sem ze.sl->Bool)(h:Sem Q5)(o:Sem zj.sl)(u:Sem ze.sl):rn (CQ g c) 0 Od Tryz.f31 [zC Q5 h,zC zj.sl o,zC ze.sl u] []=(qi g c h o u).map (lf Tryz.f31 KS):=kw
def AG(_:Sem Q5->Sem zj.sl->Sem ze.sl->Sem ze)(_:Sem Q5->Sem zj.sl->Sem ze.sl->Bool):FR->Tr (FR⊕aw)
 | .h6 o u h B D=>
  let C:=o.getD h.toNat (zi zj)
  let z:=u.getD h.toNat (zi ze)
  br (Q0 (h<(↑o.length:Int)))
  (Qc (zJ h (Io o))
   (br (C.1==zf.s B.1) (br (Q0 (h<(↑u.length:Int))) (Qc (zJ h (Io u)) (re (Qd [ai z.1,ai z.2.1,str z.2.2]) [])) (re (Qd [ai 0,ai 0,str []]) [])) (Q9 (FR.h6 o u (Γ Δ (h+1)) B D))))
  (re (Qd [ai 0,ai 0,str []]) [])
theorem zil(g:Sem Q5->Sem zj.sl->Sem ze.sl->Sem ze)(c:Sem Q5->Sem zj.sl->Sem ze.sl->Bool):∀s,run (CQ g c) 0 Od (Func.results Tryz.f31).toList 400 (aj Tryz.f31 (KS s).1) (KS s).2=(AG g c s).map (lf Tryz.f31 KS)
 |.h6 o u h z B=>by kernel_rfl
def gN(o:Option (zz (List.map Q1 [ze]))):Sem ze:=(λr:zz (List.map Q1 [ze])=>r.1) (o.getD (bQ [ze]))
def QJ(g:Sem Q5->Sem zj.sl->Sem ze.sl->Sem ze)(c:Sem Q5->Sem zj.sl->Sem ze.sl->Bool)(h:Sem Q5)(o:Sem zj.sl)(u:Sem ze.sl):Option (zz (List.map Q1 [ze])):=al [ze] (AG g c) 100000000 (qi g c h o u)
def cu:Nat->Sem Q5->Sem zj.sl->Sem ze.sl->Option (zz (List.map Q1 [ze]))
 |0=>λ_ _ _=>Q2
 |n+1=>QJ (λh o u=>gN (cu n h o u)) λh o u=>(cu n h o u).isSome
theorem VZ:zO Im.P 31 Tryz.f31 3:=bU kw
theorem Ki:∀n,FK 31 (zT [Q5,zj.sl,ze.sl] [ze] (λx=>(cu n x.1 x.2.1 x.2.2.1).isSome) λx=>(gN (cu n x.1 x.2.1 x.2.2.1),()))
 |0=>eY ⟨Tryz.f31,VZ.1,VZ.2.1,VZ.2.2.1⟩ (λ_=>rfl)
 |n+1=>kY (E:=CQ (λh o u=>gN (cu n h o u)) (λh o u=>(cu n h o u).isSome)) (ks:=[Q5,zj.sl,ze.sl]) (outs:=[ze]) (keep:=Od) (gas:=400) (n:=100000000) (e:=KS) (t:=AG (λh o u=>gN (cu n h o u)) (λh o u=>(cu n h o u).isSome)) (i:=λx=>qi (λh o u=>gN (cu n h o u)) (λh o u=>(cu n h o u).isSome) x.1 x.2.1 x.2.2.1) (NE (Ki n)) (zh7 _ _) (λx=>zg3 _ _ x.1 x.2.1 x.2.2.1) (zil _ _) (λ_=>by kernel_rfl) (λ_=>by kernel_rfl)
def BD(h:Sem Q5)(o:Sem zj.sl)(u:Sem ze.sl):Option (zz (List.map Q1 [ze])):=cu 16 h o u
def wg(h:Sem Q5)(o:Sem zj.sl)(u:Sem ze.sl):Bool:=(BD h o u).isSome
def Ec(h:Sem Q5)(o:Sem zj.sl)(u:Sem ze.sl):Sem ze:=gN (BD h o u)
def zb5:zZ:=zT [Q5,zj.sl,ze.sl] [ze] (λx=>wg x.1 x.2.1 x.2.2.1) λx=>(Ec x.1 x.2.1 x.2.2.1,())
theorem YN:FK 31 zb5:=Ki 16
abbrev znZ:=kR [(5,[1,3,4]),(11,[1,3,6]),(16,[1,3,7])]
inductive Fp where
 |h5 (i3:Int) (i4:Int) (z0:zl [CP.d zo])
 |h11 (i3:Int) (i6:Int) (z0:zl [CP.d zo])
 |h16 (i3:Int) (i7:Int) (z0:zl [CP.d zo])
abbrev zqM:Fp->Nat×St
 |.h5 h o z=>(5,⟨tm 139 [(1,Qf 0 0),(3,ai h),(4,ai o)],[Qa (bb [] [CP.d zo] z)]⟩)
 |.h11 h u z=>(11,⟨tm 139 [(1,Qf 0 0),(3,ai h),(6,ai u)],[Qa (bb [] [CP.d zo] z)]⟩)
 |.h16 h B z=>(16,⟨tm 139 [(1,Qf 0 0),(3,ai h),(7,ai B)],[Qa (bb [] [CP.d zo] z)]⟩)
def zhA(h:Sem zo):Tr (Fp⊕aw):=
 let o:=(↑(Io h.2.1):Int)
 let u:=Q0 (o<1)
 let z:=Q0 (o>8)
 let B:=Q0 (h.2.2.1<0)
 let C:=Q0 (h.2.2.1>=o)
 let D:=getD h.2.1 (toNat h.2.2.1) (zi zj)
 Qc
 (dQ h.1&&
  bif !bv h.1 then Q3
  else bif u then Q3 else bif z then Q3 else bif B then Q3 else bif C then Q3 else zJ h.2.2.1 (Io h.2.1))
 (br (cond (!bv h.1) Q3 (cond u Q3 (cond z Q3 (cond B Q3 (cond C Q3 (!D.2.2))))))
  (re (kb Q4) []) (Q9 (Fp.h5 o 0 (h,()))))
def sL:Fp->Tr (Fp⊕aw)
 | .h5 u D z=>
  let h:=getD z.1.2.1 D.toNat (zi zj)
  let B:=!bv h.1
  let o:=Q0 (h.2.1<1)
  let C:=Q0 (h.2.1>3)
  br (Q0 (D<u))
  (Qc (zJ D (Io z.1.2.1))
   (Qc (dQ h.1&&bif B then Q3 else bif o then Q3 else bif C then Q3 else dM z.1.2.1 h.1) (br (cond B Q3 (cond o Q3 (cond C Q3 (eR z.1.2.1 h.1!=D)))) (re (kb Q4) []) (Q9 (Fp.h5 u (Γ Δ (D+1)) z)))))
  (Q9 (Fp.h11 u 0 z))
 | .h11 u E z=>
  let h:=(↑(Io z.1.2.2.2.1):Int)
  let B:=zJ E (Io z.1.2.2.2.1)
  let o:=getD z.1.2.2.2.1 E.toNat (zi zg)
  let C:=Q0 (o<0)
  br (Q0 (E<h))
  (Qc (B&&bif C then Q3 else B)
   (br (cond C Q3 (Q0 (o>=u))) (re (kb Q4) []) (Q9 (Fp.h11 u (Γ Δ (E+1)) z))))
  (Q9 (Fp.h16 u 0 z))
 | .h16 u F z=>
  let h:=(↑(Io z.1.t.1):Int)
  let B:=zJ F (Io z.1.t.1)
  let o:=getD z.1.t.1 F.toNat (zi zp)
  let C:=Q0 (o.1<0)
  let H:=Q0 (o.1>=u)
  let I:=zm z.1.t.2
  br (Q0 (F<h))
  (Qc (B&&bif C then Q3 else B&&bif H then Q3 else B&&dQ o.2)
   (br (cond C Q3 (cond H Q3 (!bv o.2))) (re (kb Q4) []) (Q9 (Fp.h16 u (Γ Δ (F+1)) z))))
  (Qc (Ek I z.1.2.1) (re (AV.bool (Jk I z.1.2.1==0)) []))
def Jj(h:Sem zo):=al [Q7] sL 100000000 (zhA h)
def yA(h:Sem zo):=(Jj h).isSome
def HC(h:Sem zo):=o1 (Jj h)
def zkd:=FT [zo] [Q7] λx=>Jj x.1
theorem zfQ:FK 38 zkd:=tP.T1 (f:=Tryz.f38) (keep:=znZ) (e:=zqM)
def US:=Im.addL [(31,zb5),(38,zkd)]
theorem lm:zw US:=tP.addL<|fc YN<|fc zfQ iz
end
noncomputable section
abbrev zn1:=kR [(4,[1,2,5]),(9,[1,2,6])]
inductive HZ where
 |h4 (l1:LV) (i5:Int) (z0:zl [CP.d zo])
 |h9 (l1:LV) (i6:Int) (z0:zl [CP.d zo])
abbrev zqO:HZ->Nat×St
 |.h4 h o z=>(4,⟨tm 83 [(1,sl ze h),(2,Qf 0 0),(5,ai o)],[Qa (bb [] [CP.d zo] z)]⟩)
 |.h9 h u z=>(9,⟨tm 83 [(1,sl ze h),(2,Qf 0 0),(6,ai u)],[Qa (bb [] [CP.d zo] z)]⟩)
def zhB(h:Sem zo)(u:Sem ze.sl):Tr (HZ⊕aw):=
 let o:=(h.1,h.2.1,h.2.2.1,h.2.2.2.1,h.t.1,zm h.t.2)
 Qc (yA o)
 (br (cond (!HC o) Q3 ((↑(Io u):Int)!=(↑(Io h.2.1):Int))) (re (ai 1) [])
  (Q9 (HZ.h4 u 0 (h,()))))
def E4:HZ->Tr (HZ⊕aw)
 | .h4 h B z=>
  let u:=h.getD B.toNat (zi ze)
  br (Q0 (B<(↑h.length:Int)))
  (Qc (zJ B (Io h)) (Qc (mC u) (br (!tj u) (re (ai 1) []) (Q9 (HZ.h4 h (Γ Δ (B+1)) z)))))
  (Q9 (HZ.h9 h 0 z))
 | .h9 h o z=>
  let u:=h.getD o.toNat (zi ze)
  let C:=u.1==0
  let D:=zJ o (Io z.1.2.1)
  let E:=getD z.1.2.1 o.toNat (zi zj)
  let F:=u.1!=0
  let H:=!zf.op z.1.t.2==[]
  let I:=zm z.1.t.2
  let J:=Ec I z.1.2.1 h
  br (Q0 (o<(↑h.length:Int)))
  (Qc (zJ o (Io h)&&bif C then D else Q3)
   (br (cond C E.2.2 Q4) (re (ai 8) []) (Qc (zJ o (Io h)&&bif F then zJ o (Io h)&&D else Q3) (br (cond F (u.1!=E.2.1) Q4) (re (ai 5) []) (Q9 (HZ.h9 h (Γ Δ (o+1)) z))))))
  (Qc (cond H (wg I z.1.2.1 h&&mn J Q4) Q3)
   (br (cond H (pA J Q4) Q4) (re (ai 9) []) (re (ai 0) [])))
def BJ(h:Sem zo)(o:Sem ze.sl):=al [zg] E4 100000000 (zhB h o)
def BI(h:Sem zo)(o:Sem ze.sl):=(BJ h o).isSome
def Ji(h:Sem zo)(o:Sem ze.sl):=o1 (BJ h o)
def zkf:=FT [zo,ze.sl] [zg] λx=>BJ x.1 x.2.1
theorem zfS:FK 54 zkf:=lm.T1 (f:=Tryz.f54) (keep:=zn1) (e:=zqO)
abbrev zn2:=kR [(2,[0,1,5]),(5,[0,1,5,6])]
inductive Kt where
 |h2 (l0:List (Sem ze.sl)) (i1:Sem zg) (i5:Int)
 |h5 (l0:List (Sem ze.sl)) (i1:Sem zg) (i5:Int) (i6:Int)
abbrev zqP:Kt->Nat×St
 |.h2 u h o=>(2,⟨tm 44 [(0,sl ze.sl u),(1,ai h),(5,ai o)],[]⟩)
 |.h5 u h o z=>(5,⟨tm 44 [(0,sl ze.sl u),(1,ai h),(5,ai o),(6,ai z)],[]⟩)
def znj(h:Sem ze.sl.sl)(o:Sem zg):Tr (Kt⊕aw):=
 Q9 (Kt.h2 h o 0)
def FJ:Kt->Tr (Kt⊕aw)
 | .h2 h u o=>
  br (Q0 (o<(↑h.length:Int))) (Q9 (Kt.h5 h u o 0)) (re (kb Q4) [])
 | .h5 h u o B=>
  let D:=h.getD o.toNat (zi ze.sl)
  let E:=zJ u (Io D)
  let z:=getD D (toNat u) (zi ze)
  let F:=z.1!=0
  let H:=h.getD B.toNat (zi ze.sl)
  let C:=getD H (toNat u) (zi ze)
  br (Q0 (B<o))
  (Qc (zJ o (Io h)&&(E&&bif F then zJ o (Io h)&&(E&&(zJ B (Io h)&&zJ u (Io H)))else Q3))
   (br (cond F (z.1==C.1&&(z.2.1==C.2.1&&(z.2.2==C.2.2&&Q3))) Q4) (re (kb Q3) []) (Q9 (Kt.h5 h u o (Γ Δ (B+1))))))
  (Q9 (Kt.h2 h u (Γ Δ (o+1))))
def wi(h:Sem ze.sl.sl)(o:Sem zg):=al [Q7] FJ 100000000 (znj h o)
def nB(h:Sem ze.sl.sl)(o:Sem zg):=(wi h o).isSome
def r8(h:Sem ze.sl.sl)(o:Sem zg):=o1 (wi h o)
def zkg:=FT [ze.sl.sl,zg] [Q7] λx=>wi x.1 x.2.1
theorem zfT:FK 145 zkg:=lm.T1 (f:=Tryz.f145) (keep:=zn2) (e:=zqP)
def znl(h:Sem zo)(u:Sem ze.sl):Tr (Empty⊕aw):=
 let z:=(h.1,h.2.1,h.2.2.1,h.2.2.2.1,h.t.1,zm h.t.2)
 let o:=getD u (toNat h.2.2.1) (zi ze)
 Qc (yA z)
 (br (cond (HC z) (Q0 (h.2.2.1<(↑(Io u):Int))) Q4)
  (Qc (zJ h.2.2.1 (Io u)) (re (Qd [ai o.1,ai o.2.1,str o.2.2]) []))
  (re (Qd [ai 0,ai 0,str []]) []))
def Eo(h:Sem zo)(o:Sem ze.sl):=al [ze] t0 100000000 (znl h o)
def yB(h:Sem zo)(o:Sem ze.sl):=(Eo h o).isSome
def HD(h:Sem zo)(o:Sem ze.sl):=o1 (Eo h o)
def zki:=FT [zo,ze.sl] [ze] λx=>Eo x.1 x.2.1
theorem zfW:FK 55 zki:=lm.T1 (f:=Tryz.f55) (keep:=k0) (e:=e0)
abbrev zn3:=kR [(2,[2,3,5])]
inductive Rz where
 |h2 (i5:Int) (z0:zl [CP.d zh]) (z1:zl [CP.d ze])
abbrev zqQ:Rz->Nat×St
 |.h2 h z o=>(2,⟨tm 43 [(2,Qf 0 0),(3,Qf 1 0),(5,ai h)],[Qa (bb [] [CP.d zh] z),Qa (bb [] [CP.d ze] o)]⟩)
def znm(h:Sem zh)(o:Sem ze):Tr (Rz⊕aw):=
 Q9 (Rz.h2 0 (h,()) (o,()))
def Yg:Rz->Tr (Rz⊕aw)
 | .h2 h z o=>
  let H:=(↑(Io z.1.2):Int)
  let C:=Q0 (h<H)
  let D:=(z.1.1.1,z.1.1.2.1,z.1.1.2.2.1,z.1.1.2.2.2.1,z.1.1.t.1,zm z.1.1.t.2)
  let E:=zJ h (Io z.1.2)
  let u:=getD z.1.2 h.toNat (zi ze.sl)
  let I:=(↑(Io u):Int)
  let F:=Q0 (z.1.1.2.2.1<I)
  let B:=getD u (toNat z.1.1.2.2.1) (zi ze)
  Qc (cond C (yA D) Q3)
  (br (cond C (HC D) Q4)
   (Qc (E&&bif F then E&&zJ z.1.1.2.2.1 (Io u)else Q3) (br (cond F (B.1==o.1.1&&(B.2.1==o.1.2.1&&(B.2.2==o.1.2.2&&Q3))) Q4) (re (ai h) []) (Q9 (Rz.h2 (Γ Δ (h+1)) z o))))
   (re (ai (-1)) []))
def BL(h:Sem zh)(o:Sem ze):=al [zg] Yg 100000000 (znm h o)
def kD(h:Sem zh)(o:Sem ze):=(BL h o).isSome
def oO(h:Sem zh)(o:Sem ze):=o1 (BL h o)
def zkj:=FT [zh,ze] [zg] λx=>BL x.1 x.2.1
theorem zfX:FK 15 zkj:=lm.T1 (f:=Tryz.f15) (keep:=zn3) (e:=zqQ)
def UT:=US.addL [(54,zkf),(145,zkg),(55,zki),(15,zkj)]
theorem tQ:zw UT:=lm.addL<|fc zfS<|fc zfT<|fc zfW<|fc zfX iz
end
noncomputable section
abbrev znI:=kR [(6,[1,3]),(14,[1,5]),(19,[1,6])]
inductive Fl where
 |h6 (i3:Int) (z0:zl [CP.d zh])
 |h14 (i5:Int) (z0:zl [CP.d zh])
 |h19 (i6:Int) (z0:zl [CP.d zh])
abbrev zqB:Fl->Nat×St
 |.h6 h z=>(6,⟨tm 82 [(1,Qf 0 0),(3,ai h)],[Qa (bb [] [CP.d zh] z)]⟩)
 |.h14 o z=>(14,⟨tm 82 [(1,Qf 0 0),(5,ai o)],[Qa (bb [] [CP.d zh] z)]⟩)
 |.h19 u z=>(19,⟨tm 82 [(1,Qf 0 0),(6,ai u)],[Qa (bb [] [CP.d zh] z)]⟩)
def VO(h:Sem zh):Tr (Fl⊕aw):=
 let o:=(h.1.1,h.1.2.1,h.1.2.2.1,h.1.2.2.2.1,h.1.t.1,zm h.1.t.2)
 Qc (yA o)
 (br (!HC o) (re (ai 1) [])
  (br (Q0 ((↑(Io h.2):Int)>200)) (re (ai 13) []) (Q9 (Fl.h6 0 (h,())))))
def qL:Fl->Tr (Fl⊕aw)
 | .h6 D z=>
  let u:=(↑(Io z.1.2):Int)
  let h:=(z.1.1.1,z.1.1.2.1,z.1.1.2.2.1,z.1.1.2.2.2.1,z.1.1.t.1,zm z.1.1.t.2)
  let o:=getD z.1.2 D.toNat (zi ze.sl)
  let B:=Ji h o
  br (Q0 (D<u))
  (Qc (zJ D (Io z.1.2))
   (Qc (BI h o) (br (B !=0) (re (ai B) []) (Q9 (Fl.h6 (Γ Δ (D+1)) z)))))
  (Qc (nB z.1.2 z.1.1.2.2.1)
   (br (r8 z.1.2 z.1.1.2.2.1) (re (ai 7) []) (Q9 (Fl.h14 0 z))))
 | .h14 E z=>
  let u:=(↑(Io z.1.1.2.2.2.1):Int)
  let h:=getD z.1.1.2.2.2.1 E.toNat (zi zg)
  br (Q0 (E<u))
  (Qc (zJ E (Io z.1.1.2.2.2.1))
   (Qc (nB z.1.2 h) (br (r8 z.1.2 h) (re (ai 7) []) (Q9 (Fl.h14 (Γ Δ (E+1)) z)))))
  (Q9 (Fl.h19 1 z))
 | .h19 C z=>
  let u:=(↑(Io z.1.2):Int)
  let h:=Γ Δ (C-1)
  let o:=(z.1.1.1,z.1.1.2.1,z.1.1.2.2.1,z.1.1.2.2.2.1,z.1.1.t.1,zm z.1.1.t.2)
  let B:=getD z.1.2 h.toNat (zi ze.sl)
  let F:=getD z.1.2 C.toNat (zi ze.sl)
  let H:=HD o B
  let I:=HD o F
  let J:=oF H I
  br (Q0 (C<u))
  (Qc (zJ h (Io z.1.2))
   (Qc (yB o B) (Qc (zJ C (Io z.1.2)) (Qc (yB o F) (Qc (lE H I) (br (Q0 (J>0)) (re (ai 15) []) (Q9 (Fl.h19 (Γ Δ (C+1)) z))))))))
  (re (ai 0) [])
def nz(h:Sem zh):=al [zg] qL 100000000 (VO h)
def Em(h:Sem zh):=(nz h).isSome
def Jl(h:Sem zh):=o1 (nz h)
def zjJ:=FT [zh] [zg] λx=>nz x.1
theorem zfi:FK 89 zjJ:=tQ.T1 (f:=Tryz.f89) (keep:=znI) (e:=zqB)
abbrev znK:=kR [(2,[0,3]),(5,[0,3,4]),(12,[0,3,4,5,6,7])]
inductive Fm where
 |h2 (l0:List (Sem zh)) (i3:Int)
 |h5 (l0:List (Sem zh)) (i3:Int) (i4:Int)
 |h12 (l0:List (Sem zh)) (i3:Int) (i4:Int) (i6:Sem zg) (i7:Int) (z0:zl [CP.d zp])
abbrev zqD:Fm->Nat×St
 |.h2 o h=>(2,⟨tm 75 [(0,sl zh o),(3,ai h)],[]⟩)
 |.h5 o h u=>(5,⟨tm 75 [(0,sl zh o),(3,ai h),(4,ai u)],[]⟩)
 |.h12 o h u z B C=>(12,⟨tm 75 [(0,sl zh o),(3,ai h),(4,ai u),(5,Qf 0 0),(6,ai z),(7,ai B)],[Qa (bb [] [CP.d zp] C)]⟩)
def znd(h:Sem zh.sl):Tr (Fm⊕aw):=
 Q9 (Fm.h2 h 0)
def sK:Fm->Tr (Fm⊕aw)
 | .h2 h o=>
  br (Q0 (o<(↑h.length:Int))) (Q9 (Fm.h5 h o 0)) (re (kb Q3) [])
 | .h5 h o B=>
  let u:=h.getD o.toNat (zi zh)
  let F:=(↑(Io u.1.t.1):Int)
  let D:=getD u.1.t.1 B.toNat (zi zp)
  let C:=lK h D.2
  Qc (zJ o (Io h))
  (br (Q0 (B<F))
   (Qc (zJ o (Io h)) (Qc (zJ B (Io u.1.t.1)) (br (Q0 (C<0)) (re (kb Q4) []) (Q9 (Fm.h12 h o B C 0 (D,()))))))
   (Q9 (Fm.h2 h (Γ Δ (o+1)))))
 | .h12 h o B H E I=>
  let u:=h.getD o.toNat (zi zh)
  let F:=(↑(Io u.2):Int)
  let D:=getD u.2 E.toNat (zi ze.sl)
  let C:=getD D (toNat I.1.1) (zi ze)
  let J:=C.1!=0
  let z:=h.getD (toNat H) (zi zh)
  let L:=((z.1.1,z.1.2.1,z.1.2.2.1,z.1.2.2.2.1,z.1.t.1,zm z.1.t.2),z.2)
  let M:=oO L C
  Qc (zJ o (Io h))
  (br (Q0 (E<F))
   (Qc (zJ o (Io h)) (Qc (zJ E (Io u.2)) (Qc (zJ I.1.1 (Io D)) (Qc (cond J (zJ H (Io h)&&kD L C) Q3) (br (cond J (Q0 (M<0)) Q4) (re (kb Q4) []) (Q9 (Fm.h12 h o B H (Γ Δ (E+1)) I)))))))
   (Q9 (Fm.h5 h o (Γ Δ (B+1)))))
def wk(h:Sem zh.sl):=al [Q7] sK 100000000 (znd h)
def Ep(h:Sem zh.sl):=(wk h).isSome
def Jo(h:Sem zh.sl):=o1 (wk h)
def zjL:=FT [zh.sl] [Q7] λx=>wk x.1
theorem zfk:FK 90 zjL:=tQ.T1 (f:=Tryz.f90) (keep:=znK) (e:=zqD)
def UU:=UT.addL [(89,zjJ),(90,zjL)]
theorem C0:zw UU:=tQ.addL<|fc zfi<|fc zfk iz
end
noncomputable section
abbrev zst:=kR [(4,[0,3]),(9,[0,4])]
inductive H9p where
 |h4 (l0:List (Sem zh)) (i3:Int)
 |h9 (l0:List (Sem zh)) (i4:Int)
abbrev e9p:H9p->Nat×St
 |.h4 h o=>(4,⟨tm 46 [(0,sl zh h),(3,ai o)],[]⟩)
 |.h9 h u=>(9,⟨tm 46 [(0,sl zh h),(4,ai u)],[]⟩)
def i9p(h:Sem zh.sl):Tr (H9p⊕aw):=
 br (Q0 ((↑(Io h):Int)>12)) (re (ai 13) []) (Q9 (H9p.h4 h 1))
def Yh:H9p->Tr (H9p⊕aw)
 | .h4 h u=>
  let o:=Γ Δ (u-1)
  let z:=h.getD o.toNat (zi zh)
  let B:=h.getD u.toNat (zi zh)
  br (Q0 (u<(↑h.length:Int)))
  (Qc (zJ o (Io h))
   (Qc (zJ u (Io h)) (br (!Op.bytesLess z.1.1 B.1.1) (re (ai 15) []) (Q9 (H9p.h4 h (Γ Δ (u+1)))))))
  (Q9 (H9p.h9 h 0))
 | .h9 h C=>
  let o:=h.getD C.toNat (zi zh)
  let z:=((o.1.1,o.1.2.1,o.1.2.2.1,o.1.2.2.2.1,o.1.t.1,zm o.1.t.2),o.2)
  let B:=Jl z
  br (Q0 (C<(↑h.length:Int)))
  (Qc (zJ C (Io h)) (Qc (Em z) (br (B !=0) (re (ai B) []) (Q9 (H9p.h9 h (Γ Δ (C+1)))))))
  (Qc (Ep h) (br (!Jo h) (re (ai 10) []) (re (ai 0) [])))
def qG(h:Sem zh.sl):=al [zg] Yh 100000000 (i9p h)
def Er(h:Sem zh.sl):=(qG h).isSome
def Jq(h:Sem zh.sl):=o1 (qG h)
def F9p:=FT [zh.sl] [zg] λx=>qG x.1
theorem zlV:FK 45 F9p:=C0.T1 (f:=Tryz.f45) (keep:=zst) (e:=e9p)
def UV:=UU.add 45 F9p
theorem nY:zw UV:=C0.add zlV
end
noncomputable section
abbrev znS:=kR [(4,[0,1,12,13])]
inductive Ry where
 |h4 (l0:List (Sem zg)) (l1:List (Sem zg)) (i12:Int) (i13:Int)
abbrev zqJ:Ry->Nat×St
 |.h4 u z h o=>(4,⟨tm 26 [(0,sl zg u),(1,sl zg z),(12,ai h),(13,ai o)],[]⟩)
def zaP(h:Sem zg.sl)(o:Sem zg.sl):Tr (Ry⊕aw):=
 br ((↑(Io h):Int)!=(↑(Io o):Int)) (re (kb Q4) []) (Q9 (Ry.h4 h o (↑(Io h):Int) 0))
def zpU:Ry->Tr (Ry⊕aw)
 | .h4 u z o h=>
  br (Q0 (h<o))
  (Qc (zJ h (Io u))
   (Qc (zJ h (Io z)) (br (u.getD h.toNat (zi zg)!=z.getD h.toNat (zi zg)) (re (kb Q4) []) (Q9 (Ry.h4 u z o (Γ Δ (h+1)))))))
  (re (kb Q3) [])
def JS(h:Sem zg.sl)(o:Sem zg.sl):=al [Q7] zpU 100000000 (zaP h o)
def JR(h:Sem zg.sl)(o:Sem zg.sl):=(JS h o).isSome
def pl(h:Sem zg.sl)(o:Sem zg.sl):=o1 (JS h o)
def zj6:=FT [zg.sl,zg.sl] [Q7] λx=>JS x.1 x.2.1
theorem zfG:FK 119 zj6:=nY.T1 (f:=Tryz.f119) (keep:=znS) (e:=zqJ)
abbrev zog:=kR [(4,[0,1,12,13])]
inductive RE where
 |h4 (l0:List (Sem zj)) (l1:List (Sem zj)) (i12:Int) (i13:Int)
abbrev zq0:RE->Nat×St
 |.h4 u z h o=>(4,⟨tm 26 [(0,sl zj u),(1,sl zj z),(12,ai h),(13,ai o)],[]⟩)
def zaT(h:Sem zj.sl)(o:Sem zj.sl):Tr (RE⊕aw):=
 br ((↑(Io h):Int)!=(↑(Io o):Int)) (re (kb Q4) []) (Q9 (RE.h4 h o (↑(Io h):Int) 0))
def zpW:RE->Tr (RE⊕aw)
 | .h4 B C o h=>
  let u:=B.getD h.toNat (zi zj)
  let z:=C.getD h.toNat (zi zj)
  br (Q0 (h<o))
  (Qc (zJ h (Io B))
   (Qc (zJ h (Io C)) (br (!(u.1==z.1&&(u.2.1==z.2.1&&(u.2.2==z.2.2&&Q3)))) (re (kb Q4) []) (Q9 (RE.h4 B C o (Γ Δ (h+1)))))))
  (re (kb Q3) [])
def JP(h:Sem zj.sl)(o:Sem zj.sl):=al [Q7] zpW 100000000 (zaT h o)
def O0(h:Sem zj.sl)(o:Sem zj.sl):=(JP h o).isSome
def AE(h:Sem zj.sl)(o:Sem zj.sl):=o1 (JP h o)
def zkF:=FT [zj.sl,zj.sl] [Q7] λx=>JP x.1 x.2.1
theorem zgi:FK 166 zkF:=nY.T1 (f:=Tryz.f166) (keep:=zog) (e:=zq0)
abbrev zoh:=kR [(4,[0,1,12,13])]
inductive RF where
 |h4 (l0:List (Sem zp)) (l1:List (Sem zp)) (i12:Int) (i13:Int)
abbrev zq1:RF->Nat×St
 |.h4 u z h o=>(4,⟨tm 26 [(0,sl zp u),(1,sl zp z),(12,ai h),(13,ai o)],[]⟩)
def zaU(h:Sem zp.sl)(o:Sem zp.sl):Tr (RF⊕aw):=
 br ((↑(Io h):Int)!=(↑(Io o):Int)) (re (kb Q4) []) (Q9 (RF.h4 h o (↑(Io h):Int) 0))
def zpX:RF->Tr (RF⊕aw)
 | .h4 u z o h=>
  let B:=u.getD h.toNat (zi zp)
  let C:=z.getD h.toNat (zi zp)
  br (Q0 (h<o))
  (Qc (zJ h (Io u))
   (Qc (zJ h (Io z)) (br (!(B.1==C.1&&(B.2==C.2&&Q3))) (re (kb Q4) []) (Q9 (RF.h4 u z o (Γ Δ (h+1)))))))
  (re (kb Q3) [])
def JQ(h:Sem zp.sl)(o:Sem zp.sl):=al [Q7] zpX 100000000 (zaU h o)
def O1(h:Sem zp.sl)(o:Sem zp.sl):=(JQ h o).isSome
def AF(h:Sem zp.sl)(o:Sem zp.sl):=o1 (JQ h o)
def zkG:=FT [zp.sl,zp.sl] [Q7] λx=>JQ x.1 x.2.1
theorem zgj:FK 167 zkG:=nY.T1 (f:=Tryz.f167) (keep:=zoh) (e:=zq1)
def UY:=UV.addL [(119,zj6),(166,zkF),(167,zkG)]
theorem C3:zw UY:=nY.addL<|fc zfG<|fc zgi<|fc zgj iz
end
noncomputable def zni(h:Sem zo)(o:Sem zo):Tr (Empty⊕aw):=
 let u:=h.1==o.1
 let z:=h.2.2.1==o.2.2.1
 let B:=AE h.2.1 o.2.1
 let C:=pl h.2.2.2.1 o.2.2.2.1
 let D:=AF h.t.1 o.t.1
 let E:=zm h.t.2
 let F:=zm o.t.2
 Qc
 (bif u then
  bif z then O0 h.2.1 o.2.1&&bif B then JR h.2.2.2.1 o.2.2.2.1&&bif C then O1 h.t.1 o.t.1&&bif D then jz 16 E F else Q3 else Q3 else Q3
  else Q3
 else Q3)
 (re (AV.bool (cond u (cond z (cond B (cond C (cond D (fE 16 E F) Q4) Q4) Q4) Q4) Q4)) [])
noncomputable def J9(h:Sem zo)(o:Sem zo):=al [Q7] t0 100000000 (zni h o)
noncomputable def J8(h:Sem zo)(o:Sem zo):=(J9 h o).isSome
noncomputable def tp(h:Sem zo)(o:Sem zo):=o1 (J9 h o)
noncomputable def zj5:=FT [zo,zo] [Q7] λx=>J9 x.1 x.2.1
theorem zfF:FK 118 zj5:=C3.T1 (f:=Tryz.f118) (keep:=k0) (e:=e0)
noncomputable def UZ:=UY.add 118 zj5
theorem NK:zw UZ:=C3.add zfF
noncomputable section
def zgZ:bZ:={zau with own:=Q3}
theorem NN:zw zgZ:=⟨⟨uY.sh⟩,uY.fs,uY.mix⟩
def zhr(o:Sem zq):Tr (Empty⊕aw):=
 let h:=[o.2.1]
 let u:=[o.2.2.1]
 br (!o.2.2.1==[]) (Qc (Q0 (Io h+Io u<=1073741824)) (re (AV.vec 0) [AO.vec Q6 (h++u)]))
 (re (AV.vec 0) [AO.vec Q6 h])
def ml(h:Sem zq):=al [Sh.str.sl] t0 100000000 (zhr h)
def jT(h:Sem zq):=(ml h).isSome
def lC(h:Sem zq):=o1 (ml h)
def zex:=FT [zq] [Sh.str.sl] λx=>ml x.1
theorem ze3:FK 46 zex:=NN.T1 (f:=Tryz.f46) (keep:=k0) (e:=e0)
theorem ze4:FK 46 zex:=ze3
def U2:=UZ.add 46 zex
theorem tR:zw U2:=NK.add ze4
end
noncomputable section
abbrev kh:List CP:=[.d .str,.d .str,.d .str,.d .str,.nil,.d zg,.nil,.nil,.d .str,.d zg,.d zg,.d .str,.d .str,.nil,.nil,.d zg]
abbrev KP:List CP:=[.d .str,.d .str,.d .str,.d .str,.nil,.d zg,.nil,.nil,.d .expr,.nil,.d zg]
abbrev R7:List CP:=[.d .str,.d .str,.d .str,.d .str,.vec zj,.d zg,.nil,.nil,.d .expr,.d (.sl zg),.d zg]
abbrev zgW:List CP:=[.d .str,.d .str,.d .str,.d .str,.d (.sl zj),.d zg,.nil,.nil,.d .expr,.d (.sl zg),.d zg]
abbrev Us:List CP:=[.d .str,.d .str,.d .str,.d .str,.vec zj,.d zg,.nil,.nil,.d .expr,.vec zg,.d zg]
def zm4(h:Sem zq)(o:Sem zq):Tr (Empty⊕aw):=
 let u:=h.1==o.1
 let z:=h.2.1==o.2.1
 let B:=h.2.2.1==o.2.2.1
 let C:=h.t.2==o.t.2
 let D:=(h.2.2.2.1.1,h.2.2.2.1.2.1,h.2.2.2.1.2.2.1,h.2.2.2.1.2.2.2.1,h.2.2.2.1.t.1,zm h.2.2.2.1.t.2)
 let E:=(o.2.2.2.1.1,o.2.2.2.1.2.1,o.2.2.2.1.2.2.1,o.2.2.2.1.2.2.2.1,o.2.2.2.1.t.1,zm o.2.2.2.1.t.2)
 let F:=tp D E
 Qc
 (bif u then
  bif z then bif B then bif C then J8 D E&&bif F then JR h.t.1 o.t.1 else Q3 else Q3 else Q3 else Q3
 else Q3)
 (re
  (AV.bool (cond u (cond z (cond B (cond C (cond F (pl h.t.1 o.t.1) Q4) Q4) Q4) Q4) Q4))
  [])
def IW(h:Sem zq)(o:Sem zq):=al [Q7] t0 100000000 (zm4 h o)
def IV(h:Sem zq)(o:Sem zq):=(IW h o).isSome
def L9(h:Sem zq)(o:Sem zq):=o1 (IW h o)
def zjt:=FT [zq,zq] [Q7] λx=>IW x.1 x.2.1
theorem zeZ:FK 76 zjt:=tR.T1 (f:=Tryz.f76) (keep:=k0) (e:=e0)
abbrev zPl:AV:=.agg [str [],str [],str [],str [],Qb,ai 0,Qb,Qb,str [],ai 0,ai 0,str [],str [],Qb,Qb,ai 0]
abbrev rE{σ:Type}(e:Int):Tr (σ⊕aw):=.re (.tup [zPl,.int .i64 e]) []
abbrev znx:Nat->aN:=λj=>if j=7 then{slots:=[0,3,4,8,9,10]}else if j=24 then{slots:=[3,4,8,11,13],prom:=[(8,Q1 4,zj)]}else if j=38 then{slots:=[3,4,8,11,14,15,16]}else if j=48 then{slots:=[3,4,8,14,17],prom:=[(8,Q1 14,.int .i64)]}else if j=64 then{slots:=[3,4,8,20]}else{ }
inductive kZ where
 |h7 (l0:List (Sem zh)) (l9:List (Sem Q6)) (i10:Int) (z0:zl [CP.d zn]) (z1:zl kh) (z2:zl KP)
 |h24 (i13:Int) (z0:zl [CP.d zn]) (z1:zl kh) (z2:zl R7) (z3:zl [CP.d zo])
 |h38 (i16:Int) (z0:zl [CP.d zn]) (z1:zl kh) (z2:zl KP) (z3:zl [CP.d zo]) (z4:zl [CP.d zo])
 |h64 (i20:Int) (z0:zl [CP.d zn]) (z1:zl kh) (z2:zl zgW)
 |h64b (i20:Int) (z0:zl [CP.d zn]) (z1:zl kh) (z2:zl KP)
 |h64bb (i20:Int) (z0:zl [CP.d zn]) (z1:zl kh) (z2:zl R7)
 |h38b (b15:Bool) (i16:Int) (z0:zl [CP.d zn]) (z1:zl kh) (z2:zl KP) (z3:zl [CP.d zo]) (z4:zl [CP.d zo])
 |h48 (i17:Int) (z0:zl [CP.d zn]) (z1:zl kh) (z2:zl Us) (z3:zl [CP.d zo])
 |h64bbb (i20:Int) (z0:zl [CP.d zn]) (z1:zl kh) (z2:zl Us)
abbrev zqs:kZ->Nat×St
 |.h7 J L E h o z=>(7,⟨tm 339 [(0,sl zh J),(3,Qf 0 0),(4,Qf 1 0),(8,Qf 2 0),(9,sl Q6 L),(10,ai E)],[Qa (bb [] [CP.d zn] h),Qa (bb [] kh o),Qa (bb [] KP z)]⟩)
 |.h24 F h o z C=>(24,⟨tm 339 [(3,Qf 0 0),(4,Qf 1 0),(8,Qf 2 0),(11,Qf 3 0),(13,ai F)],[Qa (bb [] [CP.d zn] h),Qa (bb [] kh o),Qa (bb [4] R7 z),Qa (bb [] [CP.d zo] C),AO.vec zj z.t.1]⟩)
 |.h38 B h o z C I=>(38,⟨tm 339 [(3,Qf 0 0),(4,Qf 1 0),(8,Qf 2 0),(11,Qf 3 0),(14,Qf 4 0),(15,kb Q4),(16,ai B)],[Qa (bb [] [CP.d zn] h),Qa (bb [] kh o),Qa (bb [] KP z),Qa (bb [] [CP.d zo] C),Qa (bb [] [CP.d zo] I)]⟩)
 |.h64 u h o z=>(64,⟨tm 339 [(3,Qf 0 0),(4,Qf 1 0),(8,Qf 2 0),(20,ai u)],[Qa (bb [] [CP.d zn] h),Qa (bb [] kh o),Qa (bb [] zgW z)]⟩)
 |.h64b u h o z=>(64,⟨tm 339 [(3,Qf 0 0),(4,Qf 1 0),(8,Qf 2 0),(20,ai u)],[Qa (bb [] [CP.d zn] h),Qa (bb [] kh o),Qa (bb [] KP z)]⟩)
 |.h64bb u h o z=>(64,⟨tm 339 [(3,Qf 0 0),(4,Qf 1 0),(8,Qf 2 0),(20,ai u)],[Qa (bb [] [CP.d zn] h),Qa (bb [] kh o),Qa (bb [3] R7 z),AO.vec zj z.t.1]⟩)
 |.h38b D B h o z C I=>(38,⟨tm 339 [(3,Qf 0 0),(4,Qf 1 0),(8,Qf 2 0),(11,Qf 3 0),(14,Qf 4 0),(15,AV.bool D),(16,ai B)],[Qa (bb [] [CP.d zn] h),Qa (bb [] kh o),Qa (bb [] KP z),Qa (bb [] [CP.d zo] C),Qa (bb [] [CP.d zo] I)]⟩)
 |.h48 H h o z C=>(48,⟨tm 339 [(3,Qf 0 0),(4,Qf 1 0),(8,Qf 2 0),(14,Qf 3 0),(17,ai H)],[Qa (bb [] [CP.d zn] h),Qa (bb [] kh o),Qa (bb [4,5] Us z),Qa (bb [] [CP.d zo] C),AO.vec zj z.t.1,AO.vec zg z.t.q.2.1]⟩)
 |.h64bbb u h o z=>(64,⟨tm 339 [(3,Qf 0 0),(4,Qf 1 0),(8,Qf 2 0),(20,ai u)],[Qa (bb [] [CP.d zn] h),Qa (bb [] kh o),Qa (bb [3,4] Us z),AO.vec zj z.t.1,AO.vec zg z.t.q.2.1]⟩)
def SA(o:Sem zh.sl)(h:Sem zn):Tr (kZ⊕aw):=
 let u:=zm h.t.t.1
 let z:=(h.1,h.2.1,h.2.2.1,h.2.2.2.1,h.t.1,h.t.2.1,h.t.q.1,h.t.q.2.1,u,h.t.t.2.1,h.t.t.q.1,zm h.t.t.q.2.1,h.t.t.t)
 let D:=lJ z
 let B:=!D.2
 let C:=(h.1,h.2.2.1,h.t.t.t,(h.2.1,[],0,[],[],u),[],0)
 Qc (iM z)
 (Qc (cond B Q3 (Er o))
  (br (cond B Q3 (cond (Jq o !=0) Q3 (cond (!h.1==cT) (cond (!h.1==eX) (!h.1==kq) Q4) Q4))) (rE 1) (Qc (jT C) (Q9 (kZ.h7 o (lC C) 0 (h,()) ([],[],[],[],0,[],0,0,[],[],0,()) (h.1,h.2.2.1,h.t.t.t,h.2.1,0,h.t.t.1,0,()))))))
def dG:kZ->Tr (kZ⊕aw)
 | .h7 M X O o D z=>
  let H:=lK M (X.getD O.toNat (zi Q6))
  let B:=lK M o.1.2.1
  let E:=lK M o.1.2.2.1
  let u:=M.getD (toNat E) (zi zh)
  let T:=oB u.1.2.1 o.1.2.2.2.1
  let J:=rH u.1.2.1 o.1.2.2.2.1
  let a6:=J.2!=0
  let a7:=(z.t.2.1,J.1,z.t.q)
  let a8:=(u.1,())
  let a9:=lK M o.1.t.t.t
  let Y:=eR u.1.2.1 o.1.t.2.1
  let h2:=M.getD (toNat a9) (zi zh)
  let Z:=getD J.1 (toNat 0) (zi zg)
  let h0:=getD J.1 (toNat 1) (zi zg)
  let S:=getD u.1.2.1 (toNat h0) (zi zj)
  let h1:=getD u.1.2.1 (toNat Z) (zi zj)
  br (Q0 (O<(↑X.length:Int)))
  (Qc (zJ O (Io X)) (br (Q0 (H<0)) (rE 6) (Q9 (kZ.h7 M X (Γ Δ (O+1)) o D z))))
  (br (cond (Q0 (B>=0)) Q3 (o.1.2.2.1==o.1.t.t.t)) (rE 7) (Qc (uo M X) (br (yu M X) (rE 10) (Qc (zJ E (Io M)) (br (o.1.1==cT) (Qc T (br a6 (rE J.2) (Q9 (kZ.h24 0 o D (z.1,z.2.1,z.2.2.1,z.2.2.2.1,[],-1,a7) a8)))) (br (o.1.1==eX) (Qc (zJ a9 (Io M))
  (Qc (dM u.1.2.1 o.1.t.2.1) (br (Q0 (Y<0)) (rE 4) (Q9
  (kZ.h38 0 o D (z.1,z.2.1,z.2.2.1,z.2.2.2.1,z.t.1,z.t.2.1,Y,()) a8 (h2.1,())))))) (br (o.1.1==kq) (Qc T (br a6 (rE J.2) (Qc (zJ 0 (Io J.1)) (Qc (zJ Z (Io u.1.2.1)) (Qc (zJ 1 (Io J.1)) (Qc (zJ h0 (Io u.1.2.1)) (br (S.2.1!=1) (rE 5) (Q9 (kZ.h64 0 o D (z.1,z.2.1,z.2.2.1,z.2.2.2.1,[(h1.1,h1.2.1,Q3),(S.1,S.2.1,Q4)],z.t.1,a7)))))))))) (Q9 (kZ.h64b 0 o D z)))))))))
 | .h24 L o D z C=>
  let H:=(↑(Io z.t.q.2.1):Int)
  let B:=zJ L (Io z.t.q.2.1)
  let E:=getD z.t.q.2.1 L.toNat (zi zg)
  let u:=zJ E (Io C.1.2.1)
  let T:=[getD C.1.2.1 (toNat E) (zi zj)]
  let J:=Q0 (Io z.t.1+Io T<=1073741824)
  let a6:=Γ Δ (L+1)
  let a7:=z.t.1++T
  br (Q0 (L<H))
  (Qc B (br (E==C.1.2.2.1) (Qc B (Qc u (Qc J (Q9 (kZ.h24 a6 o D (z.1,z.2.1,z.2.2.1,z.2.2.2.1,a7,L,z.t.q) C))))) (Qc B (Qc u (Qc J (Q9 (kZ.h24 a6 o D (z.1,z.2.1,z.2.2.1,z.2.2.2.1,a7,z.t.2) C)))))))
  (br (Q0 (z.t.2.1<0)) (rE 1) (Q9 (kZ.h64bb 0 o D z)))
 | .h38 F o D z C z4=>
  let H:=(↑(Io C.1.t.1):Int)
  let B:=zJ F (Io C.1.t.1)
  let E:=getD C.1.t.1 F.toNat (zi zp)
  let u:=E.1==z.t.q.1
  br (Q0 (F<H))
  (Qc (B&&bif u then B else Q3) (Q9 (kZ.h38b (cond u (E.2==o.1.t.t.t) Q4) (Γ Δ (F+1)) o D z C z4)))
  (rE 10)
 | .h64 h o D z=>
  let H:=(↑(Io z.t.1):Int)
  let B:=getD z.t.1 h.toNat (zi zj)
  let E:=zm o.1.t.t.1
  let u:=uu E z.t.1
  br (Q0 (h<H))
  (Qc (zJ h (Io z.t.1)) (Qc (dM z.t.1 B.1) (br (eR z.t.1 B.1!=h) (rE 7)
  (Q9 (kZ.h64 (Γ Δ (h+1)) o D z)))))
  (Qc (oN E z.t.1) (br (u !=0) (rE u) (re (tup [Qd [str z.1,str z.2.1,str z.2.2.1,str z.2.2.2.1,
  sl zj z.t.1,ai z.t.2.1,Qb,Qb,str (zf.op z.t.q.1),ai (zf.v z.t.q.1).1,ai (zf.v z.t.q.1).2.1,str (zf.v z.t.q.1).2.2,str (zf.s z.t.q.1),sl Q5 (zf.l z.t.q.1),sl zg z.t.q.2.1,ai z.t.t.1],ai 0])
  [])))
 | .h64b h o _ z=>
  let H:=zm o.1.t.t.1
  let B:=uu H []
  br (Q0 (h<0)) Tr.err
  (Qc (oN H []) (br (B !=0) (rE B) (re (tup [Qd
  [str z.1,str z.2.1,str z.2.2.1,str z.2.2.2.1,Qb,ai z.t.1,Qb,Qb,str (zf.op z.t.2.1),ai (zf.v z.t.2.1).1,ai (zf.v z.t.2.1).2.1,str (zf.v z.t.2.1).2.2,str (zf.s z.t.2.1),sl Q5 (zf.l z.t.2.1),Qb,ai z.t.q.1],
  ai 0]) [])))
 | .h64bb h o D z=>
  let H:=(↑z.t.1.length:Int)
  let B:=z.t.1.getD h.toNat (zi zj)
  let E:=zm o.1.t.t.1
  let u:=uu E z.t.1
  br (Q0 (h<H))
  (Qc (zJ h (Io z.t.1)) (Qc (Q0 (h.toNat<Io z.t.1)) (Qc (dM z.t.1 B.1) (br (eR z.t.1 B.1!=h) (rE 7)
  (Q9 (kZ.h64bb (Γ Δ (h+1)) o D z))))))
  (Qc (oN E z.t.1) (br (u !=0) (rE u) (re (tup [Qd
  [str z.1,str z.2.1,str z.2.2.1,str z.2.2.2.1,AV.vec 0,ai z.t.2.1,Qb,Qb,str (zf.op z.t.q.1),ai (zf.v z.t.q.1).1,ai (zf.v z.t.q.1).2.1,str (zf.v z.t.q.1).2.2,str (zf.s z.t.q.1),sl Q5 (zf.l z.t.q.1),
  sl zg z.t.q.2.1,ai z.t.t.1],ai 0]) [AO.vec zj z.t.1])))
 | .h38b W F o D z C z4=>
  let H:=(↑(Io C.1.t.1):Int)
  let B:=zJ F (Io C.1.t.1)
  let E:=getD C.1.t.1 F.toNat (zi zp)
  let u:=E.1==z.t.q.1
  let T:=Γ Δ ((↑(Io C.1.2.1):Int)+(↑(Io z4.1.2.1):Int))
  br (Q0 (F<H))
  (Qc (cond W Q3 (B&&bif u then B else Q3)) (Q9 (kZ.h38b (cond W Q3 (cond u (E.2==o.1.t.t.t) Q4)) (Γ Δ (F+1)) o D z C z4)))
  (br (!W) (rE 10) (br (Q0 (T>9)) (rE 13) (Qc (Q0 (Io C.1.2.1<=1073741824)) (Q9 (kZ.h48 0 o D (z.1,z.2.1,z.2.2.1,z.2.2.2.1,C.1.2.1,C.1.2.2.1,z.t.2.1,[],z.t.q) z4)))))
 | .h48 I o D z C=>
  let H:=(↑(Io C.1.2.1):Int)
  let B:=[getD C.1.2.1 I.toNat (zi zj)]
  let E:=Γ Δ (I+1)
  br (Q0 (I<H))
  (br (I !=C.1.2.2.1) (Qc (Q0 (Io z.t.q.2.1+[I].length<=1073741824)) (Qc (zJ I (Io C.1.2.1)) (Qc (Q0 (Io z.t.1+Io B<=1073741824)) (Q9 (kZ.h48 E o D (z.1,z.2.1,z.2.2.1,z.2.2.2.1,z.t.1++B,z.t.2.1,z.t.q.1,z.t.q.2.1++[I],z.t.t) C)))))
  (Q9 (kZ.h48 E o D z C)))
  (Q9 (kZ.h64bbb 0 o D z))
 | .h64bbb h o D z=>
  let H:=(↑z.t.1.length:Int)
  let B:=z.t.1.getD h.toNat (zi zj)
  let E:=zm o.1.t.t.1
  let u:=uu E z.t.1
  br (Q0 (h<H))
  (Qc (zJ h (Io z.t.1)) (Qc (Q0 (h.toNat<Io z.t.1)) (Qc (dM z.t.1 B.1) (br (eR z.t.1 B.1!=h) (rE 7)
  (Q9 (kZ.h64bbb (Γ Δ (h+1)) o D z))))))
  (Qc (oN E z.t.1) (br (u !=0) (rE u) (re (tup [Qd
  [str z.1,str z.2.1,str z.2.2.1,str z.2.2.2.1,AV.vec 0,ai z.t.2.1,Qb,Qb,str (zf.op z.t.q.1),ai (zf.v z.t.q.1).1,ai (zf.v z.t.q.1).2.1,str (zf.v z.t.q.1).2.2,str (zf.s z.t.q.1),sl Q5 (zf.l z.t.q.1),AV.vec 1,
  ai z.t.t.1],ai 0]) [AO.vec zj z.t.1,AO.vec zg z.t.q.2.1])))
def D0(h:Sem zh.sl)(o:Sem zn):=al [zq,zg] dG 100000000 (SA h o)
def OB(h:Sem zh.sl)(o:Sem zn):=(D0 h o).isSome
def XC(h:Sem zh.sl)(o:Sem zn):=o2 (D0 h o)
def zjq:=FT [zh.sl,zn] [zq,zg] λx=>D0 x.1 x.2.1
theorem zeW:FK 19 zjq:=tR.T1 (f:=Tryz.f19) (keep:=znx) (e:=zqs)
def In:=U2.addL [(76,zjt),(19,zjq)]
theorem NL:zw In:=tR.addL<|fc zeZ<|fc zeW<|iz
end
open Go.RowKit Go.Lib in
theorem ZD:FK 73 (zT [.str,.str] [zg] (λ_=>Q3) λx=>(Lib.compareBytes x.1 x.2.1,())):=by
 refine fg (E:=In) ⟨Tryz.f73,kw,kw,kw⟩ λx W O z=>?_
 unfold eQ at z;split at z
 ·simp only[Tr.val,if_true,bH]at z;subst z;obtain⟨s,t,u⟩:=x;intro C w U ρ B _ o I h H J;have L:=o.len
  match B,L,o with
  | [S,T],_,o=>
   have D:=o.rv 0 (.str s) S rfl rfl;have F:=o.rv 1 (.str t) T rfl rfl;cases D with
   |str _ X=>
   cases F with
   |str _ Y=>
   refine(Tryz.strings_Compare ⟨s.toArray⟩ ⟨t.toArray⟩ w).mono ?_;rintro e Z ⟨rfl,rfl⟩;refine en I h H J (Below.refl _ _) (.int _ _ ?_);have:∀a b:List UInt8,-1<=Lib.compareBytes a b/\Lib.compareBytes a b<=1:=by
    intro a
    induction a with
    |nil=>intro b;cases b<;>simp[Lib.compareBytes]
    | cons x r M=>
     intro b;cases b with
     |nil=>simp[Lib.compareBytes]
     | cons y q=>
      unfold Lib.compareBytes;split
      ·simp
      ·split
       ·simp
       ·exact M q
   obtain⟨D,F⟩:=this s t;exact⟨Int.le_trans (by decide:(-9223372036854775808:Int)<=-1) D,Int.le_trans F (by decide:(1:Int)<=9223372036854775807)⟩
 ·simp at z
def zkc:zZ:=aH [.str,.str] [zg] λx=>(Lib.compareBytes x.1 x.2.1,())
theorem zfP:FK 73 zkc:=Pp ZD
theorem uN:∀(f x:Nat),Lib.bitLenAux f x<=f
 |0,_=>ae _
 | f+1,x=>by
  unfold Lib.bitLenAux;split
  ·omega
  ·have:=uN f (x/2);omega
open Go.RowKit Go.Lib in
theorem YQ:FK 150 (zT [.int .u64] [zg] (λx=>Q0 (0<=x.1/\x.1<=1000000)) λx=>((Lib.bitLen x.1.toNat:Nat),())):=by
 refine fg (E:=In) ⟨Tryz.f150,kw,kw,kw⟩ λx S M h=>?_
 unfold eQ at h;split at h
 ·simp only[Tr.val]at h;split at h
  ·rename_i D;simp only[bH]at h;subst h;obtain⟨n,u⟩:=x;simp only[aQ]at D;intro C w U ρ z _ B I o F J;have L:=B.len
   match z,L,B with
   | [O],_,B=>
    have H:=B.rv 0 (.int .u64 n) O rfl rfl;cases H with
    |int _ _ T=>
    refine(Tryz.bits_Len n w D.1 (Int.le_trans D.2 (by decide))).mono ?_;rintro e W ⟨rfl,rfl⟩;refine en I o F J (Below.refl _ _) (.int _ _ ?_);have:=uN 64 n.toNat;exact⟨Int.le_trans (by decide:(-9223372036854775808:Int)<=0) (Int.natCast_nonneg _),Int.le_trans (Int.ofNat_le.2 this) (by decide:((64:Nat):Int)<=9223372036854775807)⟩
  ·simp at h
 ·simp at h
def zb8:zZ:=zT [.int .u64] [zg] (λx=>Q0 (0<=x.1/\x.1<=1000000)) λx=>((Lib.bitLen x.1.toNat:Nat),())
theorem YR:FK 150 zb8:=YQ
noncomputable def zdx:=In.addL [(106,F91),(73,zkc),(150,zb8)]
theorem rk:zw zdx:=NL.addL<|fc zlP<|fc zfP<|fc YR iz
end Cad
namespace Go.Proofs
open Go.RowKit Go.Shelf Go.Sort
open Bool renaming false→Q4,true→Q3
open Option renaming none→Q2,some→Q1
open Decidable renaming decide→Q0
open Int (toNat)
open List (getD length)
set_option maxHeartbeats 1000000 in
theorem Tryz.name52(s:ByteArray)(v1 v2 v3 v4 v5 v6 v7 v8 v9 v10 v11:Value)(W:World):Calls Tryz.prog 68 #[.agg #[.string s,v1,v2,v3,v4,v5,v6,v7,v8,v9,v10,v11]] W λe w'=>e=.returned (.string s)/\w'=W.alloc (.cells #[.string s,v1,v2,v3,v4,v5,v6,v7,v8,v9,v10,v11] 47):=by
 go_enter Tryz.func68,Tryz.ntmps68
 go_wp2
 go_ret
 exact⟨rfl,rfl⟩
set_option maxHeartbeats 4000000 in
theorem Tryz.cmp56(s t:ByteArray)(v1 v2 v3 v4 v5 v6 v7 v8 v9 v10 v11 u1 u2 u3 u4 u5 u6 u7 u8 u9 u10 u11:Value)(nb:Nat)(W:World)(hn:W.cell? ⟨nb,0,Q2⟩=Q1 (.func (.func 68) #[] #[]))(hnb:nb<W.heap.size):
  Calls Tryz.prog 72 #[.agg #[.string s,v1,v2,v3,v4,v5,v6,v7,v8,v9,v10,v11],.agg #[.string t,u1,u2,u3,u4,u5,u6,u7,u8,u9,u10,u11],.pointer (Q1 ⟨nb,0,Q2⟩)] W λe w'=>e=.returned (.int .i64 (Lib.compareBytes s.data.toList t.data.toList))/\∃q os',w'=grow (W.drewN q) os':=by
 have h52:∀(s:ByteArray)(v1 v2 v3 v4 v5 v6 v7 v8 v9 v10 v11:Value)(W':World),Calls Tryz.prog 68 #[.agg #[.string s,v1,v2,v3,v4,v5,v6,v7,v8,v9,v10,v11]] W' λe w'=>e=.returned (.string s)/\∃q os',w'=grow (W'.drewN q) os':=λs v1 v2 v3 v4 v5 v6 v7 v8 v9 v10 v11 W'=>(Tryz.name52 s v1 v2 v3 v4 v5 v6 v7 v8 v9 v10 v11 W').mono λe w' h=>⟨h.1,0,_,h.2.trans (alloc_eq_grow _ _)⟩
 have h57:∀W',Calls Tryz.prog 73 #[.string s,.string t] W' λe w'=>e=.returned (.int .i64 (Lib.compareBytes s.data.toList t.data.toList))/\∃q os',w'=grow (W'.drewN q) os':=λW'=>(Tryz.strings_Compare s t W').mono λe w' h=>⟨h.1,0,#[],by rw[h.2,grow_empty];rfl⟩
 have mixed:Tryz.prog.follows .mixedOrders=Q3:=by kernel_rfl
 generalize Lib.compareBytes s.data.toList t.data.toList=r at h57⊢
 go_enter Tryz.func72,Tryz.ntmps72
 go_wp2
 obtain⟨W2,hW2⟩:∃W2,(W.alloc (.cells #[.string s,v1,v2,v3,v4,v5,v6,v7,v8,v9,v10,v11] 47)).alloc (.cells #[.string t,u1,u2,u3,u4,u5,u6,u7,u8,u9,u10,u11] 47)=W2:=⟨_,rfl⟩;rw[hW2];have hnn:∀n os,(grow (W2.drewN n) os).cell? ⟨nb,0,Q2⟩=Q1 (.func (.func 68) #[] #[]):=cell_grown (by rw[<-hW2];simp;omega) (by rw[<-hW2,World.cell?_alloc_past _ _ _ (by simp;omega),World.cell?_alloc_past _ _ _ hnb];exact hn);have x0:∀n os,(grow (W2.drewN n) os).cell? ⟨W.heap.size,0,Q2⟩=Q1 (.string s):=cell_grown (by rw[<-hW2];simp<;>omega) (by rw[<-hW2];simp);have y0:∀n os,(grow (W2.drewN n) os).cell? ⟨W.heap.size+1,0,Q2⟩=Q1 (.string t):=cell_grown (by rw[<-hW2];simp<;>omega) (by rw[<-hW2];simp);have x1:∀n os,(grow (W2.drewN n) os).cell? ⟨W.heap.size,1,Q2⟩=Q1 v1:=cell_grown (by rw[<-hW2];simp<;>omega) (by rw[<-hW2];simp);have y1:∀n os,(grow (W2.drewN n) os).cell? ⟨W.heap.size+1,1,Q2⟩=Q1 u1:=cell_grown (by rw[<-hW2];simp<;>omega) (by rw[<-hW2];simp);have x2:∀n os,(grow (W2.drewN n) os).cell? ⟨W.heap.size,2,Q2⟩=Q1 v2:=cell_grown (by rw[<-hW2];simp<;>omega) (by rw[<-hW2];simp);have y2:∀n os,(grow (W2.drewN n) os).cell? ⟨W.heap.size+1,2,Q2⟩=Q1 u2:=cell_grown (by rw[<-hW2];simp<;>omega) (by rw[<-hW2];simp);have x3:∀n os,(grow (W2.drewN n) os).cell? ⟨W.heap.size,3,Q2⟩=Q1 v3:=cell_grown (by rw[<-hW2];simp<;>omega) (by rw[<-hW2];simp);have y3:∀n os,(grow (W2.drewN n) os).cell? ⟨W.heap.size+1,3,Q2⟩=Q1 u3:=cell_grown (by rw[<-hW2];simp<;>omega) (by rw[<-hW2];simp);have x4:∀n os,(grow (W2.drewN n) os).cell? ⟨W.heap.size,4,Q2⟩=Q1 v4:=cell_grown (by rw[<-hW2];simp<;>omega) (by rw[<-hW2];simp);have y4:∀n os,(grow (W2.drewN n) os).cell? ⟨W.heap.size+1,4,Q2⟩=Q1 u4:=cell_grown (by rw[<-hW2];simp<;>omega) (by rw[<-hW2];simp);have x5:∀n os,(grow (W2.drewN n) os).cell? ⟨W.heap.size,5,Q2⟩=Q1 v5:=cell_grown (by rw[<-hW2];simp<;>omega) (by rw[<-hW2];simp);have y5:∀n os,(grow (W2.drewN n) os).cell? ⟨W.heap.size+1,5,Q2⟩=Q1 u5:=cell_grown (by rw[<-hW2];simp<;>omega) (by rw[<-hW2];simp);have x6:∀n os,(grow (W2.drewN n) os).cell? ⟨W.heap.size,6,Q2⟩=Q1 v6:=cell_grown (by rw[<-hW2];simp<;>omega) (by rw[<-hW2];simp);have y6:∀n os,(grow (W2.drewN n) os).cell? ⟨W.heap.size+1,6,Q2⟩=Q1 u6:=cell_grown (by rw[<-hW2];simp<;>omega) (by rw[<-hW2];simp);have x7:∀n os,(grow (W2.drewN n) os).cell? ⟨W.heap.size,7,Q2⟩=Q1 v7:=cell_grown (by rw[<-hW2];simp<;>omega) (by rw[<-hW2];simp);have y7:∀n os,(grow (W2.drewN n) os).cell? ⟨W.heap.size+1,7,Q2⟩=Q1 u7:=cell_grown (by rw[<-hW2];simp<;>omega) (by rw[<-hW2];simp);have x8:∀n os,(grow (W2.drewN n) os).cell? ⟨W.heap.size,8,Q2⟩=Q1 v8:=cell_grown (by rw[<-hW2];simp<;>omega) (by rw[<-hW2];simp);have y8:∀n os,(grow (W2.drewN n) os).cell? ⟨W.heap.size+1,8,Q2⟩=Q1 u8:=cell_grown (by rw[<-hW2];simp<;>omega) (by rw[<-hW2];simp);have x9:∀n os,(grow (W2.drewN n) os).cell? ⟨W.heap.size,9,Q2⟩=Q1 v9:=cell_grown (by rw[<-hW2];simp<;>omega) (by rw[<-hW2];simp);have y9:∀n os,(grow (W2.drewN n) os).cell? ⟨W.heap.size+1,9,Q2⟩=Q1 u9:=cell_grown (by rw[<-hW2];simp<;>omega) (by rw[<-hW2];simp);have x10:∀n os,(grow (W2.drewN n) os).cell? ⟨W.heap.size,10,Q2⟩=Q1 v10:=cell_grown (by rw[<-hW2];simp<;>omega) (by rw[<-hW2];simp);have y10:∀n os,(grow (W2.drewN n) os).cell? ⟨W.heap.size+1,10,Q2⟩=Q1 u10:=cell_grown (by rw[<-hW2];simp<;>omega) (by rw[<-hW2];simp);have x11:∀n os,(grow (W2.drewN n) os).cell? ⟨W.heap.size,11,Q2⟩=Q1 v11:=cell_grown (by rw[<-hW2];simp<;>omega) (by rw[<-hW2];simp);have y11:∀n os,(grow (W2.drewN n) os).cell? ⟨W.heap.size+1,11,Q2⟩=Q1 u11:=cell_grown (by rw[<-hW2];simp<;>omega) (by rw[<-hW2];simp);have hgr:∃os0,W2=grow W os0:=⟨_,by rw[<-hW2,alloc_eq_grow,alloc_eq_grow,grow_grow]⟩;clear hW2 hn
 go_quiet_grown (first|(go_at_call 68;refine Calls.grown_of (h52 _ _ _ _ _ _ _ _ _ _ _ _ _))|(go_at_call 73;refine Calls.grown_of (h57 _)))
 obtain⟨os0,rfl⟩:=hgr
 go_wp2
 go_ret
 exact⟨rfl,nq,os0++osq,by show grow (grow (W.drewN nq) os0) osq=_;rw[grow_grow]⟩
end Go.Proofs
namespace Cad
open Go Go.Proofs Go.Sort
open List renaming length→Io
open IntKind renaming wrap→Γ,i64→Δ
open AV renaming ptr→Qf,agg→Qd,nils→Qb
open Tr renaming chk→Qc,«to»→Q9
open AO renaming box→Qa
open Sh renaming bool→Q7,str→Q6,expr→Q5
open Bool renaming false→Q4,true→Q3
open Option renaming none→Q2,some→Q1
open Decidable renaming decide→Q0
open Int (toNat)
open List (getD)
set_option maxHeartbeats 4000000
open Tr (chk br)
open AV (nils agg tup ptr kb str sl)
abbrev Pl(w:World)(U:Nat->Prop)(ρ:Nat->Option Value)(e:Sh)(G:Sem e->Prop):={p:List Value×Sem e//Io p.1=e.size/\(∀v∈p.1,v.oneCell'=Q3)/\(∀(j:Nat)(c:AV),(zu e p.2)[j]?=Q1 c->∃v,p.1[j]?=Q1 v/\Rv w U ρ c v)/\G p.2}
section
variable {w:World} {U:Nat->Prop} {ρ:Nat->Option Value} {e:Sh} {G:Sem e->Prop}
theorem vu{α:Type}[Inhabited α]{enc:α->List Value}{k g n:Nat}{os:Array Obj}{h:Array Value}{T:TypeId}(d:Array α)(o:w.heap[g]?=Q1 (.cells h T (0,0))):
  (sortWorldK enc k w g 0 n d os).heap[g]?=Q1 (.cells (putCells id 0 (flatK enc k d) h) T (0,0)):=by
 have u:g<w.heap.size:=(ea.1 o).1;unfold sortWorldK;rw[heap_grow_old _ _ (by simpa[putRowK]using u)];simp[putRowK,putRow,mapBlock,Sort.ahead,uF,o,onCells]
theorem gW{α:Type}[Inhabited α]{h:α->List Value}{k g n:Nat}{os:Array Obj}(d:Array α){b:Nat}(u:b<w.heap.size)(o:b≠g):(sortWorldK h k w g 0 n d os).heap[b]?=w.heap[b]?:=by
 unfold sortWorldK;rw[heap_grow_old _ _ (by simpa[putRowK]using u)];have:g≠b:=λe=>o e.symm
 simp[putRowK,putRow,mapBlock,Sort.ahead,uF,this]
theorem Ts{id:Nat}{l:List (Sem e)}{v:Value}(_:0<e.size)(ho:bF w U ρ id (.vec e l))(hv:ρ id=Q1 v)(hl:l≠[])(hG:∀x∈l,G x):
  ∃(B z:Nat)(T:TypeId)(arr:Array Value)(d:Array (Pl w U ρ e G)),v=.slice (Q1 ⟨B,0,Q2⟩) (Io l) z/\U B/\w.heap[B]?=Q1 (.cells arr T (0,0))/\arr.size=z*e.size/\Io l<=z/\Io l<=aG/\0<z/\
   d.size=Io l/\d.toList.map (λp=>p.1.2)=l/\∀i(I:i<d.size)(j:Nat),j<e.size->arr[i*e.size+j]?=d[i].1.1[j]?:=by
 obtain⟨a,c,C,hm,J⟩:=ho;rw[hv]at C;cases C;rcases J with⟨h,_⟩|⟨B,T,arr,rfl,hc,M,hB,W,S,hr⟩
 ·exact absurd h hl
 have E:∀i(I:i<Io l) j,j<e.size->∃F x,(zu e l[i])[j]?=Q1 F/\arr[i*e.size+j]?=Q1 x/\Rv w U ρ F x/\x.oneCell'=Q3:=by
  intro i I j D;have o:(zu e l[i])[j]?=Q1 ((zu e l[i])[j]'(by rw[ac];exact D)):=zU _;obtain⟨x,C,u⟩:=hr i I j _ o;exact⟨_,x,o,C,u,fL e l[i] j _ x o u⟩
 refine⟨B,c,T,arr,Array.ofFn λi:Fin (Io l)=>⟨((List.range e.size).map λj=>(arr[i.1*e.size+j]?).getD undef,l[i.1]),sw,λx hx=>?_,λj F H=>?_,hG _ (aK _)⟩,rfl,M,hB,W,S,hm,hc,sw,?_,λi I j D=>?_⟩
 ·obtain⟨j,D,rfl⟩:=bd.1 hx;obtain⟨F,y,_,u,_,Z⟩:=E i.1 i.2 j (by simpa using D);rw[u];exact Z
 ·have D:j<e.size:=by have:=(dn.1 H).1;rwa [ac]at this
  obtain⟨Y,y,C,u,J,_⟩:=E i.1 i.2 j D;have L:(zu e l[i.1])[j]?=Q1 F:=H;rw[L]at C;cases C;refine⟨y,?_,J⟩;rw[eL,yW D];simp[u]
 ·apply List.ext_getElem
  ·simp
  ·intro i C u;simp
 ·have O:i<Io l:=by simpa using I
  obtain⟨Y,y,C,u,J,_⟩:=E i O j D;rw[u];simp only[Array.getElem_ofFn];rw[eL,yW D];simp[u]
theorem Yu{hp:Nat->AO}{id n f:Nat}{l:List (Sem e)}{v fv:Value}(h8:Sem e->Sem e->Int)(D:0<e.size)(x9:∀b,U b->b<w.heap.size)(ho:hp id=.vec e l)(i0:bF w U ρ id (.vec e l))(hv:ρ id=Q1 v)(hl:l≠[])(hG:∀x∈l,G x)
  (h3:∀(_:Inhabited (Pl w U ρ e G))(B E:Nat)(d:Array (Pl w U ρ e G)),d.size=Io l->HoldsK (λp=>p.1.1) e.size w B 0 d->B<w.heap.size->ar ρ id (.vec e l) B->
   Calls Tryz.prog f #[.slice (Q1 ⟨B,0,Q2⟩) d.size E,fv] w λe' w'=>e'=.returned (.tuple #[])/\∃(u:Array (Pl w U ρ e G))(m:Nat)(os:Array Obj),PermIn 0 d.size d u/\SortedIn (ltOf λp q=>h8 p.1.2 q.1.2) 0 d.size u/\w'=sortWorldK (λp=>p.1.1) e.size w B 0 m u os):
  Calls Tryz.prog f #[v,fv] w λe' w'=>∃l',List.Perm l' l/\l'.Pairwise (λx y=>¬h8 y x<0)/\∃v' U' ρ',e'=.returned v'/\Ef n hp {val:=.tup [],wr:=[(id,.vec e l')]} w U ρ v' w' U' ρ':=by
 obtain⟨B,E,T,arr,d,rfl,h0,hB,x8,x4,hm,a3,I,a5,a4⟩:=Ts (G:=G) D i0 hv hl hG;have i3:0<d.size:=by rw[I];exact List.length_pos_iff.2 hl
 have h9:=x9 B h0;have L:ar ρ id (.vec e l) B:=⟨rfl,_,hv,by simp[e7];omega⟩
 letI Y:Inhabited (Pl w U ρ e G):=⟨d[0]⟩
 have hH:HoldsK (λp:Pl w U ρ e G=>p.1.1) e.size w B 0 d:=by
  intro t ht;rw[size_flatK]at ht;have hq:t/e.size<d.size:=(Nat.div_lt_iff_lt_mul D).2 ht;have hr:t%e.size<e.size:=Nat.mod_lt _ D;have hk:=a4 _ hq _ hr;have x2:t/e.size*e.size+t%e.size=t:=by have:=Nat.div_add_mod t e.size;rw[Nat.mul_comm]at this;exact this
  rw[x2]at hk;have X:d[t/e.size].1.1.length=e.size:=d[t/e.size].2.1;rw[zU (by rw[X];exact hr)]at hk;refine⟨?_,by simp[World.frozen?,hB]⟩;rw[get_flatK _ _ _ _ ht,getElem!_pos d _ hq,getElem!_pos _ _ (by rw[X];exact hr)];simp[World.cell?,hB,hk]
 have x1:=h3 Y B E d I hH h9 L;rw[I]at x1;refine x1.mono ?_;rintro e' w' ⟨rfl,u,m,os,x6,x7,rfl⟩;rw[<-I]at x6 x7;obtain⟨h7,_,h6⟩:=x6;have J:u.size=Io l:=by rw[h7,I]
 have hpl:u.toList.Perm d.toList:=by
  have e1:u.extract 0 d.size=u:=by rw[<-h7];simp
  have e2:d.extract 0 d.size=d:=by simp
  rwa [e1,e2]at h6
 have Z:=vu (enc:=λp:Pl w U ρ e G=>p.1.1) (k:=e.size) (n:=m) (os:=os) u hB;have C:∀b,b<w.heap.size->b≠B->(sortWorldK (λp:Pl w U ρ e G=>p.1.1) e.size w B 0 m u os).heap[b]?=w.heap[b]?:=λb hb a8=>gW u hb a8
 have z:w.heap.size<=(sortWorldK (λp:Pl w U ρ e G=>p.1.1) e.size w B 0 m u os).heap.size:=by
  unfold sortWorldK grow putRowK;simp[Sort.ahead]
 have W:mv w (sortWorldK (λp:Pl w U ρ e G=>p.1.1) e.size w B 0 m u os):=⟨z,rfl,rfl,rfl,λa ha=>by
  by_cases x0:a.block=B
  ·unfold World.frozen?;rw[x0,Z,hB]
  ·exact Ci (C a.block ha x0)⟩
 generalize sortWorldK (λp:Pl w U ρ e G=>p.1.1) e.size w B 0 m u os=w' at Z C z W;have h4:∀{c:AV}{x:Value},Rv w U ρ c x->Rv w' U ρ c x:=λh=>h.mono z (λb hb hU=>C b hb λhe=>hU (he▸h0)) (λ_ _ h=>h) (λ_ _ h=>h)
 have S:(u.toList.map λp=>p.1.2).length=Io l:=by simp[J]
 refine⟨u.toList.map λp=>p.1.2,by rw[<-a5];exact hpl.map _,?_,_,U,ρ,rfl,?_⟩
 ·rw[List.pairwise_map];refine List.pairwise_iff_getElem.2 λi j hi hj a6=>?_
  have O:i<u.size:=by simpa using hi
  have x3:j<u.size:=by simpa using hj
  have:=x7 i j (aO _) a6 (by rw[<-h7];exact x3);rw[getElem!_pos u _ x3,getElem!_pos u _ O]at this;simp only[ltOf,decide_eq_false_iff_not]at this;simpa using this
 ·have x5:bF w' U ρ id (.vec e (u.toList.map λp=>p.1.2)):=by
   refine⟨Q1 ⟨B,0,Q2⟩,E,by rw[S];exact hv,by rw[S];exact hm,.inr ⟨B,T,_,rfl,a3,h0,Z,by simp[putCells,x8],by rw[S];exact x4,?_⟩⟩;intro i hi j c hc;have O:i<u.size:=by rw[J,<-S];exact hi
   have hj:j<e.size:=by have:=(dn.1 hc).1;rwa [ac]at this
   have a2:(zu e u[i].1.2)[j]?=Q1 c:=by simpa using hc
   obtain⟨x,F,H⟩:=u[i].2.2.2.1 j c a2;refine⟨x,?_,h4 H⟩;have ht:i*e.size+j<u.size*e.size:=by
    have:=fH e.size (yY O);rw[gT]at this;omega
   have i1:i*e.size+j<arr.size:=by
    rw[x8];have:=fH e.size (show u.size<=E by rw[J];exact x4);omega
   have a0:(i*e.size+j)/e.size=i:=by
    rw[o9,Nat.add_mul_div_right _ _ D,Nat.div_eq_of_lt hj];omega
   have a1:(i*e.size+j)%e.size=j:=by
    rw[o9,Nat.add_mul_mod_self_right,Nat.mod_eq_of_lt hj]
   have M:=get_flatK (λp:Pl w U ρ e G=>p.1.1) e.size u _ ht;rw[a0,a1,getElem!_pos u _ O]at M;have hx:u[i].1.1[j]! =x:=by
    obtain⟨a7,he⟩:=dn.1 F;rw[getElem!_pos u[i].1.1 j a7];exact he
   rw[hx]at M;rw[getElem!_pos _ _ (by simpa using ht)]at M;simp[putCells,i1,ht,M]
  have h5:∀b,ar ρ id (.vec e (u.toList.map λp=>p.1.2)) b->b=B:=by
   rintro b ⟨_,v,F,H⟩;rw[hv]at F;cases F;simp[e7]at H;exact H.2.symm
  refine⟨W,.tup [] [] rfl sw,λi2 o h=>?_,sw,λ_ _=>rfl,λ_ _ h=>h,λb hb a9=>C b hb λhe=>a9 id (.vec e (u.toList.map λp=>p.1.2)) sw (by rw[ho,he];exact L),λb h=>g7 (x9 b h) z,λ_ _ h=>h,λ_ _ h _=>h,?_,?_⟩
  ·simp at h;obtain⟨rfl,rfl⟩:=h;exact x5
  ·intro i2 o b h hb;refine .inr ⟨id,.vec e (u.toList.map λp=>p.1.2),sw,?_⟩;rcases h with h|⟨_,h⟩
   ·simp at h;obtain⟨rfl,rfl⟩:=h;rw[h5 b hb,ho];exact L
   ·simp at h
  ·intro id1 o1 i4 o2 b F H _ _;rcases F with F|⟨_,F⟩
   ·rcases H with H|⟨_,H⟩
    ·simp at F H;rw[F.1,H.1]
    ·simp at H
   ·simp at F
end
end Cad
