/- Units. -/
import Derived.Test.YtjdjldbhjmgmkaaGreatDoorS17
import Derived.Lib.AppendZeros
import Derived.Lib.AppendZerosOnto
namespace Cad
open Go Go.Proofs
open List renaming length→Io
open IntKind renaming wrap→Γ,i64→Δ
open Tr renaming chk→Qc,«to»→Q9,val→Q8
open Sh renaming expr→Q5
open Bool renaming false→Q4,true→Q3
open Option renaming none→Q2,some→Q1
open Decidable renaming decide→Q0
open Int (toNat)
open List (getD)
open Tr (chk br re)
open AV (nils agg tup ptr kb str sl)
set_option maxHeartbeats 4000000
noncomputable section
def i7u(c:Sem zk.sl)(x:zN):Tr (Empty⊕au):=
 let d:=(x.1,x.2.1,x.2.2.1,x.2.2.2.1,x.t.1,x.t.2.1,x.t.q.1,x.t.q.2.1,zr x.t.t.1,x.t.t.2.1,x.t.t.q.1,zr x.t.t.q.2.1,x.t.t.t)
 let h:=Ye d
 let e:=(h.1,h.2.1,h.2.2.1,h.2.2.2.1,h.t.1,h.t.2.1,h.t.q.1,h.t.q.2.1,zr h.t.t.1,h.t.t.2.1,h.t.t.q.1,zr h.t.t.q.2.1,h.t.t.t)
 let b:=Zl (Hd c) e
 let g:=(b.1.1,b.1.2.1,b.1.2.2.1,(b.1.2.2.2.1.1,b.1.2.2.2.1.2.1,b.1.2.2.2.1.2.2.1,b.1.2.2.2.1.2.2.2.1,b.1.2.2.2.1.t.1,zr b.1.2.2.2.1.t.2),b.1.t)
 let a:=Ph g (Hd c)
 Qc (Pf c)
 (Qc (Pd d)
  (Qc (Py (Hd c) e) (br (b.2!=0) (re (tup [agg [str [],str [],str [],str [],nils,ai 0,nils,nils,str [],ai 0,ai 0,str [],str [],nils,nils,ai 0],nils,kb Q4]) []) (Qc (IS g (Hd c)) (re (tup [agg
  [str a.1.1,str a.1.2.1,str a.1.2.2.1,str a.1.2.2.2.1.1,sl zl a.1.2.2.2.1.2.1,ai a.1.2.2.2.1.2.2.1,sl zj a.1.2.2.2.1.2.2.2.1,sl zB a.1.2.2.2.1.t.1,str (za.op a.1.2.2.2.1.t.2),ai (za.v a.1.2.2.2.1.t.2).1,ai (za.v a.1.2.2.2.1.t.2).2.1,
  str (za.v a.1.2.2.2.1.t.2).2.2,str (za.s a.1.2.2.2.1.t.2),sl Q5 (za.l a.1.2.2.2.1.t.2),sl zj a.1.t.1,ai a.1.t.2],sl zk a.2.1,AV.bool a.2.2]) [])))))
def nB(x:Sem zk.sl)(h:zN):=an [aq,zk.sl,Sh.bool] t0 100000000 (i7u x h)
def xM(x:Sem zk.sl)(h:zN):=(nB x h).isSome
def Ds(x:Sem zk.sl)(h:zN):=o3 (nB x h)
def F7u:=FT [zk.sl,aC] [aq,zk.sl,Sh.bool] λx=>nB x.1 x.2.1
theorem zpg:FK 8 F7u:=GO.T1 (f:=Tryz.f8) (keep:=k0) (e:=e0)
def Rf:=zgl.add 8 F7u
theorem xx:zw Rf:=GO.add zpg
def Iz:cg:={Rf with sh:=λt=>if t=2 then Q1 (.int .i64)else Rf.sh t}
theorem tE:zw Iz where
 sh:=λt e h=>by
  have x:(ite (t=2) (Q1 (.int .i64)) (Rf.sh t))=Q1 e:=h;split at x
  next a=>subst a;cases x;exact Nv kw
  .exact xx.sh t e x
 fs:=xx.fs
 mix:=xx.mix
def znP:z8:=aS (List.replicate 1 Q2) (eK Iz Tryz.f93 (List.replicate 1 Q2))
theorem ziI:FK 93 znP:=bS _ tE (bL kw)
def znU:z8:=aS (List.replicate 3 Q2) (eK Iz Tryz.f118 (List.replicate 3 Q2))
theorem ziN:FK 118 znU:=bS _ tE (bL kw)
inductive Vs where
 |h2 (l0:zt) (i7:Int) (i8:Int) (z0:zo [CP.d zf])
def zrb(x:Sem zf.sl)(h:zp):Tr (Vs⊕au):=
 Q9 (Vs.h2 x (↑(Io x):Int) 0 (h,()))
def US:Vs->Tr (Vs⊕au)
 | .h2 l h i z=>
  let a:=l.getD i.toNat (zi zf)
  br (Q0 (i<h))
  (Qc (zK i (Io l)) (br (z.1.1==a.1&&(z.1.2.1==a.2.1&&(z.1.2.2==a.2.2&&Q3))) (re (ai i) []) (Q9 (Vs.h2 l h (Γ Δ (i+1)) z))))
  (re (ai (-1)) [])
def zam(x:Sem zf.sl)(h:zp):=an [zj] US 100000000 (zrb x h)
def zal(x:Sem zf.sl)(h:zp):=(zam x h).isSome
def zmo(x:Sem zf.sl)(h:zp):=o1 (zam x h)
inductive zxQ where
 |h4 (l0:zt) (l1:zt) (i5:Int)
def CZ:=Iz.addL [(93,znP),(118,znU)]
theorem tF:zw CZ:=tE.addL<|fc ziI<|fc ziN<|iH
abbrev BC(c a b:Int)(s:zH)(l:List ii)(i:Int):St:={tmps:=[.sl (Sh.sl zf) l,.clo (.func 118) [] [.ptr 0 0,.ptr 1 0],.any,.any,.any,.any,.any,.int .i64 (Io l),.int .i64 i,.any,.any,.any,.any,.any,.any,.any,.any,.any,.any],heap:=[.box [.int .i64 c],.box [.int .i64 a,.int .i64 b,.str s]]}
theorem W9(c a b:Int)(s:zH)(l:List ii):run CZ 2 AP Tryz.f117.results.toList 300 (bq Tryz.f117) (aW Tryz.f117.ntmps [.sl (Sh.sl zf) l,.clo (.func 118) [] [.ptr 0 0,.ptr 1 0]] [.box [.int .i64 c],.box [.int .i64 a,.int .i64 b,.str s]])=.ok (.head 2 (ab Tryz.f117 2) (BC c a b s l 0)):=kw
theorem YW(c a b:Int)(s:zH)(l:List ii)(i:Int):run CZ 2 AP Tryz.f117.results.toList 300 (ab Tryz.f117 2) (BC c a b s l i)=oL (K:=ab Tryz.f117 2) (e:=(Sh.sl zf)) l (λx=>bC x c (a,b,s)) (BC c a b s l) [.box [.int .i64 c],.box [.int .i64 a,.int .i64 b,.str s]] i:=kw
theorem YO:zM CZ.P 117 Tryz.f117 2:=by refine⟨?_,?_,?_,?_⟩<;>kernel_rfl
def zpy:eX [Q1 (.sl (Sh.sl zf)),Q2]:=λx h=>match x,h with
 |(l,.clo (.func 118) [] [.ptr 0 0,.ptr 1 0],_),[.box [.int .i64 c],.box [.int .i64 a,.int .i64 b,.str s]]=>.ok (.int .i64 (ac (λx=>bC x c (a,b,s)) l 0),[.box [.int .i64 c],.box [.int .i64 a,.int .i64 b,.str s]])
 |_,_=>.err
def znR:z8:=aS [Q1 (.sl (Sh.sl zf)),Q2] zpy
theorem ziK:FK 117 znR:=by
 refine da YO λx i g h C d=>?_
 unfold zpy at h;split at h
 .rename_i l u c a b s;simp only[Tr.val_ok,bg]at h;subst h;refine Reach.len 0 (Sh.sl zf) l rfl λe=>?_
  refine zF (n0:=2) tF YO d (W9 c a b s l) ?_;exact lg l (λx=>bC x c (a,b,s)) (BC c a b s l) tF YO d (YW c a b s l) e _ 0 rfl (aM _)
 .simp at h
def zq4(x:Sem zf.sl)(h:zp):Tr (Empty⊕au):=
 Qc (zal x h) (re (AV.bool (Q0 (zmo x h>=0))) [])
def zak(x:Sem zf.sl)(h:zp):=an [Sh.bool] t0 100000000 (zq4 x h)
def NM(x:Sem zf.sl)(h:zp):=(zak x h).isSome
def Kt(x:Sem zf.sl)(h:zp):=o1 (zak x h)
def WO:=CZ.addL [(117,znR)]
theorem C0:zw WO:=tF.addL<|fc ziK<|iH
def zq3(h:am)(a:zp):Tr (Empty⊕au):=
 br (!dM (h.1.1,h.1.2.1,h.1.2.2.1,h.1.2.2.2.1,h.1.t.1,zr h.1.t.2))
 (re (ai (ac (λx=>bC x (-1) a) h.2 0)) [])
 (re (ai (ac (λx=>bC x h.1.2.2.1 a) h.2 0)) [])
def JJ(x:am)(h:zp):=an [zj] t0 100000000 (zq3 x h)
def JI(x:am)(h:zp):=(JJ x h).isSome
def Ss(x:am)(h:zp):=o1 (JJ x h)
def znq:=FT [zk,zf] [zj] λx=>JJ x.1 x.2.1
theorem zie:FK 51 znq:=C0.T1 (f:=Tryz.f51) (keep:=k0) (e:=e0)
def WP:=WO.add 51 znq
theorem OH:zw WP:=C0.add zie
def T6(x:ar)(b:Sem zk.sl)(h:zp):Tr (Empty⊕au):=
 let d:=(x.1,x.2.1,x.2.2.1,(x.2.2.2.1.1,x.2.2.2.1.2.1,x.2.2.2.1.2.2.1,x.2.2.2.1.2.2.2.1,x.2.2.2.1.t.1,zr x.2.2.2.1.t.2),x.t)
 let i:=zK 0 (Io b)
 let a:=getD b (toNat 0) (zi zk)
 let j:=((a.1.1,a.1.2.1,a.1.2.2.1,a.1.2.2.2.1,a.1.t.1,zr a.1.t.2),a.2)
 let g:=Ss j h
 let k:=getD a.2 (toNat g) (zi zf.sl)
 let l:=HS d b
 let e:=cV d b
 let c:=getD k (toNat x.t.2) (zi zf)
 Qc (Ho d b)
 (br (Ut d b !=0) (re (tup [agg [ai 0,ai 0,str []],ai 1]) [])
  (br (x.1==gm) (Qc i (Qc (JI j h) (br (Q0 (g<0)) (re (tup [agg [ai 0,ai 0,str []],ai 6]) []) (Qc i (Qc (zK g (Io a.2)) (Qc (zK x.t.2 (Io k)) (Qc l (Qc (NM e c)
  (br (!Kt e c) (re (tup [agg [ai 0,ai 0,str []],ai 6]) []) (re (tup [agg [ai c.1,ai c.2.1,str c.2.2],ai 0]) [])))))))))) (Qc l (Qc (NM e h) (br (!Kt e h) (re (tup [agg [ai 0,ai 0,str []],ai 6]) [])
  (re (tup [agg [ai h.1,ai h.2.1,str h.2.2],ai 0]) []))))))
def ztI(x:ar)(h:Sem zk.sl)(a:zp):=an [zf,zj] t0 100000000 (T6 x h a)
def WQ:=WP
theorem OI:zw WQ:=OH
inductive zxS where
 |h4 (l0:List (Sem zf.sl)) (l1:List (Sem zf.sl)) (i5:Int)
def WR:=WQ
theorem OJ:zw WR:=OI
inductive zxT where
 |h3 (l1:zR) (i8:Int) (z0:zo [CP.d aq]) (z1:zo [CP.d zf])
 |h3b (l1:zR) (i8:Int) (z0:zo [CP.d aq]) (z1:zo [CP.d zf]) (lh_2:List (Sem zf.sl))
inductive zxR where
 |h3 (l1:zR) (i6:Int) (z0:zo [CP.d aq])
 |h9 (l1:zR) (i6:Int) (b9:Bool) (i10:Int) (z0:zo [CP.d aq]) (z1:zo [CP.d zf])
 |h3b (l1:zR) (i6:Int) (z0:zo [CP.d aq]) (lh_1:zt)
 |h9b (l1:zR) (i6:Int) (b9:Bool) (i10:Int) (z0:zo [CP.d aq]) (z2:zo [CP.d zf]) (lh_1:zt)
 |h9bb (l1:zR) (i6:Int) (i10:Int) (z0:zo [CP.d aq]) (z2:zo [CP.d zf]) (lh_1:zt) (lh_3:zt)
 |h9bbb (l1:zR) (i6:Int) (b9:Bool) (i10:Int) (z0:zo [CP.d aq]) (z2:zo [CP.d zf]) (lh_1:zt) (lh_3:zt)
def WS:=WR
theorem OK:zw WS:=OJ
abbrev Oj:List CP:=[.d aj,.vec (.sl zf)]
abbrev uL:List CP:=[.d .str,.nil,.d zj,.nil,.nil,.d .str,.d zj,.d zj,.d .str,.d .str,.nil,.nil]
inductive zxX where
 |h6 (l7:List (Sem zf.sl)) (i10:Int) (z0:zo [CP.d aq]) (z1:zo [CP.d zf]) (z2:zo [CP.d zf])
 |h14 (l1:zR) (l7:List (Sem zf.sl)) (i11:Int) (z0:zo [CP.d aq]) (z1:zo [CP.d zf]) (lh_2:List (Sem zf.sl))
 |h22 (l1:zR) (l7:List (Sem zf.sl)) (i11:Int) (l12:zt) (i14:Int) (z0:zo [CP.d aq]) (z1:zo [CP.d zf]) (lh_2:List (Sem zf.sl)) (lh_3:zt)
inductive zxV where
 |h3 (i4:Int) (z0:zo [CP.d zk]) (z1:zo uL) (z2:zo Oj)
 |h6 (i4:Int) (i5:Int) (z0:zo [CP.d zk]) (z1:zo uL) (z2:zo Oj)
def zgf:=WS
theorem TR:zw zgf:=OK
inductive zxU where
 |h4 (l8:List (Sem zf.sl)) (i10:Int) (z0:zo [CP.d aq]) (lh_1:List (Sem zf.sl))
def zgg:=zgf
theorem TT:zw zgg:=TR
inductive H9v where
 |h4 (l1:zR) (l2:zt) (i9:Int) (i10:Int) (z0:zo [CP.d aq]) (z1:zo uL) (z2:zo Oj)
 |h8 (l1:zR) (l2:zt) (i9:Int) (i10:Int) (i12:Int) (z0:zo [CP.d aq]) (z1:zo uL) (z2:zo Oj)
 |h8b (l1:zR) (l2:zt) (i9:Int) (i10:Int) (b11:Bool) (i12:Int) (z0:zo [CP.d aq]) (z1:zo uL) (z2:zo Oj)
def LK:=zgg
theorem kY:zw LK:=TT
abbrev Nw:Sh:=.pr aq (.sl zk)
abbrev dN:=Sem Nw
abbrev uJ:List CP:=[.d Nw]
abbrev zk4:Nat->aP:=λj=>if j=3 then{slots:=[1,5,10,11,12],prom:=[(5,Q2,zf)]}else{ }
inductive FU where
 |h3 (l1:zt) (l10:dA) (i11:Int) (i12:Int) (lh_0:zt)
abbrev zp7:FU->Nat×St
 |.h3 a x i h l=>(3,⟨tm 25 [(1,sl zf a),(5,AV.vec 0),(10,sl zj x),(11,ai i),(12,ai h)],[AO.vec zf l]⟩)
def zgG(x:dN)(h:Sem zf.sl):Tr (FU⊕au):=
 Q9 (FU.h3 h x.1.t.1 (↑(Io x.1.t.1):Int) 0 [])
def SK:FU->Tr (FU⊕au)
 | .h3 a h x i l=>
  let b:=h.getD i.toNat (zi zj)
  let c:=[a.getD (toNat b) (zi zf)]
  br (Q0 (i<x))
  (Qc (zK i (Io h)) (Qc (zK b (Io a)) (Qc (Q0 (Io l+Io c<=1073741824)) (Q9 (FU.h3 a h x (Γ Δ (i+1)) (l++c))))))
  (re (AV.vec 0) [AO.vec zf l])
def If(x:dN)(h:Sem zf.sl):=an [zf.sl] SK 100000000 (zgG x h)
def wP(x:dN)(h:Sem zf.sl):=(If x h).isSome
def F6(x:dN)(h:Sem zf.sl):=o1 (If x h)
def zfb:=FT [Nw,zf.sl] [zf.sl] λx=>If x.1 x.2.1
theorem zbm:FK 153 zfb:=kY.T1 (f:=Tryz.f153) (keep:=zk4) (e:=zp7)
def zc4(x:dN):Tr (Empty⊕au):=
 let a:=getD x.2 (toNat 0) (zi zk)
 br (x.1.1==dm) (Qc (zK 0 (Io x.2)) (re (ai a.1.2.2.1) []))
 (br (x.1.1==gm) (re (ai x.1.t.2) [])
  (Qc (zK 0 (Io x.1.t.1)) (re (ai (getD x.1.t.1 (toNat 0) (zi zj))) [])))
def QP(x:dN):=an [zj] t0 100000000 (zc4 x)
def VK(x:dN):=(QP x).isSome
def zjy(x:dN):=o1 (QP x)
def znn:=FT [Nw] [zj] λx=>QP x.1
theorem zib:FK 33 znn:=kY.T1 (f:=Tryz.f33) (keep:=k0) (e:=e0)
def zf9:=LK.addL [(153,zfb),(33,znn)]
theorem xv:zw zf9:=kY.addL<|fc zbm<|fc zib<|iH
abbrev zrY:Nat->aP:=λj=>if j=3 then{slots:=[3,7,10,11,12],prom:=[(7,Q2,(.sl zf))]}else{ }
inductive S8 where
 |h3 (l10:List (Sem zf.sl)) (i11:Int) (i12:Int) (z0:zo uJ) (lh_1:List (Sem zf.sl))
abbrev zuF:S8->Nat×St
 |.h3 x i h z l=>(3,⟨tm 24 [(3,ptr 0 0),(7,AV.vec 1),(10,sl zf.sl x),(11,ai i),(12,ai h)],[AO.box (bI [] uJ z),AO.vec zf.sl l]⟩)
def zrf(h:dN)(_:zp)(x:Sem zf.sl.sl):Tr (S8⊕au):=
 Q9 (S8.h3 x (↑(Io x):Int) 0 (h,()) [])
def zef:S8->Tr (S8⊕au)
 | .h3 h x i z l=>
  let a:=((z.1.1.1,z.1.1.2.1,z.1.1.2.2.1,(z.1.1.2.2.2.1.1,z.1.1.2.2.2.1.2.1,z.1.1.2.2.2.1.2.2.1,z.1.1.2.2.2.1.2.2.2.1,z.1.1.2.2.2.1.t.1,zr z.1.1.2.2.2.1.t.2),z.1.1.t),z.1.2)
  let b:=h.getD i.toNat (zi zf.sl)
  let c:=[F6 a b]
  br (Q0 (i<x))
  (Qc (zK i (Io h)) (Qc (wP a b) (Qc (Q0 (Io l+Io c<=1073741824)) (Q9 (S8.h3 h x (Γ Δ (i+1)) z (l++c))))))
  (re (AV.vec 0) [AO.vec zf.sl l])
def Ic(x:dN)(h:zp)(a:Sem zf.sl.sl):=an [zf.sl.sl] zef 100000000 (zrf x h a)
def N4(x:dN)(h:zp)(a:Sem zf.sl.sl):=(Ic x h a).isSome
def VL(x:dN)(h:zp)(a:Sem zf.sl.sl):=o1 (Ic x h a)
def zob:=FT [Nw,zf,zf.sl.sl] [zf.sl.sl] λx=>Ic x.1 x.2.1 x.2.2.1
theorem zi3:FK 88 zob:=xv.T1 (f:=Tryz.f88) (keep:=zrY) (e:=zuF)
abbrev zr0:=kJ [(5,[3,4,7,15,16,17])]
inductive KL where
 |h5 (l15:List (Sem zf.sl)) (i16:Int) (i17:Int) (z0:zo uJ) (z1:zo [CP.d zf]) (z2:zo [CP.d zf])
abbrev zuH:KL->Nat×St
 |.h5 l i h z x a=>(5,⟨tm 40 [(3,ptr 0 0),(4,ptr 1 0),(7,ptr 2 0),(15,sl zf.sl l),(16,ai i),(17,ai h)],[AO.box (bI [] uJ z),AO.box (bI [] [CP.d zf] x),AO.box (bI [] [CP.d zf] a)]⟩)
def zkJ(h:dN)(a:zp)(x:Sem zf.sl.sl):Tr (KL⊕au):=
 br ((↑(Io x):Int)==0) (re nils []) (Q9 (KL.h5 x (↑(Io x):Int) 0 (h,()) (a,()) ((1,0,[]),())))
def zeh:KL->Tr (KL⊕au)
 | .h5 l h i z x a=>
  let b:=getD z.1.1.t.1 (toNat 1) (zi zj)
  let c:=l.getD i.toNat (zi zf.sl)
  let d:=getD c (toNat b) (zi zf)
  let e:=Γ Δ (i+1)
  br (Q0 (i<h))
  (Qc (zK i (Io l)) (Qc (zK 1 (Io z.1.1.t.1)) (Qc (zK b (Io c)) (br (d.1!=0) (Q9 (KL.h5 l h e z x (mD a.1 d,()))) (Q9 (KL.h5 l h e z x a))))))
  (re (sl zf.sl [[x.1,a.1]]) [])
def AZ(x:dN)(h:zp)(a:Sem zf.sl.sl):=an [zf.sl.sl] zeh 100000000 (zkJ x h a)
def Id(x:dN)(h:zp)(a:Sem zf.sl.sl):=(AZ x h a).isSome
def N5(x:dN)(h:zp)(a:Sem zf.sl.sl):=o1 (AZ x h a)
def zoe:=FT [Nw,zf,zf.sl.sl] [zf.sl.sl] λx=>AZ x.1 x.2.1 x.2.2.1
theorem zi6:FK 90 zoe:=xv.T1 (f:=Tryz.f90) (keep:=zr0) (e:=zuH)
def zga:=zf9.addL [(88,zob),(90,zoe)]
theorem TO:zw zga:=xv.addL<|fc zi3<|fc zi6<|iH
open Go Go.Proofs Go.RowKit Go.Lib
set_option maxRecDepth 100000
theorem zkM:(Tryz.prog.info? 30).map (λi=>(i.zero,i.size,i.bytes))=Q1 (Q1 (.agg #[.int .i64 0,.int .i64 0,.string ⟨#[]⟩]),3,32):=by kernel_rfl
theorem zcV(p:Option Addr)(k:Nat)(n:k<=1000000)(w:World):Calls Tryz.prog 221 #[.slice p 0 0,.int .i64 k] w λe d=>∃q c,e=.returned (.slice q 0 c)/\Below w.heap.size w d/\(c=0\/(0<c/\q=Q1 ⟨w.heap.size,0,Q2⟩/\∃h,d.heap[w.heap.size]?=Q1 (.cells h 30 (0,0))/\h.size=c*3)):=by
 obtain⟨m,j,b,l,a⟩:=info_parts zkM;by_cases g:k=0
 .subst g
  go_enter Tryz.func221,Tryz.ntmps221
  go_wp2
  first|go_ret|go_ret2
  exact⟨_,_,rfl,Below.refl _ _,.inl rfl⟩
 .have x:=λt=>run_append_grow_zeros (P:=Tryz.prog) w 39 3 t 30 m _ .i64 .i64 Tryz.underlying39 Tryz.underlying3 j b p 0 0 [] (by cases p<;>simp[Builtin.firstCells,loadCells,loadCellsFrom]) k (by omega) (by omega) (by omega) (by omega) (by rw[a];omega) (by rw[ew,nextslicecap_zero (by omega),a];omega)
  simp only[ew]at x;have i:=grownCap_ge w k 0 30
  go_enter Tryz.func221,Tryz.ntmps221
  go_wp2_with (at_builtin;refine Lib.wpList_append_run _ rfl _ _ _ _ rfl _ _ rfl rfl _ _ (x _) ?_)
  first|go_ret|go_ret2
  refine⟨_,_,rfl,((Below.refl _ _).alloc (ah _) _).drew,.inr ⟨by omega,rfl,_,heap_alloc_new _ _,?_⟩⟩;simp[size_zeroCells];omega
abbrev zxM:Sh:=.pr (.int .i64) (.pr (.int .i64) .str)
def zhk:z8:=λa _ n=>match a with
 |[.nils,.int .i64 k]=>.chk (Q0 (0<=k)) (.chk (Q0 (k<=1000000)) (.ok {val:=.vec n,nw:=[.vec zf []]}))
 |_=>.err
variable {n:Nat}
theorem zcW{w:World}{U:Nat->Prop}{ρ:Nat->Option Value}{A:Nat->AO}{k:Nat}{p:Option Addr}(g:∀b,U b->b<w.heap.size)(s:ρ n=Q2)(z:k<=1000000):
  Calls Tryz.prog 221 #[.slice p 0 0,.int .i64 k] w λe m=>∃v t B,e=.returned v/\Ef n A {val:=.vec n,nw:=[.vec zf []]} w U ρ v m t B:=by
 refine(zcV p k z w).mono ?_;rintro e m ⟨q,c,rfl,x,rfl|⟨u,rfl,j,o,l⟩⟩
 .exact⟨_,U,_,rfl,Ef.newVec sw s rfl (kF.below x) (λb a _=>x.block b a) (λb a=>gF (g b a) x.size) (λb _=>Iff.rfl) ⟨q,0,by simp[jJ],aM _,.inl ⟨rfl,rfl⟩⟩ (λb a=>by cases q<;>simp[bJ]at a)⟩
 .have d:w.heap.size<m.heap.size:=(mc.1 o).1;exact⟨_,λb=>U b\/b=w.heap.size,_,rfl,Ef.newVec sw s rfl (kF.below x) (λb a _=>x.block b a) (λb h=>by
     rcases h with h|rfl
     .exact gF (g b h) x.size
     .exact d) (λb a=>⟨λh=>h.elim id λe=>zC e ow,.inl⟩) ⟨Q1 ⟨w.heap.size,0,Q2⟩,c,by simp[jJ],aM _,.inr ⟨w.heap.size,30,j,rfl,u,.inr rfl,o,l,aM _,λi y=>zC y sw⟩⟩ (λb a=>by simp[bJ]at a;exact .inl ow)⟩
theorem zhT:FK 221 zhk where
 fn:=⟨Tryz.f221,kw,kw,kw⟩
 calls:=λw U ρ u n c v f s h x b i g j e a=>by
  unfold zhk at h;split at h
  .rename_i k;simp only[Tr.val_chk,Tr.val_ok,bg,aQ]at h;obtain⟨d,t,rfl⟩:=h;obtain⟨k,rfl⟩:=Int.eq_ofNat_of_zero_le d;have l:=x.len
   match v,l,x with
   |[p,q],_,x=>
   have m:=x.rv 0 _ p rfl rfl;have o:=x.rv 1 _ q rfl rfl;cases m;cases o;exact⟨zcW b (a 0 sw) ow,sw⟩
  .simp at h
def WH:=zga.add 221 zhk
theorem CL:zw WH:=TO.add zhT
abbrev zk5:=kJ [(3,[0,3,9,10,11]),(11,[6,25,26,27])]
inductive mV where
 |h3 (l0:List (Sem zf.sl)) (i3:Int) (l9:List (Sem zf.sl)) (i10:Int) (i11:Int)
 |h11 (l25:List (Sem zf.sl)) (i26:Int) (i27:Int) (lh_0:zt)
abbrev zp8:mV->Nat×St
 |.h3 d c e i h=>(3,⟨tm 36 [(0,sl zf.sl d),(3,ai c),(9,sl zf.sl e),(10,ai i),(11,ai h)],[]⟩)
 |.h11 b x a l=>(11,⟨tm 36 [(6,AV.vec 0),(25,sl zf.sl b),(26,ai x),(27,ai a)],[AO.vec zf l]⟩)
def zgH(x:Sem zf.sl.sl):Tr (mV⊕au):=
 Q9 (mV.h3 x 0 x (↑(Io x):Int) 0)
def HQ:mV->Tr (mV⊕au)
 | .h3 e d g b i=>
  let a:=Γ Δ (d+(↑(Io (g.getD i.toNat (zi zf.sl))):Int))
  br (Q0 (i<b)) (Qc (zK i (Io g)) (br (Q0 (a<0)) Tr.err (Q9 (mV.h3 e a g b (Γ Δ (i+1))))))
  (Qc (Q0 (0<=d)) (Qc (Q0 (d<=1000000)) (Q9 (mV.h11 e (↑e.length:Int) 0 []))))
 | .h11 x c h l=>
  let a:=x.getD h.toNat (zi zf.sl)
  br (Q0 (h<c))
  (Qc (zK h (Io x)) (Qc (Q0 (Io l+Io a<=1073741824)) (Q9 (mV.h11 x c (Γ Δ (h+1)) (l++a)))))
  (re (AV.vec 0) [AO.vec zf l])
def QV(x:Sem zf.sl.sl):=an [zf.sl] HQ 100000000 (zgH x)
def V0(x:Sem zf.sl.sl):=(QV x).isSome
def zjT(x:Sem zf.sl.sl):=o1 (QV x)
def zfc:=FT [zf.sl.sl] [zf.sl] λx=>QV x.1
theorem zbn:FK 154 zfc:=CL.T1 (f:=Tryz.f154) (keep:=zk5) (e:=zp8)
def zgb:=WH.add 154 zfc
theorem GI:zw zgb:=CL.add zbn
abbrev zrZ:Nat->aP:=λj=>if j=7 then{slots:=[8,9,30,31,32],prom:=[(9,Q2,(.sl zf))]}else{ }
inductive S9 where
 |h7 (l8:zt) (l30:List (Sem zf.sl)) (i31:Int) (i32:Int) (lh_0:List (Sem zf.sl))
abbrev zuG:S9->Nat×St
 |.h7 a x i h l=>(7,⟨tm 45 [(8,sl zf a),(9,AV.vec 0),(30,sl zf.sl x),(31,ai i),(32,ai h)],[AO.vec zf.sl l]⟩)
def zdh(x:dN)(g:zp)(i:Sem zf.sl.sl):Tr (S9⊕au):=
 let b:=zK 1 (Io x.2)
 let a:=getD x.2 (toNat 1) (zi zk)
 let c:=((a.1.1,a.1.2.1,a.1.2.2.1,a.1.2.2.2.1,a.1.t.1,zr a.1.t.2),a.2)
 let h:=Ss c g
 let d:=((x.1.1,x.1.2.1,x.1.2.2.1,(x.1.2.2.2.1.1,x.1.2.2.2.1.2.1,x.1.2.2.2.1.2.2.1,x.1.2.2.2.1.2.2.2.1,x.1.2.2.2.1.t.1,zr x.1.2.2.2.1.t.2),x.1.t),x.2)
 let e:=getD a.2 (toNat h) (zi zf.sl)
 Qc b
 (Qc (JI c g)
  (br (Q0 (h<0)) (re nils []) (Qc b (Qc (zK h (Io a.2)) (Qc (wP d e) (Q9 (S9.h7 (F6 d e) i (↑(Io i):Int) 0 [])))))))
def zeg:S9->Tr (S9⊕au)
 | .h7 c h x i l=>
  let a:=[h.getD i.toNat (zi zf.sl),c]
  let b:=[zjT a]
  br (Q0 (i<x))
  (Qc (zK i (Io h)) (Qc (V0 a) (Qc (Q0 (Io l+Io b<=1073741824)) (Q9 (S9.h7 c h x (Γ Δ (i+1)) (l++b))))))
  (re (AV.vec 0) [AO.vec zf.sl l])
def Ie(x:dN)(h:zp)(a:Sem zf.sl.sl):=an [zf.sl.sl] zeg 100000000 (zdh x h a)
def N6(x:dN)(h:zp)(a:Sem zf.sl.sl):=(Ie x h a).isSome
def VN(x:dN)(h:zp)(a:Sem zf.sl.sl):=o1 (Ie x h a)
def zoc:=FT [Nw,zf,zf.sl.sl] [zf.sl.sl] λx=>Ie x.1 x.2.1 x.2.2.1
theorem zi4:FK 89 zoc:=GI.T1 (f:=Tryz.f89) (keep:=zrZ) (e:=zuG)
def zgc:=zgb.add 89 zoc
theorem GJ:zw zgc:=GI.add zi4
abbrev zrv:Nat->aP:=λj=>if j=5 then{slots:=[3,9,10,23,24,25],prom:=[(9,Q2,(.sl zf))]}else{ }
inductive H1 where
 |h5 (i10:Int) (l23:List (Sem zf.sl)) (i24:Int) (i25:Int) (z0:zo uJ) (lh_1:List (Sem zf.sl))
abbrev zuk:H1->Nat×St
 |.h5 i a h x z l=>(5,⟨tm 44 [(3,ptr 0 0),(9,AV.vec 1),(10,ai i),(23,sl zf.sl a),(24,ai h),(25,ai x)],[AO.box (bI [] uJ z),AO.vec zf.sl l]⟩)
def XB(x:dN)(h:zp)(b:Sem zf.sl.sl):Tr (H1⊕au):=
 let a:=((x.1.1,x.1.2.1,x.1.2.2.1,(x.1.2.2.2.1.1,x.1.2.2.2.1.2.1,x.1.2.2.2.1.2.2.1,x.1.2.2.2.1.2.2.2.1,x.1.2.2.2.1.t.1,zr x.1.2.2.2.1.t.2),x.1.t),x.2)
 let c:=VL a h b
 let d:=VN a h b
 let e:=N5 a h b
 Qc Q3
 (Qc Q3
  (Qc Q3 (br (x.1.1==dm) (Qc (N4 a h b) (Q9 (H1.h5 0 c (↑(Io c):Int) 0 (x,()) []))) (br (x.1.1==gm) (Qc (N6 a h b) (Q9 (H1.h5 0 d (↑(Io d):Int) 0 (x,()) [])))
  (br (x.1.1==mU) (Qc (Id a h b) (Q9 (H1.h5 0 e (↑(Io e):Int) 0 (x,()) []))) Tr.err)))))
def zed:H1->Tr (H1⊕au)
 | .h5 x h a i z l=>
  let b:=h.getD i.toNat (zi zf.sl)
  let c:=Γ Δ (i+1)
  let d:=[b]
  br (Q0 (i<a))
  (Qc (zK i (Io h)) (br (cf (z.1.1.2.2.2.1.1,z.1.1.2.2.2.1.2.1,z.1.1.2.2.2.1.2.2.1,z.1.1.2.2.2.1.2.2.2.1,z.1.1.2.2.2.1.t.1,zr z.1.1.2.2.2.1.t.2) b !=0) (Q9 (H1.h5 (Γ Δ (x+1)) h a c z l)) (Qc (Q0 (Io l+Io d<=1073741824)) (Q9 (H1.h5 x h a c z (l++d))))))
  (re (tup [AV.vec 0,ai x]) [AO.vec zf.sl l])
def B8(x:dN)(h:zp)(a:Sem zf.sl.sl):=an [zf.sl.sl,zj] zed 100000000 (XB x h a)
def VM(x:dN)(h:zp)(a:Sem zf.sl.sl):=(B8 x h a).isSome
def zjz(x:dN)(h:zp)(a:Sem zf.sl.sl):=o2 (B8 x h a)
def znp:=FT [Nw,zf,zf.sl.sl] [zf.sl.sl,zj] λx=>B8 x.1 x.2.1 x.2.2.1
theorem zid:FK 34 znp:=GJ.T1 (f:=Tryz.f34) (keep:=zrv) (e:=zuk)
def zgd:=zgc.add 34 znp
theorem TP:zw zgd:=GJ.add zid
open Go
theorem qX{P:Program}{l:Nat->AV}{x ι:Type}{E:cg}{k:FuncId}{f:Func}{c:List (Option Sh)}{G:eX c}{keep:Nat->aP}{gas n0:Nat}{e:x->Nat×St}{t:x->Tr (x⊕au)}{args:ι->List AV}{heap:ι->List AO}{i:ι->Tr (x⊕au)}
  (w:zw E) (m:zM E.P k f (Io c)) (A:∀b,(heap b).length=n0)
  (g:∀b,run E n0 keep f.results.toList gas (bq f) (aW f.ntmps (args b) (heap b))=(i b).map (lf f e))
  (j:∀s,run E n0 keep f.results.toList gas (ab f (e s).1) (e s).2=(t s).map (lf f e))
  (z:∀a h d,(G a h).val=Q1 d->∃b,iY c a=args b/\h=heap b/\bY t n (i b)=Q1 d) (F:E.P=P:=by rfl) (D:E.gl=l:=by rfl):ol P l k (aS c G):=by
 subst F D;refine da m λb u d B C v=>?_
 obtain⟨y,o,p,q⟩:=z b u d B;subst p;rw[o];exact lD (n0:=n0) (Q:=λr h=>(r,h)=d) w m (λid h=>v id (by rw[A];exact h)) (n+1) _ _ _ (by rw[jr j (g y)];exact q) rfl
abbrev yS(l:dA):Tr zO:=run dj 0 Kx (Func.results Tryz.f157).toList 300 (bq Tryz.f157) (aW (Func.ntmps Tryz.f157) [.sl zj l] [])
theorem RV:zM dj.P 157 Tryz.f157 1:=bL kw
theorem zqJ(l:dA):yS l=.ok (.fork l.isEmpty (bG (yS l)).1 (bG (yS l)).2.1 (bG (yS l)).2.2):=kw
theorem zlP(l:dA):run dj 0 Kx (Func.results Tryz.f157).toList 300 (bG (yS l)).1 (bG (yS l)).2.2=.ok (.ret .nils []):=kw
theorem zlQ(l:dA):run dj 0 Kx (Func.results Tryz.f157).toList 300 (bG (yS l)).2.1 (bG (yS l)).2.2=.chk (Q0 (Io l<=1073741824)) (.ok (.ret (.vec 0) [.vec zj l])):=kw
def zpA:eX [Q1 (.sl zj)]:=λx h=>match h with
 |[]=>.chk (Q0 (Io x.1<=1073741824)) (.ok (.vec 0,[.vec zj x.1]))
 |_=>.err
def zoh:z8:=aS [Q1 (.sl zj)] zpA
theorem zja:FK 157 zoh:=by
 refine da RV λx j i a C b=>?_
 unfold zpA at a;split at a
 .simp only[Q8]at a;split at a
  .rename_i d;simp only[bg]at a;subst a;obtain⟨l,u⟩:=x;refine zF (n0:=0) bz RV b (zqJ l) ?_;refine⟨λc=>?_,?_⟩
   .have e:l=[]:=List.isEmpty_iff.1 c;refine Reach.weaken (Q:=λr h=>(r,h)=(.vec 0,[.vec zj []])) (Reach.promNil zj (λid=>b id sw) (zF (n0:=0) bz RV b (zlP l) rfl)) ?_;intro r h g;cases g;refine⟨_,?_,λ_ _ _ _ h=>h⟩;show(AV.vec 0,[AO.vec zj []])=(AV.vec 0,[AO.vec zj l]);rw[e]
   .exact zF (n0:=0) bz RV b (zlQ l) (fw d rfl)
  .cases a
 .simp at a
abbrev yT(l:dr):Tr zO:=run dj 0 Kx (Func.results Tryz.f158).toList 300 (bq Tryz.f158) (aW (Func.ntmps Tryz.f158) [.sl zB l] [])
theorem RW:zM dj.P 158 Tryz.f158 1:=bL kw
theorem zqK(l:dr):yT l=.ok (.fork l.isEmpty (bG (yT l)).1 (bG (yT l)).2.1 (bG (yT l)).2.2):=kw
theorem zlR(l:dr):run dj 0 Kx (Func.results Tryz.f158).toList 300 (bG (yT l)).1 (bG (yT l)).2.2=.ok (.ret .nils []):=kw
theorem zlS(l:dr):run dj 0 Kx (Func.results Tryz.f158).toList 300 (bG (yT l)).2.1 (bG (yT l)).2.2=.chk (Q0 (Io l<=1073741824)) (.ok (.ret (.vec 0) [.vec zB l])):=kw
def zpB:eX [Q1 (.sl zB)]:=λx h=>match h with
 |[]=>.chk (Q0 (Io x.1<=1073741824)) (.ok (.vec 0,[.vec zB x.1]))
 |_=>.err
def zoi:z8:=aS [Q1 (.sl zB)] zpB
theorem zjb:FK 158 zoi:=by
 refine da RW λx j i a C b=>?_
 unfold zpB at a;split at a
 .simp only[Q8]at a;split at a
  .rename_i d;simp only[bg]at a;subst a;obtain⟨l,u⟩:=x;refine zF (n0:=0) bz RW b (zqK l) ?_;refine⟨λc=>?_,?_⟩
   .have e:l=[]:=List.isEmpty_iff.1 c;refine Reach.weaken (Q:=λr h=>(r,h)=(.vec 0,[.vec zB []])) (Reach.promNil zB (λid=>b id sw) (zF (n0:=0) bz RW b (zlR l) rfl)) ?_;intro r h g;cases g;refine⟨_,?_,λ_ _ _ _ h=>h⟩;show(AV.vec 0,[AO.vec zB []])=(AV.vec 0,[AO.vec zB l]);rw[e]
   .exact zF (n0:=0) bz RW b (zlS l) (fw d rfl)
  .cases a
 .simp at a
abbrev yU(l:List ii):Tr zO:=run dj 0 Kx (Func.results Tryz.f160).toList 300 (bq Tryz.f160) (aW (Func.ntmps Tryz.f160) [.sl (.sl zf) l] [])
theorem RY:zM dj.P 160 Tryz.f160 1:=bL kw
theorem zqM(l:List ii):yU l=.ok (.fork l.isEmpty (bG (yU l)).1 (bG (yU l)).2.1 (bG (yU l)).2.2):=kw
theorem zlT(l:List ii):run dj 0 Kx (Func.results Tryz.f160).toList 300 (bG (yU l)).1 (bG (yU l)).2.2=.ok (.ret .nils []):=kw
theorem zlU(l:List ii):run dj 0 Kx (Func.results Tryz.f160).toList 300 (bG (yU l)).2.1 (bG (yU l)).2.2=.chk (Q0 (Io l<=1073741824)) (.ok (.ret (.vec 0) [.vec (.sl zf) l])):=kw
def zpC:eX [Q1 (.sl (.sl zf))]:=λx h=>match h with
 |[]=>.chk (Q0 (Io x.1<=1073741824)) (.ok (.vec 0,[.vec (.sl zf) x.1]))
 |_=>.err
def zok:z8:=aS [Q1 (.sl (.sl zf))] zpC
theorem zjd:FK 160 zok:=by
 refine da RY λx j i a C b=>?_
 unfold zpC at a;split at a
 .simp only[Q8]at a;split at a
  .rename_i d;simp only[bg]at a;subst a;obtain⟨l,u⟩:=x;refine zF (n0:=0) bz RY b (zqM l) ?_;refine⟨λc=>?_,?_⟩
   .have e:l=[]:=List.isEmpty_iff.1 c;refine Reach.weaken (Q:=λr h=>(r,h)=(.vec 0,[.vec (.sl zf) []])) (Reach.promNil (.sl zf) (λid=>b id sw) (zF (n0:=0) bz RY b (zlT l) rfl)) ?_;intro r h g;cases g;refine⟨_,?_,λ_ _ _ _ h=>h⟩;show(AV.vec 0,[AO.vec (Sh.sl zf) []])=(AV.vec 0,[AO.vec (Sh.sl zf) l]);rw[e]
   .exact zF (n0:=0) bz RY b (zlU l) (fw d rfl)
  .cases a
 .simp at a
abbrev yV(l:zt):Tr zO:=run dj 0 Kx (Func.results Tryz.f100).toList 300 (bq Tryz.f100) (aW (Func.ntmps Tryz.f100) [.sl zf l] [])
theorem RZ:zM dj.P 100 Tryz.f100 1:=bL kw
theorem zqN(l:zt):yV l=.ok (.fork l.isEmpty (bG (yV l)).1 (bG (yV l)).2.1 (bG (yV l)).2.2):=kw
theorem zlV(l:zt):run dj 0 Kx (Func.results Tryz.f100).toList 300 (bG (yV l)).1 (bG (yV l)).2.2=.ok (.ret .nils []):=kw
theorem zlW(l:zt):run dj 0 Kx (Func.results Tryz.f100).toList 300 (bG (yV l)).2.1 (bG (yV l)).2.2=.chk (Q0 (Io l<=1073741824)) (.ok (.ret (.vec 0) [.vec zf l])):=kw
def zpD:eX [Q1 (.sl zf)]:=λx h=>match h with
 |[]=>.chk (Q0 (Io x.1<=1073741824)) (.ok (.vec 0,[.vec zf x.1]))
 |_=>.err
def zhm:z8:=aS [Q1 (.sl zf)] zpD
theorem Vl:FK 100 zhm:=by
 refine da RZ λx j i a C b=>?_
 unfold zpD at a;split at a
 .simp only[Q8]at a;split at a
  .rename_i d;simp only[bg]at a;subst a;obtain⟨l,u⟩:=x;refine zF (n0:=0) bz RZ b (zqN l) ?_;refine⟨λc=>?_,?_⟩
   .have e:l=[]:=List.isEmpty_iff.1 c;refine Reach.weaken (Q:=λr h=>(r,h)=(.vec 0,[.vec zf []])) (Reach.promNil zf (λid=>b id sw) (zF (n0:=0) bz RZ b (zlV l) rfl)) ?_;intro r h g;cases g;refine⟨_,?_,λ_ _ _ _ h=>h⟩;show(AV.vec 0,[AO.vec zf []])=(AV.vec 0,[AO.vec zf l]);rw[e]
   .exact zF (n0:=0) bz RZ b (zlW l) (fw d rfl)
  .cases a
 .simp at a
def zcH:=dj.addL [(157,zoh),(158,zoi),(160,zok),(100,zhm)]
theorem LM:zw zcH:=bz.addL<|fc zja<|fc zjb<|fc zjd<|fc Vl iH
def FN(c:za->Bool):z8:=zZ [.expr] [.expr] (λx=>c x.1) λx=>(x.1,())
def Gc(c:za->Bool):cg:=zcH.add 159 (FN c)
variable {h:za->Bool}
theorem wY(x:FK 159 (FN h)):zw (Gc h):=LM.add x
abbrev zgV:Nat->aP:=λj=>if j=3 then{slots:=[1,2,10,11]}else{ }
abbrev JT(i h:Int)(j:zH)(x a:Int)(b c:zH)(l:List (Sem Q5)):St:={
 tmps:=
  (tm 26 [(1,ptr 0 0),(2,ptr 1 0),(10,ai i),(11,ai h)]),
 heap:=
  [AO.box [str j,ai x,ai a,str b,str c,AV.vec 2],
   AO.box [str [],ai 0,ai 0,str [],str [],nils],AO.vec Q5 l]}
theorem RX(c:za->Bool):zM (Gc c).P 159 Tryz.f159 1:=bL kw
theorem zqL(c:za->Bool)(o:zH)(v:V)(s:zH)(l:List za):rn (Gc c) 0 zgV Tryz.f159 [zL Q5 (za.mk o v s l)] []=
 Qc (Q0 (Io l<=1073741824)) (Tr.ok (zO.head 3 (ab Tryz.f159 3) (JT (↑l.length:Int) 0 o v.1 v.2.1 v.2.2 s l))):=kw
theorem R6(c:za->Bool)(h i:Int)(j:zH)(x a:Int)(b d:zH)(l:List (Sem Sh.expr)):rh (Gc c) 0 zgV Tryz.f159 3 (JT h i j x a b d l)=
 br (Q0 (i<h))
 (chk (zK i (Io l))
  (chk (decide (i.toNat<Io l))
   (chk (c (zr (l.getD i.toNat (zi Sh.expr))))
    (chk (zK i (Io l))
     (chk (decide (i.toNat<Io l))
      (Tr.ok
       (zO.head 3 (ab Tryz.f159 3)
        (JT h (Γ Δ (i+1)) j x a b d
         (l.set i.toNat
          (zr (l.getD i.toNat (zi Q5))))))))))))
 (Tr.ok
  (zO.ret (agg [str j,ai x,ai a,str b,str d,AV.vec 0]) [AO.vec Q5 l])):=kw
theorem zpH(d:FK 159 (FN h)){C:eA}(c:∀id,C.ρ0 id=Q2)(o:zH)(v:V)(s:zH)(l:List za)(p:Io l<=1073741824)(b:l.all h=Q3):
  ∀(k i:Nat),Io l-i=k->i<=Io l->Reach (Gc h) C 159 (ab Tryz.f159 3) (JT (Io l) i o v.1 v.2.1 v.2.2 s l) (λr x=>aU x [.expr] r=Q1 (za.mk o v s l,())):=by
 intro k
 induction k with
 | zero=>
  intro i n m;obtain rfl:i=Io l:=by omega
  refine zF (n0:=0) (wY d) (RX h) (λid _=>c id) (R6 h _ _ _ _ _ _ _ _) ?_;simp only[zG,Tr.val_brF];rfl
 | succ k I=>
  intro i n m;have a:i<Io l:=by omega
  refine zF (n0:=0) (wY d) (RX h) (λid _=>c id) (R6 h _ _ _ _ _ _ _ _) ?_;have e:h l[i]=Q3:=dQ.1 b _ (bp a);have g:Q0 ((i:Int).toNat<Io l)=Q3:=by simpa using a
  have j:l.set (i:Int).toNat l[i]=l:=by simp
  simp only[zI a,zx a,cO l _ a,za.eta,Tr.val_brT,Tr.val_chkT,e,g,j,zu i um];exact I (i+1) ow ow
theorem zkQ:zM zcH.P 159 Tryz.f159 1:=bL kw
theorem HZ:∀n,FK 159 (FN (pZ n))
 |0=>eI ⟨Tryz.f159,zkQ.1,zkQ.2.1,zkQ.2.2.1⟩ (λ_=>rfl)
 | n+1=>by
  have h:FK 159 (FN (pZ (n+1))):=by
   refine aL (E:=Gc (pZ n)) (RX _) λx a C b=>?_
   obtain⟨⟨o,v,s,l⟩,u⟩:=x;have a:(Q0 (Io l<=1073741824)&&l.all (pZ n))=Q3:=a;simp only[aE,aQ]at a;refine zF (n0:=0) (wY (HZ n)) (RX _) (λid _=>b id) (zqL _ o v s l) ?_;refine fw (by simpa using a.1) ?_;exact zpH (HZ n) b o v s l a.1 a.2 _ 0 rfl (aM _)
  exact h
def zoj:z8:=FN (pZ 16)
theorem zjc:FK 159 zoj:=HZ 16
def Ri:=zcH.add 159 zoj
theorem TU:zw Ri:=LM.add zjc
def WM:=zgd.add 100 zhm
theorem OF:zw WM:=TP.add Vl
inductive Vr where
 |h4 (l1:zR) (l2:zt) (l27:zt) (i28:Int) (i29:Int) (z0:zo [CP.d aq]) (z1:zo [CP.d zf])
def zc1(x:ar)(h:Sem zk.sl)(a:Sem zf.sl):Tr (Vr⊕au):=
 let b:=(x.1,x.2.1,x.2.2.1,(x.2.2.2.1.1,x.2.2.2.1.2.1,x.2.2.2.1.2.2.1,x.2.2.2.1.2.2.2.1,x.2.2.2.1.t.1,zr x.2.2.2.1.t.2),x.t)
 let c:=Ut b h !=0
 let d:=getD h (toNat 0) (zi zk)
 Qc (Ho b h&&bif c then Q3 else zK 0 (Io h))
 (br (cond c Q3 ((↑(Io a):Int)!=(↑(Io d.1.2.1):Int)))
  (re (tup [agg [ai 0,ai 0,str []],ai 1]) [])
  (Q9 (Vr.h4 h a a (↑(Io a):Int) 0 (x,()) ((0,0,[]),()))))
def UQ:Vr->Tr (Vr⊕au)
 | .h4 x b l h i z e=>
  let c:=(z.1.1,z.1.2.1,z.1.2.2.1,(z.1.2.2.2.1.1,z.1.2.2.2.1.2.1,z.1.2.2.2.1.2.2.1,z.1.2.2.2.1.2.2.2.1,z.1.2.2.2.1.t.1,zr z.1.2.2.2.1.t.2),z.1.t)
  let d:=de c x
  let a:=b.getD (toNat d) (zi zf)
  br (Q0 (i<h))
  (Qc (zK i (Io l)) (br (!bf (l.getD i.toNat (zi zf))) (re (tup [agg [ai 0,ai 0,str []],ai 1]) []) (Q9 (Vr.h4 x b l h (Γ Δ (i+1)) z e))))
  (Qc (mC c x) (Qc (zK d (Io b)) (br (a.1==0) (re (tup [agg [ai 0,ai 0,str []],ai 6]) []) (re (tup [agg [ai a.1,ai a.2.1,str a.2.2],ai 0]) []))))
def ztJ(x:ar)(h:Sem zk.sl)(a:Sem zf.sl):=an [zf,zj] UQ 100000000 (zc1 x h a)
inductive zxW where
 |h6 (i8:zq) (l22:List (Sem zf.sl)) (i23:Int) (i24:Int) (z0:zo [CP.d zf]) (lh_1:List (Sem zf.sl))
def WN:=WM
theorem OG:zw WN:=OF
def WI:=WN
theorem GK:zw WI:=OG
variable {a b:zp}
theorem PC(h:Io a.2.2<=1000000)(x:Io b.2.2<=1000000):DW a b=Q3:=by unfold DW;rw[DX h x];rfl
theorem Uz(h:Io a.2.2<=1000000)(x:Io b.2.2<=1000000):Jf a b=aO a b:=by unfold Jf;rw[DX h x];rfl
theorem Zp(a b:zp):Jb a b=Q3:=by unfold Jb;rw[MM];rfl
theorem zdK(a b:zp):Hq a b=FI a b:=by unfold Hq;rw[MM];rfl
theorem zdM(a b:zp):Si a b=Q3:=by unfold Si;rw[Sj];rfl
theorem zl2(a b:zp):Uy a b=vOr a b:=by unfold Uy;rw[Sj];rfl
theorem Zr(a:zp):Je a=Q3:=by unfold Je;rw[MP];rfl
theorem zdL(a:zp):Hs a=AS a:=by unfold Hs;rw[MP];rfl
theorem D0(g:Io a.2.2<=1000000)(i:Io b.2.2<=1000000):qA a b=Q1 (!eV a b,()):=by
 unfold qA an bY;simp only[zgI,Q8,rQ g,rQ i,vM g,vM i,zh,eV];generalize aA a=x;generalize aA b=y;obtain⟨k,n,s⟩:=x;obtain⟨j,m,o⟩:=y;simp only;by_cases h:k=0
 .subst h;rfl
 .have e:(k==0)=Q4:=by simpa using h
  have l:(k !=0)=Q3:=by simpa using h
  rw[e,l];by_cases d:j=0
  .subst d;have c:(k==0)=Q4:=e;simp[c];rfl
  .have c:(j==0)=Q4:=by simpa using d
   rw[c];rfl
theorem oV(h:Io a.2.2<=1000000)(x:Io b.2.2<=1000000):nJ a b=Q3:=by unfold nJ;rw[D0 h x];rfl
theorem rM(h:Io a.2.2<=1000000)(x:Io b.2.2<=1000000):rL a b=!eV a b:=by unfold rL;rw[D0 h x];rfl
theorem jC(b:Bool):dJ b=yv b:=by unfold dJ yv;rw[lU,lV]
theorem DT(h:Io a.2.2<=1000000)(x:Io b.2.2<=1000000):qw a b=Q1 (mS a b,()):=by unfold qw an bY;simp only[zgC,Q8,oV h x,rM h x,oU,iq,zh,mS,jC];cases eV a b<;>rfl
theorem PA(h:Io a.2.2<=1000000)(x:Io b.2.2<=1000000):vF a b=Q3:=by unfold vF;rw[DT h x];rfl
theorem Uv(h:Io a.2.2<=1000000)(x:Io b.2.2<=1000000):rJ a b=mS a b:=by unfold rJ;rw[DT h x];rfl
theorem KW(h:eV a b=Q3):bf a=Q3/\bf b=Q3/\a.1=b.1/\a.1≠0/\aA a=a/\aA b=b:=by
 unfold eV aA at h;unfold aA;cases x:bf a with
 |false=>simp[x]at h
 | true=>
  cases c:bf b with
  | false=>
   simp[x,c]at h
  | true=>
   simp[x,c]at h;exact⟨rfl,rfl,h.2,h.1,sw,sw⟩
theorem Hk(h:bf a=Q3)(x:a.1≠0):(a.1=1/\a.2.2=[])\/(a.1=2/\a.2.1=0)\/(a.1=3/\a.2.2=[]):=by
 obtain⟨k,n,s⟩:=a;unfold bf at h;simp only at h x|-;have e0:(k==0)=Q4:=by simpa using x
 rw[e0]at h;by_cases b:k=1
 .subst b;exact .inl ⟨rfl,by simpa using h⟩
 .have g:(k==1)=Q4:=by simpa using b
  rw[g]at h;by_cases c:k=2
  .subst c;refine .inr (.inl ⟨rfl,?_⟩);simp at h;exact h.1
  .have i:(k==2)=Q4:=by simpa using c
   rw[i]at h;by_cases d:k=3
   .subst d;refine .inr (.inr ⟨rfl,?_⟩);cases e:(n==0)with
    |true=>simp[e]at h;exact h
    |false=>simp[e]at h;exact h.2
   .have j:(k==3)=Q4:=by simpa using d
    rw[j]at h;cases h
theorem zdl(k n a:Int)(s x:zH)(e:(s=[]/\x=[])\/(n=0/\a=0)):Q0 (Hm [sB k k,jd n a,ox s x]<0)=(cond (Q0 (n<a)) Q3 (Op.bytesLess s x)):=by
 simp only[Hm,sB,jd,ox];rcases e with⟨rfl,rfl⟩|⟨rfl,rfl⟩
 .rcases BZ n a with h|h|h
  .simp[h]
  .subst h;simp[cq]
  .have c:¬n<a:=by omega
   simp[h,c,cq]
 .by_cases d:Op.bytesLess s x=Q3
  .simp[d]
  .by_cases b:s=x
   .subst b;simp[cq]
   .have c:(s==x)=Q4:=dB.2 b;simp[d,c]
theorem Hr(p:Io a.2.2<=1000000)(q:Io b.2.2<=1000000):vG a b=Q1 (te a b,()):=by
 unfold vG an bY;simp only[zgD,Q8,oV p q,rM p q,oU,iq,zh,te,jC];cases o:eV a b with
 |false=>rfl
 | true=>
  obtain⟨v,w,l,m,y,z⟩:=KW o;have t:=Hk v m;have u:=Hk w (by rw[<-l];exact m);obtain⟨k,n,s⟩:=a;obtain⟨C,x,g⟩:=b;simp only at l m t u;subst l;have A:(s=[]/\g=[])\/(n=0/\x=0):=by
   rcases t with⟨i,c⟩|⟨i,c⟩|⟨i,c⟩<;>rcases u with⟨j,d⟩|⟨j,d⟩|⟨j,d⟩<;>first|exact .inl ⟨c,d⟩|exact .inr ⟨c,d⟩|exact zC (i.symm.trans j) (by decide)
  have B:Q0 (LT.lt (α:=Int) (aO (k,n,s) (k,x,g)) 0)=(cond (Q0 (n<x)) Q3 (Op.bytesLess s g)):=by
   unfold aO;rw[y,z];exact zdl k n x s g A
  rw[B];by_cases h:n<x
  .have e:Q0 (n<x)=Q3:=zy h;simp only[e];rfl
  .have e:Q0 (n<x)=Q4:=z7 h;simp only[e];rfl
theorem Uw(h:Io a.2.2<=1000000)(x:Io b.2.2<=1000000):Bg a b=Q3:=by unfold Bg;rw[Hr h x];rfl
theorem Zq(h:Io a.2.2<=1000000)(x:Io b.2.2<=1000000):xW a b=te a b:=by unfold xW;rw[Hr h x];rfl
variable {d:Int}
theorem Uu{g:Int}(a:-9223372036854775808<=d)(b:d<=9223372036854775807)(c:-9223372036854775808<=g)(i:g<=9223372036854775807):
  (cond (Q0 (g>0)) (cond (Q0 (d>Γ Δ (9223372036854775807-g))) Q3 (cond (Q0 (g<0)) (Q0 (d<Γ Δ (-9223372036854775808-g))) Q4)) (cond (Q0 (g<0)) (Q0 (d<Γ Δ (-9223372036854775808-g))) Q4))=
  (cond (Q0 (g>0)) (cond (Q0 (Γ Δ (d+g)<d)) Q3 (cond (Q0 (g<0)) (Q0 (Γ Δ (d+g)>d)) Q4)) (cond (Q0 (g<0)) (Q0 (Γ Δ (d+g)>d)) Q4)):=by
 rcases BZ g 0 with h|h|h
 .have e:Q0 (g>0)=Q4:=z7 ow;have x:Q0 (g<0)=Q3:=zy h;simp only[e,x,ax,aw];rw[dP,dP];apply gU.2;rw[aQ,aQ];omega
 .subst h;rfl
 .have e:Q0 (g>0)=Q3:=zy h;have x:Q0 (g<0)=Q4:=z7 ow;simp only[e,x,ax,aw];have:Q0 (d>Γ Δ (9223372036854775807-g))=Q0 (Γ Δ (d+g)<d):=by
   rw[dP,dP];apply gU.2;rw[aQ,aQ];omega
  rw[this]
theorem Pj{g:Int}(a:-9223372036854775808<=d)(b:d<=9223372036854775807)(c:-9223372036854775808<=g)(i:g<=9223372036854775807):
  (cond (Q0 (g>0)) (cond (Q0 (d<Γ Δ (-9223372036854775808+g))) Q3 (cond (Q0 (g<0)) (Q0 (d>Γ Δ (9223372036854775807+g))) Q4)) (cond (Q0 (g<0)) (Q0 (d>Γ Δ (9223372036854775807+g))) Q4))=
  (cond (Q0 (g>0)) (cond (Q0 (Γ Δ (d-g)>d)) Q3 (cond (Q0 (g<0)) (Q0 (Γ Δ (d-g)<d)) Q4)) (cond (Q0 (g<0)) (Q0 (Γ Δ (d-g)<d)) Q4)):=by
 rcases BZ g 0 with h|h|h
 .have e:Q0 (g>0)=Q4:=z7 ow;have x:Q0 (g<0)=Q3:=zy h;simp only[e,x,ax,aw];rw[dP,dP];apply gU.2;rw[aQ,aQ];omega
 .subst h;rfl
 .have e:Q0 (g>0)=Q3:=zy h;have x:Q0 (g<0)=Q4:=z7 ow;simp only[e,x,ax,aw];have:Q0 (d<Γ Δ (-9223372036854775808+g))=Q0 (Γ Δ (d-g)>d):=by
   rw[dP,dP];apply gU.2;rw[aQ,aQ];omega
  rw[this]
theorem Ht(h:mb a)(x:mb b):vJ a b=Q1 (mD a b,()):=by
 unfold vJ an bY;simp only[zgE,Q8,oV h.2.2 x.2.2,rM h.2.2 x.2.2,zh,mD];rw[Uu h.1 h.2.1 x.1 x.2.1];cases(cond (!eV a b) Q3 (a.1!=1))
 .cases(cond (Q0 (b.2.1>0)) (cond (Q0 (Γ Δ (a.2.1+b.2.1)<a.2.1)) Q3 (cond (Q0 (b.2.1<0)) (Q0 (Γ Δ (a.2.1+b.2.1)>a.2.1)) Q4)) (cond (Q0 (b.2.1<0)) (Q0 (Γ Δ (a.2.1+b.2.1)>a.2.1)) Q4))<;>rfl
 .rfl
theorem UA(h:mb a)(x:mb b):Bh a b=Q3:=by unfold Bh;rw[Ht h x];rfl
theorem Zs(h:mb a)(x:mb b):xX a b=mD a b:=by unfold xX;rw[Ht h x];rfl
theorem DU(h:mb a)(x:mb b):qy a b=Q1 (mT a b,()):=by
 unfold qy an bY;simp only[zgF,Q8,oV h.2.2 x.2.2,rM h.2.2 x.2.2,zh,mT];rw[Pj h.1 h.2.1 x.1 x.2.1];cases(cond (!eV a b) Q3 (a.1!=1))
 .cases(cond (Q0 (b.2.1>0)) (cond (Q0 (Γ Δ (a.2.1-b.2.1)>a.2.1)) Q3 (cond (Q0 (b.2.1<0)) (Q0 (Γ Δ (a.2.1-b.2.1)<a.2.1)) Q4)) (cond (Q0 (b.2.1<0)) (Q0 (Γ Δ (a.2.1-b.2.1)<a.2.1)) Q4))<;>rfl
 .rfl
theorem PB(h:mb a)(x:mb b):vH a b=Q3:=by unfold vH;rw[DU h x];rfl
theorem Ux(h:mb a)(x:mb b):rK a b=mT a b:=by unfold rK;rw[DU h x];rfl
theorem At(c:Int):nQ c=Q1 (ba c,()):=by
 unfold nQ an bY;simp only[zgx,Q8,ba];by_cases h:97<=c
 .have e:Q0 (97<=c)=Q3:=zy h;have x:Q0 (c<=90)=Q4:=z7 ow;have a:Q0 (65<=c)=Q3:=zy ow;simp[e,x,a];rfl
 .have e:Q0 (97<=c)=Q4:=z7 h;simp[e];rfl
theorem qI(c:Int):nP c=Q3:=by unfold nP;rw[At];rfl
theorem ua(c:Int):qH c=ba c:=by unfold qH;rw[At];rfl
theorem Eg(c:Int):vT c=Q1 (ap c,()):=rfl
theorem jw(c:Int):jV c=Q3:=by unfold jV;rw[Eg];rfl
theorem ld(c:Int):kO c=ap c:=by unfold kO;rw[Eg];rfl
theorem HC(c:Int):vV c=Q1 (bQ c,()):=by unfold vV an bY;simp only[zgy,Q8,jw,ld,qI,ua,bQ];cases ap c<;>cases ba c<;>rfl
theorem ye(c:Int):vU c=Q3:=by unfold vU;rw[HC];rfl
theorem Ei(c:Int):Eh c=bQ c:=by unfold Eh;rw[HC];rfl
theorem Mo(p:Int->Bool):∀s:zH,cY p s=Io s↔∀c∈s,p c.toNat=Q3
 |[]=>by simp[cY]
 | c::r=>by
  have i:=Mo p r;rw[cY];by_cases h:p c.toNat=Q3
  .rw[ze h];simp only[eJ,b8,forall_eq_or_imp];constructor
   .intro x;exact⟨h,i.1 ow⟩
   .intro x;rw[i.2 x.2]
  .rw[zg h];simp only[eJ,b8,forall_eq_or_imp];exact⟨λx=>zC x ow,λx=>zC x.1 h⟩
theorem Mp(h:ba d=Q3):bQ d=Q3:=by unfold bQ;rw[h];rfl
theorem UZ(s:zH):qT s=Q3↔(1<=Io s/\Io s<=16/\ba (getD s 0 0).toNat=Q3/\∀c∈s,bQ c.toNat=Q3):=by
 unfold qT;cases s with
 |nil=>simp
 | cons c r=>
  have j:Q0 (((c::r).length:Int)>=1)=Q3:=zy sg;rw[j];by_cases h:(c::r).length<=16
  .have e:Q0 (((c::r).length:Int)<=16)=Q3:=zy ow;rw[e];simp only[aw];have i:=Mo bQ r;by_cases b:ba c.toNat=Q3
   .have g:bw ba bQ (c::r)=cY bQ r+1:=by rw[bw,ze b]
    rw[g];constructor
    .intro a;have:cY bQ r=Io r:=by simp at a;omega
     refine⟨sw,h,b,?_⟩;intro x d;rcases b8.1 d with rfl|d
     .exact Mp b
     .exact i.1 this x d
    .rintro⟨_,_,_,k⟩;have:=i.2 (λx d=>k x (jN _ d));simp[this]
   .have g:bw ba bQ (c::r)=0:=by rw[bw,zg b]
    rw[g];constructor
    .intro a;simp at a;omega
    .rintro⟨_,_,a,_⟩;exact zC a b
  .have e:Q0 (((c::r).length:Int)<=16)=Q4:=z7 ow;rw[e];simp only[aw,ax];exact⟨λh=>(by cases h),λa=>zC a.2.1 h⟩
variable {s:zH}
theorem HB(v:Io s<=1000000):Bu s=Q1 (er s,()):=by
 have q:=mF (t:=ws) (Φ:=λr=>r=(.kb Q4,[])) 1 (λi=>.h2 s (i:Int)) (λi=>bQ (getD s i 0).toNat=Q3) (Io s) (by
  intro i a _;have n:(ws (.h2 s (i:Int))).val=if(!bQ (getD s i 0).toNat)=Q3 then Q1 (.inr (.kb Q4,[]))else Q1 (.inl (.h2 s ((i+1:Nat):Int))):=by
   show(ws (.h2 _ _)).val=_;unfold ws;simp only[Q8,zI a,zx a,aJ,ye,Ei,zh];rw[zu i um]
  by_cases h:bQ (getD s i 0).toNat=Q3
  .exact .inl ⟨h,zJ.of (by rw[n,zg (by rw[h];simp)])⟩
  .exact .inr ⟨h,_,zY.of (by rw[n,ze (by simpa using h)]),rfl⟩)
 have a:(zgw s).val=Q1 (.inl (.h2 s ((0:Nat):Int))):=rfl;have m:=aD (l:=s) (d:=0) (Q:=λc=>bQ c.toNat=Q3);have o:=UZ s;rcases q with⟨g,j⟩|⟨g,r,j,rfl⟩
 .refine zA a (j.ends (zY.of (r:=(.bool (er s),[])) ?_)) ow rfl;show(ws (.h2 _ _)).val=_;unfold ws;simp only[Q8,zG,qI,ua];have e:er s=(cond (Q0 (1<=(Io s:Int))) (cond (Q0 ((Io s:Int)<=16)) (ba (getD s (toNat 0) 0).toNat) Q4) Q4):=by
   apply gU.2;unfold er;rw[o];by_cases k:1<=Io s
   .have x:Q0 (1<=(Io s:Int))=Q3:=zy ow;rw[x];by_cases p:Io s<=16
    .have b:Q0 ((Io s:Int)<=16)=Q3:=zy ow;rw[b];exact⟨λh=>h.2.2.1,λh=>⟨k,p,h,m.1 g⟩⟩
    .have b:Q0 ((Io s:Int)<=16)=Q4:=z7 ow;rw[b];exact⟨λh=>zC h.2.1 p,λh=>(by cases h)⟩
   .have x:Q0 (1<=(Io s:Int))=Q4:=z7 ow;rw[x];exact⟨λh=>zC h.1 k,λh=>(by cases h)⟩
  rw[e];by_cases k:1<=Io s
  .have e0:zK 0 (Io s)=Q3:=zx (i:=0) ow;rw[e0];cases Q0 (1<=(Io s:Int))<;>cases Q0 ((Io s:Int)<=16)<;>rfl
  .have x:Q0 (1<=(Io s:Int))=Q4:=z7 ow;rw[x];rfl
 .have e:er s=Q4:=by
   cases u:er s with
   |false=>rfl
   |true=>exact zC (m.2 (o.1 u).2.2.2) g
  rw[e];exact zA a j ow rfl
theorem xZ(h:Io s<=1000000):vS s=Q3:=by unfold vS;rw[HB h];rfl
theorem Ee(h:Io s<=1000000):t7 s=er s:=by unfold t7;rw[HB h];rfl
def yk:List zH:=match(Xp []).val with
 |some (.inl (.h3 _ l _))=>l
 |_=>[]
theorem ZL:Io yk=38:=kw
theorem ZM:(yk.all λw=>(Fe.map (·.1)).contains w)=Q3:=kw
theorem ZN:(Fe.all λw=>yk.contains w.1)=Q3:=kw
theorem Qr:(Fe.all λw=>w.2)=Q3:=kw
theorem SJ(s:zH):∀l:List (zH×Bool),(l.all λw=>w.2)=Q3->(SI s l Q4=Q3↔s∈l.map (·.1))
 |[],_=>by simp[SI]
 | (w,b)::r,h=>by
  simp only[List.all_cons,aE]at h;obtain⟨rfl,h⟩:=h;rw[SI];by_cases e:(s==w)=Q3
  .have:s=w:=bF e;rw[ze e];simp[this]
  .rw[zg e,SJ s r h];have:s≠w:=λh=>e (by rw[h];simp)
   simp[this]
theorem SA(s:zH):jy s=Q3↔s∈yk:=by
 unfold jy;rw[SJ s Fe Qr];constructor
 .intro h;obtain⟨w,x,rfl⟩:=bh.1 h;have:=dQ.1 ZN w x;simpa using this
 .intro h;have:=dQ.1 ZM s h;simpa using this
theorem M7(s:zH):JC s=Q1 (jy s,()):=by
 have o:=ZL;have n:=mF (t:=EV) (Φ:=λr=>r=(.kb Q3,[])) 1 (λi=>.h3 s yk (i:Int)) (λi=>getD yk i (zi Sh.str)≠s) (Io yk) (by
  intro i a _;have k:(EV (.h3 s yk (i:Int))).val=if(getD yk i (zi Sh.str)==s)=Q3 then Q1 (.inr (.kb Q3,[]))else Q1 (.inl (.h3 s yk ((i+1:Nat):Int))):=by
   show(EV (.h3 _ _ _)).val=_;unfold EV;simp only[Q8,zI a,zx a,aJ,zh];rw[zu i um]
  by_cases h:getD yk i (zi Sh.str)=s
  .exact .inr ⟨λx=>x h,_,zY.of (by rw[k,ze (by rw[h];simp)]),rfl⟩
  .exact .inl ⟨h,zJ.of (by rw[k,zg (λx=>h (bF x))])⟩)
 have a:(Xp s).val=Q1 (.inl (.h3 s yk ((0:Nat):Int))):=rfl;have j:=aD (l:=yk) (d:=zi Sh.str) (Q:=λw=>w≠s);rcases n with⟨c,x⟩|⟨c,r,x,rfl⟩
 .have e:jy s=Q4:=by
   cases b:jy s with
   |false=>rfl
   |true=>exact zC rfl (j.1 c s ((SA s).1 b))
  rw[e];refine zA a (x.ends (zY.of (r:=(.kb Q4,[])) ?_)) ow rfl;show(EV (.h3 _ _ _)).val=_;unfold EV;simp only[Q8,zG];rfl
 .have e:jy s=Q3:=by
   cases b:jy s with
   |true=>rfl
   |false=>exact zC (j.2 λw m g=>by rw[g]at m;rw[(SA s).2 m]at b;cases b) c
  rw[e];exact zA a x ow rfl
theorem M6(s:zH):Ek s=Q3:=by unfold Ek;rw[M7];rfl
theorem Sq(s:zH):M5 s=jy s:=by unfold M5;rw[M7];rfl
theorem HD(h:Io s<=1000000):vX s=Q1 (zU s,()):=by unfold vX an bY;simp only[zrd,Q8,xZ h,Ee h,M6,Sq,zU];cases er s<;>rfl
theorem ct(h:Io s<=1000000):eb s=Q3:=by unfold eb;rw[HD h];rfl
theorem fq(h:Io s<=1000000):bM s=zU s:=by unfold bM;rw[HD h];rfl
mutual
def ut:za->Prop
 |.mk _ v s l=>mb v/\Io s<=1000000/\lm l
def lm:List za->Prop
 |[]=>True
 |e::r=>ut e/\lm r
end
theorem lm.mem:∀{l:List za},lm l->∀e∈l,ut e
 |[],_,e,h=>by simp at h
 | x::r,h,e,a=>by
  rw[lm]at h;rcases b8.1 a with rfl|a
  .exact h.1
  .exact lm.mem h.2 e a
def FG(o:zH):Bool:=bif o==iw then Q3 else bif o==uD then Q3 else bif o==[61]then Q3 else bif o==[60]then Q3 else bif o==[43]then Q3 else o==[45]
theorem MX(s:zH):PG s=Q1 (FG s,()):=rfl
theorem Zu(s:zH):Jm s=Q3:=by unfold Jm;rw[MX];rfl
theorem zdN(s:zH):Sn s=FG s:=by unfold Sn;rw[MX];rfl
def cH:Nat->za->Bool
 |0,_=>Q4
 | d+1,.mk o v s l=>
  if(o==ou)=Q3 then(cond (bf v) (cond (s==[]) ((Io l:Int)==0) Q4) Q4)else
  if(o==eL)=Q3 then(cond (bu v) (cond (er s) (cond (!jy s) ((Io l:Int)==0) Q4) Q4) Q4)else
  if(cond (o==ni) Q3 (o==po))=Q3 then(cond (bu v) (cond (s==[]) (match l with|[a]=>cH d a|_=>Q4) Q4) Q4)else
  if FG o=Q3 then(cond (bu v) (cond (s==[]) (match l with|[a,b]=>bif cH d a then cH d b else Q4|_=>Q4) Q4) Q4)else Q4
def nE:Nat->za->Nat
 |0,_=>0
 |d+1,.mk _ _ _ l=>1+(l.map (nE d)).sum
theorem U5(d:Nat)(h:d<=1000):Γ Δ (((d+1:Nat):Int)-1)=(d:Int):=ma d um
theorem Hx:∀(N d:Nat)(e:za),d<=12->d<N->ut e->gy N e (d:Int)=Q1 (cH d e,())
 |0,_,_,_,h,_=>zC h ow
 | N+1,0,e,_,_,_=>by
  rw[gy];unfold Jl an bY;rfl
 | N+1,d+1,.mk o v s l,F,G,z=>by
  rw[ut]at z;obtain⟨y,w,D⟩:=z;have q:∀a∈l,gy N a (d:Int)=Q1 (cH d a,()):=λa u=>Hx N d a ow ow (D.mem a u)
  rw[gy];unfold Jl an bY;have E:(((d+1:Nat):Int)==0)=Q4:=dB.2 ow;simp only[Ry,Q8,zn,za.op,za.v,za.s,za.l,lI y.2.2,oS y.2.2,xZ w,Ee w,M6,Sq,Zu,zdN,U5 d ow,zh,E]
  match l,q with
  | [],_=>
   simp only[cH,bu];rcases zQ (o==ou)with j|j
   .rcases zQ (bf v)with g|g<;>rcases zQ (s==[])with i|i<;>(simp only[j,g,i,aw,ax,zh,zm,zE,ee];rfl)
   rcases zQ (o==eL)with k|k
   .rcases zQ (bu v)with g|g<;>rcases zQ (er s)with i|i<;>rcases zQ (jy s)with m|m<;>(simp only[bu]at g;simp only[j,k,g,i,m,aw,ax,zh,zm,zE,ee,cm,di];rfl)
   rcases zQ (cond (o==ni) Q3 (o==po))with n|n
   .rcases zQ (bu v)with g|g<;>rcases zQ (s==[])with i|i<;>(simp only[bu]at g;simp only[j,k,n,g,i,aw,ax,zh,zm,zE,ee];rfl)
   rcases zQ (FG o)with p|p
   .rcases zQ (bu v)with g|g<;>rcases zQ (s==[])with i|i<;>(simp only[bu]at g;simp only[j,k,n,p,g,i,aw,ax,zh,zm,zE,ee];rfl)
   .simp only[j,k,n,p,zm,zE,ee];rfl
  | [a],q=>
   have u:=q a sw;simp only[cH,bu,show getD [a] (toNat 0) (zi Q5)=a from rfl,u,show zK 0 [a].length=Q3 from rfl,fG,show∀x,oX (Q1 (x,()))=x from λ_=>rfl];rcases zQ (o==ou)with j|j
   .rcases zQ (bf v)with g|g<;>rcases zQ (s==[])with i|i<;>(simp only[j,g,i,aw,ax,zh,zm,zE,ee];rfl)
   rcases zQ (o==eL)with k|k
   .rcases zQ (bu v)with g|g<;>rcases zQ (er s)with i|i<;>rcases zQ (jy s)with m|m<;>(simp only[bu]at g;simp only[j,k,g,i,m,aw,ax,zh,zm,zE,ee,cm,di];rfl)
   rcases zQ (cond (o==ni) Q3 (o==po))with n|n
   .rcases zQ (bu v)with g|g<;>rcases zQ (s==[])with i|i<;>rcases zQ (cH d a)with m|m<;>(simp only[bu]at g;simp only[j,k,n,g,i,m,aw,ax,zh,zm,zE,ee];rfl)
   rcases zQ (FG o)with p|p
   .rcases zQ (bu v)with g|g<;>rcases zQ (s==[])with i|i<;>rcases zQ (cH d a)with m|m<;>(simp only[bu]at g;simp only[j,k,n,p,g,i,m,aw,ax,zh,zm,zE,ee];rfl)
   .simp only[j,k,n,p,zm,zE,ee];rfl
  | [a,b],q=>
   have u:=q a sw;have C:=q b sw;simp only[cH,bu,show getD [a,b] (toNat 0) (zi Q5)=a from rfl,show getD [a,b] (toNat 1) (zi Q5)=b from rfl,u,C,show zK 0 [a,b].length=Q3 from rfl,show zK 1 [a,b].length=Q3 from rfl,fG,show∀x,oX (Q1 (x,()))=x from λ_=>rfl];rcases zQ (o==ou)with j|j
   .rcases zQ (bf v)with g|g<;>rcases zQ (s==[])with i|i<;>(simp only[j,g,i,aw,ax,zh,zm,zE,ee];rfl)
   rcases zQ (o==eL)with k|k
   .rcases zQ (bu v)with g|g<;>rcases zQ (er s)with i|i<;>rcases zQ (jy s)with m|m<;>(simp only[bu]at g;simp only[j,k,g,i,m,aw,ax,zh,zm,zE,ee,cm,di];rfl)
   rcases zQ (cond (o==ni) Q3 (o==po))with n|n
   .rcases zQ (bu v)with g|g<;>rcases zQ (s==[])with i|i<;>rcases zQ (cH d a)with m|m<;>rcases zQ (cH d b)with t|t<;>(simp only[bu]at g;simp only[j,k,n,g,i,m,t,aw,ax,zh,zm,zE,ee];rfl)
   rcases zQ (FG o)with p|p
   .rcases zQ (bu v)with g|g<;>rcases zQ (s==[])with i|i<;>rcases zQ (cH d a)with m|m<;>rcases zQ (cH d b)with t|t<;>(simp only[bu]at g;simp only[j,k,n,p,g,i,m,t,aw,ax,zh,zm,zE,ee];rfl)
   .simp only[j,k,n,p,zm,zE,ee];rfl
  | a::b::c::r,_=>
   have e0:((((a::b::c::r).length:Nat):Int)==0)=Q4:=dB.2 sg;have A:((((a::b::c::r).length:Nat):Int)==1)=Q4:=dB.2 sg;have B:((((a::b::c::r).length:Nat):Int)==2)=Q4:=dB.2 sg;simp only[cH,bu,e0,A,B];rcases zQ (o==ou)with j|j
   .rcases zQ (bf v)with g|g<;>rcases zQ (s==[])with i|i<;>(simp only[j,g,i,aw,ax,zh,zm,zE,ee];rfl)
   rcases zQ (o==eL)with k|k
   .rcases zQ (bu v)with g|g<;>rcases zQ (er s)with i|i<;>rcases zQ (jy s)with m|m<;>(simp only[bu]at g;simp only[j,k,g,i,m,aw,ax,zh,zm,zE,ee,cm,di];rfl)
   rcases zQ (cond (o==ni) Q3 (o==po))with n|n
   .rcases zQ (bu v)with g|g<;>rcases zQ (s==[])with i|i<;>(simp only[bu]at g;simp only[j,k,n,g,i,aw,ax,zh,zm,zE,ee];rfl)
   rcases zQ (FG o)with p|p
   .rcases zQ (bu v)with g|g<;>rcases zQ (s==[])with i|i<;>(simp only[bu]at g;simp only[j,k,n,p,g,i,aw,ax,zh,zm,zE,ee];rfl)
   .simp only[j,k,n,p,ax,zm,zE,ee];rfl
theorem UV(h:FG s=Q3):s=iw\/s=uD\/s=[61]\/s=[60]\/s=[43]\/s=[45]:=by
 unfold FG at h;rcases zQ (s==iw)with c|c
 .exact .inl (bF c)
 rcases zQ (s==uD)with x|x
 .exact .inr (.inl (bF x))
 rcases zQ (s==[61])with a|a
 .exact .inr (.inr (.inl (bF a)))
 rcases zQ (s==[60])with b|b
 .exact .inr (.inr (.inr (.inl (bF b))))
 rcases zQ (s==[43])with d|d
 .exact .inr (.inr (.inr (.inr (.inl (bF d)))))
 rcases zQ (s==[45])with e|e
 .exact .inr (.inr (.inr (.inr (.inr (bF e)))))
 rw[c,x,a,b,d,e]at h;cases h
inductive Vq (d:Nat):za->Prop
 |lit (v:Int×Int×zH) (h:bf v=Q3):Vq d (.mk ou v [] [])
 |col (s:zH) (h:er s=Q3) (h2:jy s=Q4):Vq d (.mk eL (0,0,[]) s [])
 |one (op:zH) (a:za) (h:op=ni\/op=po) (ha:cH d a=Q3):Vq d (.mk op (0,0,[]) [] [a])
 |two (op:zH) (a b:za) (h:op=iw\/op=uD\/op=[61]\/op=[60]\/op=[43]\/op=[45]) (ha:cH d a=Q3) (hb:cH d b=Q3):Vq d (.mk op (0,0,[]) [] [a,b])
theorem Dm{v:Int×Int×zH}(h:bu v=Q3):v=(0,0,[]):=by obtain⟨a,b,c⟩:=v;unfold bu at h;simp at h;obtain⟨rfl,rfl,rfl⟩:=h;rfl
theorem cK{a b:Bool}(h:(cond a b Q4)=Q3):a=Q3/\b=Q3:=by cases a<;>cases b<;>simp_all
theorem Un(h:(cond (s==ni) Q3 (s==po))=Q3):s=ni\/s=po:=by
 rcases zQ (s==ni)with k|k
 .exact .inl (bF k)
 .rw[k]at h;exact .inr (bF h)
theorem fX:∀{e:za},cH (n+1) e=Q3->Vq n e
 | .mk o v s [],h=>by
  simp only[cH]at h;split at h
  next c=>obtain⟨g,i⟩:=cK h;obtain⟨j,k⟩:=cK i;rw[bF c,bF j];exact .lit v g
  split at h
  next c=>obtain⟨g,i⟩:=cK h;obtain⟨j,k⟩:=cK i;obtain⟨m,t⟩:=cK k;rw[bF c,Dm g];exact .col s j (by simpa using m)
  split at h
  .cases x:bu v<;>cases d:(s==[])<;>simp[x,d]at h
  split at h
  .cases x:bu v<;>cases d:(s==[])<;>simp[x,d]at h
  .cases h
 | .mk o v s [a],h=>by
  simp only[cH]at h;split at h
  .cases x:bf v<;>cases d:(s==[])<;>simp[x,d]at h
  split at h
  .cases x:bu v<;>cases d:er s<;>cases l:jy s<;>simp[x,d,l]at h
  split at h
  next c=>obtain⟨g,i⟩:=cK h;obtain⟨j,k⟩:=cK i;rw[bF j,Dm g];exact .one o a (Un c) k
  split at h
  .cases x:bu v<;>cases d:(s==[])<;>simp[x,d]at h
  .cases h
 | .mk o v s [a,b],h=>by
  simp only[cH]at h;split at h
  .cases x:bf v<;>cases d:(s==[])<;>simp[x,d]at h
  split at h
  .cases x:bu v<;>cases d:er s<;>cases l:jy s<;>simp[x,d,l]at h
  split at h
  .cases x:bu v<;>cases d:(s==[])<;>simp[x,d]at h
  split at h
  next c=>obtain⟨g,i⟩:=cK h;obtain⟨j,k⟩:=cK i;obtain⟨p,q⟩:=cK k;rw[bF j,Dm g];exact .two o a b (UV c) p q
  .cases h
 | .mk o v s (a::b::c::r),h=>by
  have e0:((((a::b::c::r).length:Nat):Int)==0)=Q4:=dB.2 sg;simp only[cH,e0]at h;split at h
  .cases x:bf v<;>cases d:(s==[])<;>simp[x,d]at h
  split at h
  .cases x:bu v<;>cases d:er s<;>cases l:jy s<;>simp[x,d,l]at h
  split at h
  .cases x:bu v<;>cases d:(s==[])<;>simp[x,d]at h
  split at h
  .cases x:bu v<;>cases d:(s==[])<;>simp[x,d]at h
  .cases h
theorem sU:∀(d:Nat)(e:za),cH d e=Q3->nE d e+1<=2^d
 |0,_,h=>by cases h
 | d+1,e,h=>by
  have c:0<2^d:=Nat.two_pow_pos d;cases fX h with
  |lit v h=>simp[nE,pN];omega
  |col s h c=>simp[nE,pN];omega
  |one o a h x=>have:=sU d a x;simp[nE,pN];omega
  |two o a b h x g=>have:=sU d a x;have:=sU d b g;simp[nE,pN];omega
theorem zlg{e:za}(h:cH n e=Q3):1<=nE n e:=by
 cases n with
 |zero=>cases h
 | succ n=>
  obtain⟨o,v,s,l⟩:=e;rw[nE];omega
theorem zar(h:n<=1000000):Γ Δ (n:Int)=(n:Int):=by rw[dP];omega
theorem oY:∀(N d:Nat)(e:za),d<=12->d<=N->cH d e=Q3->cM N e=Q1 ((nE d e:Int),())
 |_,0,_,_,_,h=>by cases h
 |0,d+1,_,_,h,_=>zC h ow
 | N+1,d+1,e,D,w,h=>by
  have E:2^(d+1)<=2^12:=F0 ow ow;have y:=sU (d+1) e h
  have x:∀(e:za)(i:Nat)(n k:Nat)(p:i<(za.l e).length),cM N (za.l e)[i]=Q1 ((k:Int),())->n+k<=1000000->i<=1000->
    (EW (λg=>iR (cM N g)) (λg=>(cM N g).isSome) (.h3 (n:Int) (i:Int) (e,()))).val=Q1 (.inl (.h3 ((n+k:Nat):Int) ((i+1:Nat):Int) (e,()))):=by
   intro e i n k p z A F;have u:getD (za.l e) (i:Int).toNat (zi Q5)=(za.l e)[i]:=zX _ _ p;simp only[EW,J9,EX,Q8,u,zn,z,zI p,zx p,fG,zh];show Q1 (Sum.inl (un.h3 (Γ Δ ((n:Int)+(k:Int))) _ _))=_;rw[zu i um,<-pQ,zar A]
  have c:∀(e:za)(n:Nat),(EW (λg=>iR (cM N g)) (λg=>(cM N g).isSome) (.h3 (n:Int) ((za.l e).length:Int) (e,()))).val=Q1 (.inr (.int .i64 n,[])):=by
   intro e n;simp only[EW,J9,EX,Q8,zG];rfl
  have j:∀e,(Rz (λg=>iR (cM N g)) (λg=>(cM N g).isSome) e).val=Q1 (.inl (.h3 ((1:Nat):Int) ((0:Nat):Int) (e,()))):=λ_=>rfl
  rw[cM];unfold MW;cases fX h with
  |lit v h=>exact zA (j _) (zY.of (c _ 1)) ow rfl
  |col s h w=>exact zA (j _) (zY.of (c _ 1)) ow rfl
  | one o a h m=>
   have q:=oY N d a ow ow m;have B:=sU d a m;have C:2^d<=2^12:=F0 ow ow;refine zA (j _) ((zJ.of (x (.mk o (0,0,[]) [] [a]) 0 1 (nE d a) (by simp[za.l]) q ow ow)).ends (zY.of (c (.mk o (0,0,[]) [] [a]) _))) ow ?_;simp[nE];rfl
  | two o a b h m t=>
   have q:=oY N d a ow ow m;have kb:=oY N d b ow ow t;have B:=sU d a m;have G:=sU d b t;have C:2^d<=2^12:=F0 ow ow;refine zA (j _) ((zJ.of (x (.mk o (0,0,[]) [] [a,b]) 0 1 (nE d a) (by simp[za.l]) q ow ow)).ends ((zJ.of (x (.mk o (0,0,[]) [] [a,b]) 1 (1+nE d a) (nE d b) (by simp[za.l]) kb ow ow)).ends (zY.of (c (.mk o (0,0,[]) [] [a,b]) _)))) ow ?_;simp[nE,Nat.add_assoc];rfl
theorem rD:∀(N k:Nat)(e:za)(n:Nat),k<=12->k<=N->cH k e=Q3->n+nE k e<=60->iy N e ((13:Int)-k) n=(Q3,((n+nE k e:Nat):Int))
 |_,0,_,_,_,_,h,_=>by cases h
 |0,k+1,_,_,_,h,_,_=>zC h ow
 | N+1,k+1,e,n,B,j,h,m=>by
  rw[iy];unfold AQ;have A:Γ Δ ((n:Int)+1)=((n+1:Nat):Int):=zu n um;have w:Γ Δ ((13:Int)-((k+1:Nat):Int)+1)=(13:Int)-(k:Int):=by rw[dP];omega
  have q:Q0 ((13:Int)-((k+1:Nat):Int)>12)=Q4:=z7 ow;have p:=zlg h;have t:Q0 (((n+1:Nat):Int)>60)=Q4:=z7 ow;rw[A,q,t];cases fX h with
  |lit v y=>simp[za.op,za.l,za.s,za.v,dp,Aq,SI,y,nE]
  |col s z j=>simp[za.op,za.l,za.s,za.v,dp,Aq,SI,z,j,nE,bu]
  | one o a d x=>
   have c:n+1+nE k a<=60:=by simp[nE]at m;omega
   have i:=rD N k a (n+1) ow ow x c;have g:((n+nE (k+1) (.mk o (0,0,[]) [] [a]):Nat):Int)=((n+1+nE k a:Nat):Int):=by simp[nE];omega
   rw[g]
   push_cast at*
   rcases d with rfl|rfl<;>simp[za.op,za.l,za.s,za.v,dp,Aq,SI,bu,pH,w,i]
  | two o a b d x u=>
   have c:n+1+nE k a+nE k b<=60:=by simp[nE]at m;omega
   have i:=rD N k a (n+1) ow ow x ow;have kb:=rD N k b (n+1+nE k a) ow ow u c;have g:((n+nE (k+1) (.mk o (0,0,[]) [] [a,b]):Nat):Int)=((n+1+nE k a+nE k b:Nat):Int):=by simp[nE];omega
   rw[g]
   push_cast at*
   rcases d with rfl|rfl|rfl|rfl|rfl|rfl<;>simp[za.op,za.l,za.s,za.v,dp,Aq,SI,bu,pH,w,i,kb]
theorem nz{α:Type}{p:α->Bool}{d:α}:∀(l:List α)(k i:Nat),i<Io l->p (l.getD i d)=Q3->(∀j,j<i->p (l.getD j d)=Q4)->ac p l k=((k+i:Nat):Int)
 |[],_,_,h,_,_=>by simp at h
 | x::r,k,0,_,hp,_=>by
  rw[ac,ze (by simpa using hp)];rfl
 | x::r,k,i+1,h,hp,hj=>by
  have a:=hj 0 ow;rw[ac,zg (by rw[show p x=Q4 by simpa using a];simp),nz r (k+1) i (by simpa using h) (by simpa using hp) (λj b=>by simpa using hj (j+1) ow)];congr 1;omega
theorem nA{α:Type}{p:α->Bool}{d:α}:∀(l:List α)(k:Nat),(∀j,j<Io l->p (l.getD j d)=Q4)->ac p l k=-1
 |[],_,_=>rfl
 | x::r,k,hj=>by
  have a:=hj 0 sw;rw[ac,zg (by rw[show p x=Q4 by simpa using a];simp)];exact nA (d:=d) r (k+1) (λj h=>by simpa using hj (j+1) (by simpa using h))
theorem D6{c:aN}(l:Io c<=1000000):D5 c s=Q1 (ay c s,()):=by
 have j:=mF (t:=Qj) (Φ:=λr=>r=(.int .i64 (ay c s),[])) 1 (λi=>.h2 c s (i:Int)) (λi=>((getD c i (zi zl)).1==s)=Q4) (Io c) (by
  intro i a k;have g:(Qj (.h2 c s (i:Int))).val=if((getD c i (zi zl)).1==s)=Q3 then Q1 (.inr (.int .i64 i,[]))else Q1 (.inl (.h2 c s ((i+1:Nat):Int))):=by
   simp only[Qj,Qk,Kf,Q8,zI a,zx a,aJ,zh];rw[zu i um]
  rcases zQ ((getD c i (zi zl)).1==s)with h|h
  .refine .inr ⟨by rw[h];simp,_,zY.of (by rw[g,ze h]),?_⟩;have:=nz (p:=λx:bR=>x.1==s) (d:=zi zl) c 0 i a h k;rw[show ay c s=(i:Int) by unfold ay;rw[this];simp]
  .exact .inl ⟨h,zJ.of (by rw[g,zg (by rw[h];simp)])⟩)
 have a:(zc8 c s).val=Q1 (.inl (.h2 c s ((0:Nat):Int))):=rfl;rcases j with⟨e,b⟩|⟨e,r,b,rfl⟩
 .have:=nA (p:=λx:bR=>x.1==s) (d:=zi zl) c 0 e;rw[show ay c s=(-1:Int)from this];refine zA a (b.ends (zY.of (r:=(.int .i64 (-1),[])) ?_)) ow rfl;simp only[Qj,Qk,Kf,Q8,zG];rfl
 .exact zA a b ow rfl
variable {cols:aN}
theorem oZ(h:Io cols<=1000000):eQ cols s=Q3:=by unfold eQ;rw[D6 h];rfl
theorem rZ(h:Io cols<=1000000):gz cols s=ay cols s:=by unfold gz;rw[D6 h];rfl
theorem Vz(t u:Int):pE [t] u=!(cond (t !=u) (t !=0) Q4):=by unfold pE;simp only[ac];rcases zQ (cond (t !=u) (t !=0) Q4)with h|h<;>simp[h]
theorem uw(t x u:Int):pE [t,x] u=!(cond (cond (t !=u) (t !=0) Q4) Q3 (cond (x !=u) (x !=0) Q4)):=by unfold pE;simp only[ac];rcases zQ (cond (t !=u) (t !=0) Q4)with h|h<;>rcases zQ (cond (x !=u) (x !=0) Q4)with a|a<;>simp[h,a]
theorem PF{g c}{e:za}(o:Io cols<=1000000):∃r k,zY (NI g c) k (.h5 cols ((0:Nat):Int) (e,())) r/\k<=100000000/\aU r.2 [zj,zj] r.1=Q1 (if Q0 (LT.lt (α:=Int) (ay cols (za.s e)) 0)=Q3 then((0:Int),(4:Int),())else((getD cols (toNat (ay cols (za.s e))) (zi zl)).2.1,(0:Int),())):=by
 have m:=mF (t:=NI g c) (Φ:=λr=>aU r.2 [zj,zj] r.1=Q1 (if Q0 (LT.lt (α:=Int) (ay cols (za.s e)) 0)=Q3 then((0:Int),(4:Int),())else((getD cols (toNat (ay cols (za.s e))) (zi zl)).2.1,(0:Int),()))) 1 (λi=>.h5 cols (i:Int) (e,())) (λi=>((getD cols i (zi zl)).1==za.s e)=Q4) (Io cols) (by
  intro i a n;have j:(NI g c (.h5 cols (i:Int) (e,()))).val=if((getD cols i (zi zl)).1==za.s e)=Q3 then Q1 (.inr (.tup [.int .i64 (getD cols i (zi zl)).2.1,.int .i64 0],[]))else Q1 (.inl (.h5 cols ((i+1:Nat):Int) (e,()))):=by
   simp only[NI,Q8,zI a,zx a,aJ,zh];rw[zu i um]
  rcases zQ ((getD cols i (zi zl)).1==za.s e)with h|h
  .refine .inr ⟨by rw[h];simp,_,zY.of (by rw[j,ze h]),?_⟩;have:=nz (p:=λc:bR=>c.1==za.s e) (d:=zi zl) cols 0 i a h n;rw[show ay cols (za.s e)=(i:Int) by unfold ay;rw[this];simp,zg (by rw[aQ];omega),aJ];rfl
  .exact .inl ⟨h,zJ.of (by rw[j,zg (by rw[h];simp)])⟩)
 rcases m with⟨b,x⟩|⟨b,r,x,l⟩
 .have:=nA (p:=λc:bR=>c.1==za.s e) (d:=zi zl) cols 0 b;refine⟨(.tup [.int .i64 0,.int .i64 4],[]),_,x.ends (zY.of ?_),ow,?_⟩
  .simp only[NI,Q8,zG];rfl
  .rw[show ay cols (za.s e)=(-1:Int)from this];rfl
 .exact⟨r,_,x,ow,l⟩
theorem rW{cols:aN}(F:Io cols<=1000000):∀(N d M:Nat)(e:za),d<=N->d<=M->cH d e=Q3->cy N e cols=Q1 ((zW M e cols).1,(zW M e cols).2,())
 |_,0,_,_,_,_,h=>by cases h
 |0,d+1,_,_,h,_,_=>zC h ow
 |_,d+1,0,_,_,h,_=>zC h ow
 | N+1,d+1,M+1,e,L,O,h=>by
  rw[cy,zW];unfold Sm yx;cases fX h with
  |lit v S=>rfl
  | col s T P=>
   obtain⟨r,k,x,i,j⟩:=PF (g:=λq w=>gw (cy N q w)) (c:=λq w=>(cy N q w).isSome) (cols:=cols) (e:=.mk eL (0,0,[]) s []) F;refine zA EB x i (j.trans ?_);have l:aR (zW M) (bx M) cols eL (0:Int) (0:Int) [] s [] [] 0 []=if Q0 (LT.lt (α:=Int) (ay cols s) 0)=Q3 then((0:Int),(4:Int))else((getD cols (toNat (ay cols s)) (zi zl)).2.1,(0:Int)):=rfl
   show _=Q1 ((aR (zW M) (bx M) cols eL (0:Int) (0:Int) [] s [] [] 0 []).1,(aR (zW M) (bx M) cols eL (0:Int) (0:Int) [] s [] [] 0 []).2,());rw[l];show Q1 (if Q0 (LT.lt (α:=Int) (ay cols s) 0)=Q3 then((0:Int),(4:Int),())else((getD cols (toNat (ay cols s)) (zi zl)).2.1,(0:Int),()))=_;rcases zQ (Q0 (LT.lt (α:=Int) (ay cols s) 0))with c|c
   .rw[ze c,ze c]
   .rw[zg (by rw[c];simp),zg (by rw[c];simp)]
  | one J a H G=>
   have C:=rW F N d M a ow ow G;unfold an bY;generalize E:(λq w=>gw (cy N q w))=g;generalize D:(λq w=>(cy N q w).isSome)=c;have z:g a cols=zW M a cols:=by rw[<-E];show gw (cy N a cols)=_;rw[C];rfl
   have y:c a cols=Q3:=by rw[<-D];show(cy N a cols).isSome=_;rw[C];rfl
   rcases H with rfl|rfl
   .have l:aR (zW M) (bx M) cols ni (0:Int) (0:Int) [] [] [a] [a] 0 []=if((zW M a cols).2!=0)=Q3 then((0:Int),(zW M a cols).2)else if(!pE [(zW M a cols).1] 3)=Q3 then((0:Int),(5:Int))else((3:Int),(0:Int)):=rfl
    show _=Q1 ((aR (zW M) (bx M) cols ni (0:Int) (0:Int) [] [] [a] [a] 0 []).1,(aR (zW M) (bx M) cols ni (0:Int) (0:Int) [] [] [a] [a] 0 []).2,());rw[l,Vz];have o:(Dl g c (.mk ni (0,0,[]) [] [a]) cols).val=if c (zr a) cols=Q3 then(ite (((g (zr a) cols).2!=0)=Q3) (Q1 (.inr (.tup [.int .i64 0,.int .i64 (g (zr a) cols).2],[]))) (ite ((cond ((g (zr a) cols).1!=0) (cond ((g (zr a) cols).1!=3) Q3 (cond ((g (zr a) cols).1!=0) ((g (zr a) cols).1!=3) Q4)) (cond ((g (zr a) cols).1!=0) ((g (zr a) cols).1!=3) Q4))=Q3) (Q1 (.inr (.tup [.int .i64 0,.int .i64 5],[]))) (Q1 (.inr (.tup [.int .i64 3,.int .i64 0],[])))))else Q2:=rfl
    rw[o,zn,y,z];generalize zW M a cols=t;rcases zQ (t.2!=0)with x|x<;>rcases zQ (t.1!=0)with i|i<;>rcases zQ (t.1!=3)with j|j<;>(simp only[x,i,j,aw,ax,zh,zm,zE,cm,di];rfl)
   .have l:aR (zW M) (bx M) cols po (0:Int) (0:Int) [] [] [a] [a] 0 []=if((zW M a cols).2!=0)=Q3 then((0:Int),(zW M a cols).2)else((3:Int),(0:Int)):=rfl
    show _=Q1 ((aR (zW M) (bx M) cols po (0:Int) (0:Int) [] [] [a] [a] 0 []).1,(aR (zW M) (bx M) cols po (0:Int) (0:Int) [] [] [a] [a] 0 []).2,());rw[l];have o:(Dl g c (.mk po (0,0,[]) [] [a]) cols).val=if c (zr a) cols=Q3 then(ite (((g (zr a) cols).2!=0)=Q3) (Q1 (.inr (.tup [.int .i64 0,.int .i64 (g (zr a) cols).2],[]))) (Q1 (.inr (.tup [.int .i64 3,.int .i64 0],[]))))else Q2:=rfl
    rw[o,zn,y,z];generalize zW M a cols=t;rcases zQ (t.2!=0)with x|x<;>(simp only[x,zh,zm,zE];rfl)
  | two J a b H G I=>
   have C:=rW F N d M a ow ow G;have kb:=rW F N d M b ow ow I;unfold an bY;generalize E:(λq w=>gw (cy N q w))=g;generalize D:(λq w=>(cy N q w).isSome)=c;have z:g a cols=zW M a cols:=by rw[<-E];show gw (cy N a cols)=_;rw[C];rfl
   have y:c a cols=Q3:=by rw[<-D];show(cy N a cols).isSome=_;rw[C];rfl
   have B:g b cols=zW M b cols:=by rw[<-E];show gw (cy N b cols)=_;rw[kb];rfl
   have A:c b cols=Q3:=by rw[<-D];show(cy N b cols).isSome=_;rw[kb];rfl
   rcases H with rfl|rfl|rfl|rfl|rfl|rfl
   .have l:aR (zW M) (bx M) cols iw (0:Int) (0:Int) [] [] [a,b] [a,b] 0 []=if((zW M a cols).2!=0)=Q3 then((0:Int),(zW M a cols).2)else if((zW M b cols).2!=0)=Q3 then((0:Int),(zW M b cols).2)else if(!pE [(zW M a cols).1,(zW M b cols).1] 3)=Q3 then((0:Int),(5:Int))else((3:Int),(0:Int)):=rfl
    show _=Q1 ((aR (zW M) (bx M) cols iw (0:Int) (0:Int) [] [] [a,b] [a,b] 0 []).1,(aR (zW M) (bx M) cols iw (0:Int) (0:Int) [] [] [a,b] [a,b] 0 []).2,());rw[l,uw];have o:(Dl g c (.mk iw (0,0,[]) [] [a,b]) cols).val=if c (zr a) cols=Q3 then(ite (((g (zr a) cols).2!=0)=Q3) (Q1 (.inr (.tup [.int .i64 0,.int .i64 (g (zr a) cols).2],[]))) (ite (c (zr b) cols=Q3) (ite (((g (zr b) cols).2!=0)=Q3) (Q1 (.inr (.tup [.int .i64 0,.int .i64 (g (zr b) cols).2],[]))) (ite ((cond ((g (zr a) cols).1!=0) (cond ((g (zr a) cols).1!=3) Q3 (cond ((g (zr b) cols).1!=0) ((g (zr b) cols).1!=3) Q4)) (cond ((g (zr b) cols).1!=0) ((g (zr b) cols).1!=3) Q4))=Q3) (Q1 (.inr (.tup [.int .i64 0,.int .i64 5],[]))) (Q1 (.inr (.tup [.int .i64 3,.int .i64 0],[]))))) Q2))else Q2:=rfl
    rw[o,zn,zn,y,A,z,B];generalize zW M a cols=t;generalize zW M b cols=u;rcases zQ (t.2!=0)with x|x<;>rcases zQ (u.2!=0)with i|i<;>rcases zQ (t.1!=0)with j|j<;>rcases zQ (u.1!=0)with m|m<;>rcases zQ (t.1!=3)with n|n<;>rcases zQ (u.1!=3)with p|p<;>(simp only[x,i,j,m,n,p,aw,ax,zh,zm,zE,cm,di];rfl)
   .have l:aR (zW M) (bx M) cols uD (0:Int) (0:Int) [] [] [a,b] [a,b] 0 []=if((zW M a cols).2!=0)=Q3 then((0:Int),(zW M a cols).2)else if((zW M b cols).2!=0)=Q3 then((0:Int),(zW M b cols).2)else if(!pE [(zW M a cols).1,(zW M b cols).1] 3)=Q3 then((0:Int),(5:Int))else((3:Int),(0:Int)):=rfl
    show _=Q1 ((aR (zW M) (bx M) cols uD (0:Int) (0:Int) [] [] [a,b] [a,b] 0 []).1,(aR (zW M) (bx M) cols uD (0:Int) (0:Int) [] [] [a,b] [a,b] 0 []).2,());rw[l,uw];have o:(Dl g c (.mk uD (0,0,[]) [] [a,b]) cols).val=if c (zr a) cols=Q3 then(ite (((g (zr a) cols).2!=0)=Q3) (Q1 (.inr (.tup [.int .i64 0,.int .i64 (g (zr a) cols).2],[]))) (ite (c (zr b) cols=Q3) (ite (((g (zr b) cols).2!=0)=Q3) (Q1 (.inr (.tup [.int .i64 0,.int .i64 (g (zr b) cols).2],[]))) (ite ((cond ((g (zr a) cols).1!=0) (cond ((g (zr a) cols).1!=3) Q3 (cond ((g (zr b) cols).1!=0) ((g (zr b) cols).1!=3) Q4)) (cond ((g (zr b) cols).1!=0) ((g (zr b) cols).1!=3) Q4))=Q3) (Q1 (.inr (.tup [.int .i64 0,.int .i64 5],[]))) (Q1 (.inr (.tup [.int .i64 3,.int .i64 0],[]))))) Q2))else Q2:=rfl
    rw[o,zn,zn,y,A,z,B];generalize zW M a cols=t;generalize zW M b cols=u;rcases zQ (t.2!=0)with x|x<;>rcases zQ (u.2!=0)with i|i<;>rcases zQ (t.1!=0)with j|j<;>rcases zQ (u.1!=0)with m|m<;>rcases zQ (t.1!=3)with n|n<;>rcases zQ (u.1!=3)with p|p<;>(simp only[x,i,j,m,n,p,aw,ax,zh,zm,zE,cm,di];rfl)
   .have l:aR (zW M) (bx M) cols [61] (0:Int) (0:Int) [] [] [a,b] [a,b] 0 []=if((zW M a cols).2!=0)=Q3 then((0:Int),(zW M a cols).2)else if((zW M b cols).2!=0)=Q3 then((0:Int),(zW M b cols).2)else if(!bif (zW M a cols).1==(zW M b cols).1 then Q3 else bif (zW M a cols).1==0 then Q3 else(zW M b cols).1==0)=Q3 then((0:Int),(5:Int))else((3:Int),(0:Int)):=rfl
    show _=Q1 ((aR (zW M) (bx M) cols [61] (0:Int) (0:Int) [] [] [a,b] [a,b] 0 []).1,(aR (zW M) (bx M) cols [61] (0:Int) (0:Int) [] [] [a,b] [a,b] 0 []).2,());rw[l];have o:(Dl g c (.mk [61] (0,0,[]) [] [a,b]) cols).val=if c (zr a) cols=Q3 then(ite (((g (zr a) cols).2!=0)=Q3) (Q1 (.inr (.tup [.int .i64 0,.int .i64 (g (zr a) cols).2],[]))) (ite (c (zr b) cols=Q3) (ite (((g (zr b) cols).2!=0)=Q3) (Q1 (.inr (.tup [.int .i64 0,.int .i64 (g (zr b) cols).2],[]))) (ite ((cond ((g (zr a) cols).1!=0) (cond ((g (zr b) cols).1!=0) ((g (zr a) cols).1!=(g (zr b) cols).1) Q4) Q4)=Q3) (Q1 (.inr (.tup [.int .i64 0,.int .i64 5],[]))) (Q1 (.inr (.tup [.int .i64 3,.int .i64 0],[]))))) Q2))else Q2:=rfl
    rw[o,zn,zn,y,A,z,B];generalize zW M a cols=t;generalize zW M b cols=u;simp only[bne];rcases zQ (t.2==0)with x|x<;>rcases zQ (u.2==0)with i|i<;>rcases zQ (t.1==0)with j|j<;>rcases zQ (u.1==0)with m|m<;>rcases zQ (t.1==u.1)with n|n<;>(simp only[x,i,j,m,n,aw,ax,zh,zm,zE,cm,di];rfl)
   .have l:aR (zW M) (bx M) cols [60] (0:Int) (0:Int) [] [] [a,b] [a,b] 0 []=if((zW M a cols).2!=0)=Q3 then((0:Int),(zW M a cols).2)else if((zW M b cols).2!=0)=Q3 then((0:Int),(zW M b cols).2)else if(!bif (zW M a cols).1==(zW M b cols).1 then Q3 else bif (zW M a cols).1==0 then Q3 else(zW M b cols).1==0)=Q3 then((0:Int),(5:Int))else((3:Int),(0:Int)):=rfl
    show _=Q1 ((aR (zW M) (bx M) cols [60] (0:Int) (0:Int) [] [] [a,b] [a,b] 0 []).1,(aR (zW M) (bx M) cols [60] (0:Int) (0:Int) [] [] [a,b] [a,b] 0 []).2,());rw[l];have o:(Dl g c (.mk [60] (0,0,[]) [] [a,b]) cols).val=if c (zr a) cols=Q3 then(ite (((g (zr a) cols).2!=0)=Q3) (Q1 (.inr (.tup [.int .i64 0,.int .i64 (g (zr a) cols).2],[]))) (ite (c (zr b) cols=Q3) (ite (((g (zr b) cols).2!=0)=Q3) (Q1 (.inr (.tup [.int .i64 0,.int .i64 (g (zr b) cols).2],[]))) (ite ((cond ((g (zr a) cols).1!=0) (cond ((g (zr b) cols).1!=0) ((g (zr a) cols).1!=(g (zr b) cols).1) Q4) Q4)=Q3) (Q1 (.inr (.tup [.int .i64 0,.int .i64 5],[]))) (Q1 (.inr (.tup [.int .i64 3,.int .i64 0],[]))))) Q2))else Q2:=rfl
    rw[o,zn,zn,y,A,z,B];generalize zW M a cols=t;generalize zW M b cols=u;simp only[bne];rcases zQ (t.2==0)with x|x<;>rcases zQ (u.2==0)with i|i<;>rcases zQ (t.1==0)with j|j<;>rcases zQ (u.1==0)with m|m<;>rcases zQ (t.1==u.1)with n|n<;>(simp only[x,i,j,m,n,aw,ax,zh,zm,zE,cm,di];rfl)
   .have l:aR (zW M) (bx M) cols [43] (0:Int) (0:Int) [] [] [a,b] [a,b] 0 []=if((zW M a cols).2!=0)=Q3 then((0:Int),(zW M a cols).2)else if((zW M b cols).2!=0)=Q3 then((0:Int),(zW M b cols).2)else if(!pE [(zW M a cols).1,(zW M b cols).1] 1)=Q3 then((0:Int),(5:Int))else((1:Int),(0:Int)):=rfl
    show _=Q1 ((aR (zW M) (bx M) cols [43] (0:Int) (0:Int) [] [] [a,b] [a,b] 0 []).1,(aR (zW M) (bx M) cols [43] (0:Int) (0:Int) [] [] [a,b] [a,b] 0 []).2,());rw[l,uw];have o:(Dl g c (.mk [43] (0,0,[]) [] [a,b]) cols).val=if c (zr a) cols=Q3 then(ite (((g (zr a) cols).2!=0)=Q3) (Q1 (.inr (.tup [.int .i64 0,.int .i64 (g (zr a) cols).2],[]))) (ite (c (zr b) cols=Q3) (ite (((g (zr b) cols).2!=0)=Q3) (Q1 (.inr (.tup [.int .i64 0,.int .i64 (g (zr b) cols).2],[]))) (ite ((cond ((g (zr a) cols).1!=0) (cond ((g (zr a) cols).1!=1) Q3 (cond ((g (zr b) cols).1!=0) ((g (zr b) cols).1!=1) Q4)) (cond ((g (zr b) cols).1!=0) ((g (zr b) cols).1!=1) Q4))=Q3) (Q1 (.inr (.tup [.int .i64 0,.int .i64 5],[]))) (Q1 (.inr (.tup [.int .i64 1,.int .i64 0],[]))))) Q2))else Q2:=rfl
    rw[o,zn,zn,y,A,z,B];generalize zW M a cols=t;generalize zW M b cols=u;rcases zQ (t.2!=0)with x|x<;>rcases zQ (u.2!=0)with i|i<;>rcases zQ (t.1!=0)with j|j<;>rcases zQ (u.1!=0)with m|m<;>rcases zQ (t.1!=1)with n|n<;>rcases zQ (u.1!=1)with p|p<;>(simp only[x,i,j,m,n,p,aw,ax,zh,zm,zE,cm,di];rfl)
   .have l:aR (zW M) (bx M) cols [45] (0:Int) (0:Int) [] [] [a,b] [a,b] 0 []=if((zW M a cols).2!=0)=Q3 then((0:Int),(zW M a cols).2)else if((zW M b cols).2!=0)=Q3 then((0:Int),(zW M b cols).2)else if(!pE [(zW M a cols).1,(zW M b cols).1] 1)=Q3 then((0:Int),(5:Int))else((1:Int),(0:Int)):=rfl
    show _=Q1 ((aR (zW M) (bx M) cols [45] (0:Int) (0:Int) [] [] [a,b] [a,b] 0 []).1,(aR (zW M) (bx M) cols [45] (0:Int) (0:Int) [] [] [a,b] [a,b] 0 []).2,());rw[l,uw];have o:(Dl g c (.mk [45] (0,0,[]) [] [a,b]) cols).val=if c (zr a) cols=Q3 then(ite (((g (zr a) cols).2!=0)=Q3) (Q1 (.inr (.tup [.int .i64 0,.int .i64 (g (zr a) cols).2],[]))) (ite (c (zr b) cols=Q3) (ite (((g (zr b) cols).2!=0)=Q3) (Q1 (.inr (.tup [.int .i64 0,.int .i64 (g (zr b) cols).2],[]))) (ite ((cond ((g (zr a) cols).1!=0) (cond ((g (zr a) cols).1!=1) Q3 (cond ((g (zr b) cols).1!=0) ((g (zr b) cols).1!=1) Q4)) (cond ((g (zr b) cols).1!=0) ((g (zr b) cols).1!=1) Q4))=Q3) (Q1 (.inr (.tup [.int .i64 0,.int .i64 5],[]))) (Q1 (.inr (.tup [.int .i64 1,.int .i64 0],[]))))) Q2))else Q2:=rfl
    rw[o,zn,zn,y,A,z,B];generalize zW M a cols=t;generalize zW M b cols=u;rcases zQ (t.2!=0)with x|x<;>rcases zQ (u.2!=0)with i|i<;>rcases zQ (t.1!=0)with j|j<;>rcases zQ (u.1!=0)with m|m<;>rcases zQ (t.1!=1)with n|n<;>rcases zQ (u.1!=1)with p|p<;>(simp only[x,i,j,m,n,p,aw,ax,zh,zm,zE,cm,di];rfl)
end
end Cad
