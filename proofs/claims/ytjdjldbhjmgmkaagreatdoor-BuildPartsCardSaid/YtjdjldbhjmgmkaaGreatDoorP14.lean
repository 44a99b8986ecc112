/- The document's expressions. -/
import Derived.Test.YtjdjldbhjmgmkaaGreatDoorP13
import Derived.Test.YtjdjldbhjmgmkaaGreatDoorP09
import Derived.Shelf.SlSortCmp.InsertionK
import Derived.Sort.OwnSorted
namespace Cad
open Go Go.Proofs
open List renaming length->X
open IntKind renaming wrap->Γ,i64->Δ
open AV renaming ptr->Qf,nils->Qb
open Tr renaming «to»->Q9,chk->K
open AO renaming box->Qa
open Sh renaming bool->Q7,expr->Q5
open Bool renaming true->O,false->S
open Option renaming none->Q2,some->M
open Decidable renaming decide->T
open Int renaming toNat->Z
open List renaming getD->Y
open Cad renaming Sem->J,ze->R,ai->L,zi->Q
set_option maxHeartbeats 4000000
open Tr (chk br re)
open AV (nils agg tup ptr kb str)
open AV renaming sl->N,str->I
noncomputable section
def Yj(g:J Q5->ct->fB->zq)(c:J Q5->ct->fB->Bool):cu:=Km.add 106 (ac [Q5,Sh.sl zn,Sh.sl R] [R] (λx=>c x.1 x.2.1 x.q.1) λx=>(g x.1 x.2.1 x.q.1,()))
theorem Qy{g:J Q5->ct->fB->zq}{c:J Q5->ct->fB->Bool}(h:FK 106 (ac [Q5,Sh.sl zn,Sh.sl R] [R] (λx=>c x.1 x.2.1 x.q.1) λx=>(g x.1 x.2.1 x.q.1,()))):zw (Yj g c):=vA.add h
abbrev zmW:Nat->aX:=λj=>if j=6 then{slots:=[1,2,3,6,7]}else{ }
inductive HF where
 |h6 (l1:LC) (l2:LV) (i7:Int) (z0:zp [CP.d Q5]) (z1:zp [CP.d R])
abbrev zr7:HF->Nat×St
 |.h6 l h i z x=>(6,⟨tm 103 [(1,N zn l),(2,N R h),(3,Qf 0 0),(6,Qf 1 0),(7,L i)],[Qa (bL [] [CP.d Q5] z),Qa (bL [] [CP.d R] x)]⟩)
def uJ(g:J Q5->J zn.sl->J ze.sl->zq)(c:J Q5->J zn.sl->J ze.sl->Bool)(x:J Q5)(j:J zn.sl)(k:J ze.sl):Tr (HF⊕aw):=
 let t:=zt ((zg.l x).getD (Z 0) (Q Q5))
 let a:=g t j k
 let m:=Jk a
 let u:=a.1==0
 let n:=bx u
 let y:=zt ((zg.l x).getD (Z 1) (Q Q5))
 let h:=g y j k
 let o:=Ji a h
 let p:=WB a h
 let s:=tt a h
 let b:=AQ a h
 let d:=AS a h
 let i:=tu a h
 br (zg.op x==pC)
 (re (agg [L (zg.v x).1,L (zg.v x).2.1,I (zg.v x).q]) [])
 (br (zg.op x==fk) (Q9 (HF.h6 j k 0 (x,()) ((0,0,[]),())))
  (K (zL 0 (zg.l x).length) (K (c t j k) (br (zg.op x==oC) (K (K8 a) (re (agg [L m.1,L m.2.1,I m.q]) [])) (br (zg.op x==qE) (K (nV a) (br (!uS a) (K O
  (re (agg [L (bx O).1,L (bx O).2.1,I (bx O).q]) [])) (K (mF u) (re (agg [L n.1,L n.2.1,I n.q]) [])))) (K (zL 1 (zg.l x).length) (K (c y j k) (br (zg.op x==jf)
  (K (K5 a h) (re (agg [L o.1,L o.2.1,I o.q]) [])) (br (zg.op x==wA) (K (Ub a h) (re (agg [L p.1,L p.2.1,I p.q]) [])) (br (zg.op x==[61]) (K (xt a h) (re (agg [L s.1,L s.2.1,I s.q]) [])) (br (zg.op x==[60])
  (K (CO a h) (re (agg [L b.1,L b.2.1,I b.q]) [])) (br (zg.op x==[43]) (K (CR a h) (re (agg [L d.1,L d.2.1,I d.q]) [])) (K (xv a h) (re (agg [L i.1,L i.2.1,I i.q]) []))))))))))))))
def GG(_:J Q5->J zn.sl->J ze.sl->zq)(_:J Q5->J zn.sl->J ze.sl->Bool):HF->Tr (HF⊕aw)
 | .h6 l h i z b=>
  let x:=l.getD i.toNat (Q zn)
  let a:=h.getD i.toNat (Q R)
  br (T (i<(X l:Int)))
  (K (zL i (X l))
   (br (x.1==zg.s z.1) (br (T (i<(X h:Int))) (K (zL i (X h)) (re (agg [L a.1,L a.2.1,I a.q]) [])) (re (agg [L 0,L 0,I []]) [])) (Q9 (HF.h6 l h (Γ Δ (i+1)) z b))))
  (re (agg [L 0,L 0,I []]) [])
def iL(o:Option (zF (List.map M [R]))):zq:=(λr:zF (List.map M [R])=>r.1) (o.getD (cJ [R]))
def Ud(g:J Q5->J zn.sl->J ze.sl->zq)(c:J Q5->J zn.sl->J ze.sl->Bool)(x:J Q5)(h:J zn.sl)(a:J ze.sl):Option (zF (List.map M [R])):=ap [R] (GG g c) 100000000 (uJ g c x h a)
def cW:Nat->J Q5->J zn.sl->J ze.sl->Option (zF (List.map M [R]))
 |0=>λ_ _ _=>Q2
 |n+1=>Ud (λx h a=>iL (cW n x h a)) λx h a=>(cW n x h a).isSome
theorem ZD:zY Km.P 106 Tryz.f106 3:=cK kw
theorem MD:∀n,FK 106 (ac [Q5,zn.sl,ze.sl] [R] (λx=>(cW n x.1 x.2.1 x.q.1).isSome) λx=>(iL (cW n x.1 x.2.1 x.q.1),()))
 |0=>ff ⟨Tryz.f106,ZD.1,ZD.2.1,ZD.q.1⟩ (λ_=>rfl)
 |n+1=>(Qy (MD n)).TT (f:=Tryz.f106) (E:=Yj (λh a b=>iL (cW n h a b)) (λh a b=>(cW n h a b).isSome)) (ks:=[Q5,zn.sl,ze.sl]) (outs:=[R]) (keep:=zmW) (n:=100000000) (e:=zr7) (t:=GG (λh a b=>iL (cW n h a b)) (λh a b=>(cW n h a b).isSome)) (i:=λx=>uJ (λh a b=>iL (cW n h a b)) (λh a b=>(cW n h a b).isSome) x.1 x.2.1 x.q.1)
def CV(x:J Q5)(h:J zn.sl)(a:J ze.sl):Option (zF (List.map M [R])):=cW 16 x h a
def CU(x:J Q5)(h:J zn.sl)(a:J ze.sl):Bool:=(CV x h a).isSome
def La(x:J Q5)(h:J zn.sl)(a:J ze.sl):zq:=iL (CV x h a)
def zgh:ag:=ac [Q5,zn.sl,ze.sl] [R] (λx=>CU x.1 x.2.1 x.q.1) λx=>(La x.1 x.2.1 x.q.1,())
theorem zch:FK 106 zgh:=MD 16
abbrev ztV:=kS [(5,[1,3,4]),(11,[1,3,6]),(16,[1,3,7])]
inductive G9 where
 |h5 (i3:Int) (i4:Int) (z0:zp [CP.d ab])
 |h11 (i3:Int) (i6:Int) (z0:zp [CP.d ab])
 |h16 (i3:Int) (i7:Int) (z0:zp [CP.d ab])
abbrev zwL:G9->Nat×St
 |.h5 i h z=>(5,⟨tm 139 [(1,Qf 0 0),(3,L i),(4,L h)],[Qa (bL [] [CP.d ab] z)]⟩)
 |.h11 i x z=>(11,⟨tm 139 [(1,Qf 0 0),(3,L i),(6,L x)],[Qa (bL [] [CP.d ab] z)]⟩)
 |.h16 i a z=>(16,⟨tm 139 [(1,Qf 0 0),(3,L i),(7,L a)],[Qa (bL [] [CP.d ab] z)]⟩)
def zmJ(x:al):Tr (G9⊕aw):=
 let a:=(X x.2.1:Int)
 let h:=T (a<1)
 let b:=T (a>8)
 let c:=T (x.q.1<0)
 let d:=T (x.q.1>=a)
 let g:=Y x.2.1 (Z x.q.1) (Q zn)
 K
 (eF x.1&&
  bif !cf x.1 then O
  else bif h then O else bif b then O else bif c then O else bif d then O else zL x.q.1 (X x.2.1))
 (br (cond (!cf x.1) O (cond h O (cond b O (cond c O (cond d O (!g.q))))))
  (re (kb S) []) (Q9 (G9.h5 a 0 (x,()))))
def ut:G9->Tr (G9⊕aw)
 | .h5 i c z=>
  let a:=Y z.1.2.1 c.toNat (Q zn)
  let x:=!cf a.1
  let h:=T (a.2.1<1)
  let b:=T (a.2.1>3)
  br (T (c<i))
  (K (zL c (X z.1.2.1))
   (K (eF a.1&&bif x then O else bif h then O else bif b then O else fw z.1.2.1 a.1) (br (cond x O (cond h O (cond b O (gY z.1.2.1 a.1!=c)))) (re (kb S) []) (Q9 (G9.h5 i (Γ Δ (c+1)) z)))))
  (Q9 (G9.h11 i 0 z))
 | .h11 i d z=>
  let a:=(X z.1.r.1:Int)
  let x:=zL d (X z.1.r.1)
  let h:=Y z.1.r.1 d.toNat (Q zk)
  let b:=T (h<0)
  br (T (d<a))
  (K (x&&bif b then O else x)
   (br (cond b O (T (h>=i))) (re (kb S) []) (Q9 (G9.h11 i (Γ Δ (d+1)) z))))
  (Q9 (G9.h16 i 0 z))
 | .h16 i g z=>
  let a:=(X z.1.t.1:Int)
  let x:=zL g (X z.1.t.1)
  let h:=Y z.1.t.1 g.toNat (Q zG)
  let b:=T (h.1<0)
  let j:=T (h.1>=i)
  let k:=zt z.1.u
  br (T (g<a))
  (K (x&&bif b then O else x&&bif j then O else x&&eF h.2)
   (br (cond b O (cond j O (!cf h.2))) (re (kb S) []) (Q9 (G9.h16 i (Γ Δ (g+1)) z))))
  (K (FV k z.1.2.1) (re (AV.bool (Lk k z.1.2.1==0)) []))
def Li(x:al):=ap [Q7] ut 100000000 (zmJ x)
def AT(x:al):=(Li x).isSome
def Jr(x:al):=o1 (Li x)
def zpT:=FT [ab] [Q7] λx=>Li x.1
theorem zkH:FK 97 zpT:=vA.T1 (f:=Tryz.f97) (keep:=ztV) (e:=zwL)
def Yt:=Km.addL [(106,zgh),(97,zpT)]
theorem mq:zw Yt:=vA.addL<|fc zch<|fc zkH jg
abbrev ztX:=kS [(4,[1,2,5]),(9,[1,2,6])]
inductive JX where
 |h4 (l1:LV) (i5:Int) (z0:zp [CP.d ab])
 |h9 (l1:LV) (i6:Int) (z0:zp [CP.d ab])
abbrev zwN:JX->Nat×St
 |.h4 l i z=>(4,⟨tm 83 [(1,N R l),(2,Qf 0 0),(5,L i)],[Qa (bL [] [CP.d ab] z)]⟩)
 |.h9 l h z=>(9,⟨tm 83 [(1,N R l),(2,Qf 0 0),(6,L h)],[Qa (bL [] [CP.d ab] z)]⟩)
def zmK(x:al)(h:J ze.sl):Tr (JX⊕aw):=
 let a:=(x.1,x.2.1,x.q.1,x.r.1,x.t.1,zt x.u)
 K (AT a)
 (br (cond (!Jr a) O ((X h:Int)!=(X x.2.1:Int))) (re (L 1) [])
  (Q9 (JX.h4 h 0 (x,()))))
def GN:JX->Tr (JX⊕aw)
 | .h4 l h z=>
  let a:=l.getD h.toNat (Q R)
  br (T (h<(X l:Int)))
  (K (zL h (X l)) (K (nV a) (br (!uS a) (re (L 1) []) (Q9 (JX.h4 l (Γ Δ (h+1)) z)))))
  (Q9 (JX.h9 l 0 z))
 | .h9 l i z=>
  let a:=l.getD i.toNat (Q R)
  let x:=a.1==0
  let b:=zL i (X z.1.2.1)
  let c:=Y z.1.2.1 i.toNat (Q zn)
  let d:=a.1!=0
  let g:=!zg.op z.1.u==[]
  let j:=zt z.1.u
  let k:=La j z.1.2.1 l
  br (T (i<(X l:Int)))
  (K (zL i (X l)&&bif x then b else O)
   (br (cond x c.q S) (re (L 8) []) (K (zL i (X l)&&bif d then zL i (X l)&&b else O) (br (cond d (a.1!=c.2.1) S) (re (L 5) []) (Q9 (JX.h9 l (Γ Δ (i+1)) z))))))
  (K (cond g (CU j z.1.2.1 l&&oV k S) O)
   (br (cond g (rW k S) S) (re (L 9) []) (re (L 0) [])))
def C0(x:al)(h:J ze.sl):=ap [zk] GN 100000000 (zmK x h)
def Lh(x:al)(h:J ze.sl):=(C0 x h).isSome
def RR(x:al)(h:J ze.sl):=o1 (C0 x h)
def zpV:=FT [ab,ze.sl] [zk] λx=>C0 x.1 x.2.1
theorem zkJ:FK 45 zpV:=mq.T1 (f:=Tryz.f45) (keep:=ztX) (e:=zwN)
abbrev ztY:=kS [(2,[0,1,5]),(5,[0,1,5,6])]
inductive MO where
 |h2 (l0:List (J ze.sl)) (i1:zy) (i5:Int)
 |h5 (l0:List (J ze.sl)) (i1:zy) (i5:Int) (i6:Int)
abbrev zwO:MO->Nat×St
 |.h2 l i h=>(2,⟨tm 44 [(0,N ze.sl l),(1,L i),(5,L h)],[]⟩)
 |.h5 l i h x=>(5,⟨tm 44 [(0,N ze.sl l),(1,L i),(5,L h),(6,L x)],[]⟩)
def zta(x:J ze.sl.sl)(h:zy):Tr (MO⊕aw):=
 Q9 (MO.h2 x h 0)
def Hx:MO->Tr (MO⊕aw)
 | .h2 l h i=>
  br (T (i<(X l:Int))) (Q9 (MO.h5 l h i 0)) (re (kb S) [])
 | .h5 l h i x=>
  let c:=l.getD i.toNat (Q ze.sl)
  let d:=zL h (X c)
  let a:=Y c (Z h) (Q R)
  let g:=a.1!=0
  let j:=l.getD x.toNat (Q ze.sl)
  let b:=Y j (Z h) (Q R)
  br (T (x<i))
  (K (zL i (X l)&&(d&&bif g then zL i (X l)&&(d&&(zL x (X l)&&zL h (X j)))else O))
   (br (cond g (a.1==b.1&&(a.2.1==b.2.1&&(a.q==b.q&&O))) S) (re (kb O) []) (Q9 (MO.h5 l h i (Γ Δ (x+1))))))
  (Q9 (MO.h2 l h (Γ Δ (i+1))))
def xD(x:J ze.sl.sl)(h:zy):=ap [Q7] Hx 100000000 (zta x h)
def o9(x:J ze.sl.sl)(h:zy):=(xD x h).isSome
def tO(x:J ze.sl.sl)(h:zy):=o1 (xD x h)
def zpW:=FT [ze.sl.sl,zk] [Q7] λx=>xD x.1 x.2.1
theorem zkK:FK 192 zpW:=mq.T1 (f:=Tryz.f192) (keep:=ztY) (e:=zwO)
def ztc(x:al)(h:J ze.sl):Tr (Empty⊕aw):=
 let b:=(x.1,x.2.1,x.q.1,x.r.1,x.t.1,zt x.u)
 let a:=Y h (Z x.q.1) (Q R)
 K (AT b)
 (br (cond (Jr b) (T (x.q.1<(X h:Int))) S)
  (K (zL x.q.1 (X h)) (re (agg [L a.1,L a.2.1,I a.q]) []))
  (re (agg [L 0,L 0,I []]) []))
def FY(x:al)(h:J ze.sl):=ap [R] t0 100000000 (ztc x h)
def AU(x:al)(h:J ze.sl):=(FY x h).isSome
def Jt(x:al)(h:J ze.sl):=o1 (FY x h)
def zpY:=FT [ab,ze.sl] [R] λx=>FY x.1 x.2.1
theorem zkN:FK 38 zpY:=mq.T1 (f:=Tryz.f38) (keep:=k0) (e:=e0)
abbrev ztZ:=kS [(2,[2,3,5])]
inductive UV where
 |h2 (i5:Int) (z0:zp [CP.d zl]) (z1:zp [CP.d R])
abbrev zwP:UV->Nat×St
 |.h2 i z h=>(2,⟨tm 43 [(2,Qf 0 0),(3,Qf 1 0),(5,L i)],[Qa (bL [] [CP.d zl] z),Qa (bL [] [CP.d R] h)]⟩)
def ztd(x:ae)(h:zq):Tr (UV⊕aw):=
 Q9 (UV.h2 0 (x,()) (h,()))
def zbM:UV->Tr (UV⊕aw)
 | .h2 i z h=>
  let j:=(X z.1.2:Int)
  let b:=T (i<j)
  let c:=(z.1.1.1,z.1.1.2.1,z.1.1.q.1,z.1.1.r.1,z.1.1.t.1,zt z.1.1.u)
  let d:=zL i (X z.1.2)
  let a:=Y z.1.2 i.toNat (Q ze.sl)
  let k:=(X a:Int)
  let g:=T (z.1.1.q.1<k)
  let x:=Y a (Z z.1.1.q.1) (Q R)
  K (cond b (AT c) O)
  (br (cond b (Jr c) S)
   (K (d&&bif g then d&&zL z.1.1.q.1 (X a)else O) (br (cond g (x.1==h.1.1&&(x.2.1==h.1.2.1&&(x.q==h.1.q&&O))) S) (re (L i) []) (Q9 (UV.h2 (Γ Δ (i+1)) z h))))
   (re (L (-1)) []))
def C3(x:ae)(h:zq):=ap [zk] zbM 100000000 (ztd x h)
def Ln(x:ae)(h:zq):=(C3 x h).isSome
def RU(x:ae)(h:zq):=o1 (C3 x h)
def zpZ:=FT [zl,R] [zk] λx=>C3 x.1 x.2.1
theorem zkO:FK 103 zpZ:=mq.T1 (f:=Tryz.f103) (keep:=ztZ) (e:=zwP)
def Yu:=Yt.addL [(45,zpV),(192,zpW),(38,zpY),(103,zpZ)]
theorem vB:zw Yu:=mq.addL<|fc zkJ<|fc zkK<|fc zkN<|fc zkO jg
abbrev ztx:=kS [(6,[1,3]),(14,[1,5]),(19,[1,6])]
inductive G5 where
 |h6 (i3:Int) (z0:zp [CP.d zl])
 |h14 (i5:Int) (z0:zp [CP.d zl])
 |h19 (i6:Int) (z0:zp [CP.d zl])
abbrev zwv:G5->Nat×St
 |.h6 i z=>(6,⟨tm 82 [(1,Qf 0 0),(3,L i)],[Qa (bL [] [CP.d zl] z)]⟩)
 |.h14 h z=>(14,⟨tm 82 [(1,Qf 0 0),(5,L h)],[Qa (bL [] [CP.d zl] z)]⟩)
 |.h19 x z=>(19,⟨tm 82 [(1,Qf 0 0),(6,L x)],[Qa (bL [] [CP.d zl] z)]⟩)
def Zr(x:ae):Tr (G5⊕aw):=
 let a:=(x.1.1,x.1.2.1,x.1.q.1,x.1.r.1,x.1.t.1,zt x.1.u)
 K (AT a)
 (br (!Jr a) (re (L 1) [])
  (br (T ((X x.2:Int)>200)) (re (L 13) []) (Q9 (G5.h6 0 (x,())))))
def sx:G5->Tr (G5⊕aw)
 | .h6 c z=>
  let x:=(X z.1.2:Int)
  let a:=(z.1.1.1,z.1.1.2.1,z.1.1.q.1,z.1.1.r.1,z.1.1.t.1,zt z.1.1.u)
  let h:=Y z.1.2 c.toNat (Q ze.sl)
  let b:=RR a h
  br (T (c<x))
  (K (zL c (X z.1.2))
   (K (Lh a h) (br (b !=0) (re (L b) []) (Q9 (G5.h6 (Γ Δ (c+1)) z)))))
  (K (o9 z.1.2 z.1.1.q.1)
   (br (tO z.1.2 z.1.1.q.1) (re (L 7) []) (Q9 (G5.h14 0 z))))
 | .h14 d z=>
  let x:=(X z.1.1.r.1:Int)
  let a:=Y z.1.1.r.1 d.toNat (Q zk)
  br (T (d<x))
  (K (zL d (X z.1.1.r.1))
   (K (o9 z.1.2 a) (br (tO z.1.2 a) (re (L 7) []) (Q9 (G5.h14 (Γ Δ (d+1)) z)))))
  (Q9 (G5.h19 1 z))
 | .h19 i z=>
  let x:=(X z.1.2:Int)
  let a:=Γ Δ (i-1)
  let h:=(z.1.1.1,z.1.1.2.1,z.1.1.q.1,z.1.1.r.1,z.1.1.t.1,zt z.1.1.u)
  let b:=Y z.1.2 a.toNat (Q ze.sl)
  let g:=Y z.1.2 i.toNat (Q ze.sl)
  let j:=Jt h b
  let k:=Jt h g
  let l:=CQ j k
  br (T (i<x))
  (K (zL a (X z.1.2))
   (K (AU h b) (K (zL i (X z.1.2)) (K (AU h g) (K (xw j k) (br (T (l>0)) (re (L 15) []) (Q9 (G5.h19 (Γ Δ (i+1)) z))))))))
  (re (L 0) [])
def o7(x:ae):=ap [zk] sx 100000000 (Zr x)
def FX(x:ae):=(o7 x).isSome
def Ll(x:ae):=o1 (o7 x)
def zpn:=FT [zl] [zk] λx=>o7 x.1
theorem zj7:FK 126 zpn:=vB.T1 (f:=Tryz.f126) (keep:=ztx) (e:=zwv)
abbrev ztz:=kS [(2,[0,3]),(5,[0,3,4]),(12,[0,3,4,5,6,7])]
inductive G6 where
 |h2 (l0:zS) (i3:Int)
 |h5 (l0:zS) (i3:Int) (i4:Int)
 |h12 (l0:zS) (i3:Int) (i4:Int) (i6:zy) (i7:Int) (z0:zp [CP.d zG])
abbrev zwx:G6->Nat×St
 |.h2 l i=>(2,⟨tm 75 [(0,N zl l),(3,L i)],[]⟩)
 |.h5 l i h=>(5,⟨tm 75 [(0,N zl l),(3,L i),(4,L h)],[]⟩)
 |.h12 l i h x a z=>(12,⟨tm 75 [(0,N zl l),(3,L i),(4,L h),(5,Qf 0 0),(6,L x),(7,L a)],[Qa (bL [] [CP.d zG] z)]⟩)
def zs4(x:J zl.sl):Tr (G6⊕aw):=
 Q9 (G6.h2 x 0)
def up:G6->Tr (G6⊕aw)
 | .h2 l i=>
  br (T (i<(X l:Int))) (Q9 (G6.h5 l i 0)) (re (kb O) [])
 | .h5 l i x=>
  let a:=l.getD i.toNat (Q zl)
  let g:=(X a.1.t.1:Int)
  let c:=Y a.1.t.1 x.toNat (Q zG)
  let b:=mJ l c.2
  K (zL i (X l))
  (br (T (x<g))
   (K (zL i (X l)) (K (zL x (X a.1.t.1)) (br (T (b<0)) (re (kb S) []) (Q9 (G6.h12 l i x b 0 (c,()))))))
   (Q9 (G6.h2 l (Γ Δ (i+1)))))
 | .h12 l i x j d z=>
  let a:=l.getD i.toNat (Q zl)
  let g:=(X a.2:Int)
  let c:=Y a.2 d.toNat (Q ze.sl)
  let b:=Y c (Z z.1.1) (Q R)
  let k:=b.1!=0
  let h:=l.getD (Z j) (Q zl)
  let m:=((h.1.1,h.1.2.1,h.1.q.1,h.1.r.1,h.1.t.1,zt h.1.u),h.2)
  let n:=RU m b
  K (zL i (X l))
  (br (T (d<g))
   (K (zL i (X l)) (K (zL d (X a.2)) (K (zL z.1.1 (X c)) (K (cond k (zL j (X l)&&Ln m b) O) (br (cond k (T (n<0)) S) (re (kb S) []) (Q9 (G6.h12 l i x j (Γ Δ (d+1)) z)))))))
   (Q9 (G6.h5 l i (Γ Δ (x+1)))))
def xG(x:J zl.sl):=ap [Q7] up 100000000 (zs4 x)
def FZ(x:J zl.sl):=(xG x).isSome
def Lr(x:J zl.sl):=o1 (xG x)
def zpp:=FT [zl.sl] [Q7] λx=>xG x.1
theorem zj9:FK 127 zpp:=vB.T1 (f:=Tryz.f127) (keep:=ztz) (e:=zwx)
def Yv:=Yu.addL [(126,zpn),(127,zpp)]
theorem Eb:zw Yv:=vB.addL<|fc zj7<|fc zj9 jg
abbrev zyv:=kS [(4,[0,3]),(9,[0,4])]
inductive H9p where
 |h4 (l0:zS) (i3:Int)
 |h9 (l0:zS) (i4:Int)
abbrev e9p:H9p->Nat×St
 |.h4 l i=>(4,⟨tm 46 [(0,N zl l),(3,L i)],[]⟩)
 |.h9 l h=>(9,⟨tm 46 [(0,N zl l),(4,L h)],[]⟩)
def i9p(x:J zl.sl):Tr (H9p⊕aw):=
 br (T ((X x:Int)>12)) (re (L 13) []) (Q9 (H9p.h4 x 1))
def t9p:H9p->Tr (H9p⊕aw)
 | .h4 l i=>
  let a:=Γ Δ (i-1)
  let h:=l.getD a.toNat (Q zl)
  let x:=l.getD i.toNat (Q zl)
  br (T (i<(X l:Int)))
  (K (zL a (X l))
   (K (zL i (X l)) (br (!Op.bytesLess h.1.1 x.1.1) (re (L 15) []) (Q9 (H9p.h4 l (Γ Δ (i+1)))))))
  (Q9 (H9p.h9 l 0))
 | .h9 l b=>
  let a:=l.getD b.toNat (Q zl)
  let h:=((a.1.1,a.1.2.1,a.1.q.1,a.1.r.1,a.1.t.1,zt a.1.u),a.2)
  let x:=Ll h
  br (T (b<(X l:Int)))
  (K (zL b (X l)) (K (FX h) (br (x !=0) (re (L x) []) (Q9 (H9p.h9 l (Γ Δ (b+1)))))))
  (K (FZ l) (br (!Lr l) (re (L 10) []) (re (L 0) [])))
def sb(x:J zl.sl):=ap [zk] t9p 100000000 (i9p x)
def F0(x:J zl.sl):=(sb x).isSome
def Lt(x:J zl.sl):=o1 (sb x)
def F9p:=FT [zl.sl] [zk] λx=>sb x.1
theorem zrH:FK 59 F9p:=Eb.T1 (f:=Tryz.f59) (keep:=zyv) (e:=e9p)
def Yw:=Yv.add 59 F9p
theorem pG:zw Yw:=Eb.add zrH
abbrev ztP:=kS [(4,[0,1,12,13])]
inductive UT where
 |h4 (l0:ee) (l1:ee) (i12:Int) (i13:Int)
abbrev zwJ:UT->Nat×St
 |.h4 l x i h=>(4,⟨tm 26 [(0,N zk l),(1,N zk x),(12,L i),(13,L h)],[]⟩)
def zeL(x h:J zk.sl):Tr (UT⊕aw):=
 br ((X x:Int)!=(X h:Int)) (re (kb S) []) (Q9 (UT.h4 x h (X x:Int) 0))
def zvM:UT->Tr (UT⊕aw)
 | .h4 l x h i=>
  br (T (i<h))
  (K (zL i (X l))
   (K (zL i (X x)) (br (l.getD i.toNat (Q zk)!=x.getD i.toNat (Q zk)) (re (kb S) []) (Q9 (UT.h4 l x h (Γ Δ (i+1)))))))
  (re (kb O) [])
def L7(x h:J zk.sl):=ap [Q7] zvM 100000000 (zeL x h)
def L6(x h:J zk.sl):=(L7 x h).isSome
def qM(x h:J zk.sl):=o1 (L7 x h)
def zpM:=FT [zk.sl,zk.sl] [Q7] λx=>L7 x.1 x.2.1
theorem zkx:FK 150 zpM:=pG.T1 (f:=Tryz.f150) (keep:=ztP) (e:=zwJ)
abbrev zuf:=kS [(4,[0,1,12,13])]
inductive UZ where
 |h4 (l0:aT) (l1:aT) (i12:Int) (i13:Int)
abbrev zw2:UZ->Nat×St
 |.h4 l x i h=>(4,⟨tm 26 [(0,N zn l),(1,N zn x),(12,L i),(13,L h)],[]⟩)
def zeR(x h:J zn.sl):Tr (UZ⊕aw):=
 br ((X x:Int)!=(X h:Int)) (re (kb S) []) (Q9 (UZ.h4 x h (X x:Int) 0))
def zvN:UZ->Tr (UZ⊕aw)
 | .h4 l b h i=>
  let a:=l.getD i.toNat (Q zn)
  let x:=b.getD i.toNat (Q zn)
  br (T (i<h))
  (K (zL i (X l))
   (K (zL i (X b)) (br (!(a.1==x.1&&(a.2.1==x.2.1&&(a.q==x.q&&O)))) (re (kb S) []) (Q9 (UZ.h4 l b h (Γ Δ (i+1)))))))
  (re (kb O) [])
def L4(x h:J zn.sl):=ap [Q7] zvN 100000000 (zeR x h)
def Sb(x h:J zn.sl):=(L4 x h).isSome
def B2(x h:J zn.sl):=o1 (L4 x h)
def zql:=FT [zn.sl,zn.sl] [Q7] λx=>L4 x.1 x.2.1
theorem zk9:FK 209 zql:=pG.T1 (f:=Tryz.f209) (keep:=zuf) (e:=zw2)
abbrev zug:=kS [(4,[0,1,12,13])]
inductive U5 where
 |h4 (l0:dK) (l1:dK) (i12:Int) (i13:Int)
abbrev zw3:U5->Nat×St
 |.h4 l x i h=>(4,⟨tm 26 [(0,N zG l),(1,N zG x),(12,L i),(13,L h)],[]⟩)
def zeS(x h:J zG.sl):Tr (U5⊕aw):=
 br ((X x:Int)!=(X h:Int)) (re (kb S) []) (Q9 (U5.h4 x h (X x:Int) 0))
def zvO:U5->Tr (U5⊕aw)
 | .h4 l x h i=>
  let a:=l.getD i.toNat (Q zG)
  let b:=x.getD i.toNat (Q zG)
  br (T (i<h))
  (K (zL i (X l))
   (K (zL i (X x)) (br (!(a.1==b.1&&(a.2==b.2&&O))) (re (kb S) []) (Q9 (U5.h4 l x h (Γ Δ (i+1)))))))
  (re (kb O) [])
def L5(x h:J zG.sl):=ap [Q7] zvO 100000000 (zeS x h)
def Sc(x h:J zG.sl):=(L5 x h).isSome
def B3(x h:J zG.sl):=o1 (L5 x h)
def zqm:=FT [zG.sl,zG.sl] [Q7] λx=>L5 x.1 x.2.1
theorem zla:FK 210 zqm:=pG.T1 (f:=Tryz.f210) (keep:=zug) (e:=zw3)
def Yz:=Yw.addL [(150,zpM),(209,zql),(210,zqm)]
theorem Ee:zw Yz:=pG.addL<|fc zkx<|fc zk9<|fc zla jg
def zs9(x h:al):Tr (Empty⊕aw):=
 let a:=x.1==h.1
 let b:=x.q.1==h.q.1
 let c:=B2 x.2.1 h.2.1
 let d:=qM x.r.1 h.r.1
 let g:=B3 x.t.1 h.t.1
 let i:=zt x.u
 let j:=zt h.u
 K
 (bif a then
  bif b then Sb x.2.1 h.2.1&&bif c then L6 x.r.1 h.r.1&&bif d then Sc x.t.1 h.t.1&&bif g then lm 16 i j else O else O else O
  else O
 else O)
 (re (AV.bool (cond a (cond b (cond c (cond d (cond g (gN 16 i j) S) S) S) S) S)) [])
def Mq(x h:al):=ap [Q7] t0 100000000 (zs9 x h)
def Mp(x h:al):=(Mq x h).isSome
def uW(x h:al):=o1 (Mq x h)
def zpL:=FT [ab,ab] [Q7] λx=>Mq x.1 x.2.1
theorem zkw:FK 149 zpL:=Ee.T1 (f:=Tryz.f149) (keep:=k0) (e:=e0)
def YA:=Yz.add 149 zpL
theorem QE:zw YA:=Ee.add zkw
def zl5:cu:={zei with own:=O}
theorem QH:zw zl5:=⟨⟨wM.sh⟩,wM.fs,wM.mix⟩
def zmw(x:aA):Tr (Empty⊕aw):=
 let a:=[x.2.1]
 let h:=[x.q.1]
 br (!x.q.1==[]) (K (T (X a+X h<=1073741824)) (re (AV.vec 0) [AO.vec Sh.str (a++h)]))
 (re (AV.vec 0) [AO.vec Sh.str a])
def nD(x:aA):=ap [Sh.str.sl] t0 100000000 (zmw x)
def kL(x:aA):=(nD x).isSome
def mD(x:aA):=o1 (nD x)
def zjn:=FT [ar] [Sh.str.sl] λx=>nD x.1
theorem zjV:FK 60 zjn:=QH.T1 (f:=Tryz.f60) (keep:=k0) (e:=e0)
theorem zjW:FK 60 zjn:=zjV
def YB:=YA.add 60 zjn
theorem vC:zw YB:=QE.add zjW
abbrev lc:List CP:=[.d .str,.d .str,.d .str,.d .str,.nil,.d zk,.nil,.nil,.d .str,.d zk,.d zk,.d .str,.d .str,.nil,.nil,.d zk]
abbrev Ng:List CP:=[.d .str,.d .str,.d .str,.d .str,.nil,.d zk,.nil,.nil,.d .expr,.nil,.d zk]
abbrev Vs:List CP:=[.d .str,.d .str,.d .str,.d .str,.vec zn,.d zk,.nil,.nil,.d .expr,.d (.sl zk),.d zk]
abbrev zl2:List CP:=[.d .str,.d .str,.d .str,.d .str,.d (.sl zn),.d zk,.nil,.nil,.d .expr,.d (.sl zk),.d zk]
abbrev X5:List CP:=[.d .str,.d .str,.d .str,.d .str,.vec zn,.d zk,.nil,.nil,.d .expr,.vec zk,.d zk]
def zsX(x h:aA):Tr (Empty⊕aw):=
 let a:=x.1==h.1
 let b:=x.2.1==h.2.1
 let c:=x.q.1==h.q.1
 let d:=x.u==h.u
 let g:=(x.r.1.1,x.r.1.2.1,x.r.1.q.1,x.r.1.r.1,x.r.1.t.1,zt x.r.1.u)
 let i:=(h.r.1.1,h.r.1.2.1,h.r.1.q.1,h.r.1.r.1,h.r.1.t.1,zt h.r.1.u)
 let j:=uW g i
 K
 (bif a then
  bif b then bif c then bif d then Mp g i&&bif j then L6 x.t.1 h.t.1 else O else O else O else O
 else O)
 (re
  (AV.bool (cond a (cond b (cond c (cond d (cond j (qM x.t.1 h.t.1) S) S) S) S) S))
  [])
def KW(x h:aA):=ap [Q7] t0 100000000 (zsX x h)
def KV(x h:aA):=(KW x h).isSome
def OG(x h:aA):=o1 (KW x h)
def zpc:=FT [ar,ar] [Q7] λx=>KW x.1 x.2.1
theorem zjS:FK 86 zpc:=vC.T1 (f:=Tryz.f86) (keep:=k0) (e:=e0)
abbrev zPl:AV:=.agg [I [],I [],I [],I [],Qb,L 0,Qb,Qb,I [],L 0,L 0,I [],I [],Qb,Qb,L 0]
abbrev rE{h:Type}(e:Int):Tr (h⊕aw):=.re (.tup [zPl,L e]) []
abbrev ztp:Nat->aX:=λj=>if j=7 then{slots:=[0,3,4,8,9,10]}else if j=24 then{slots:=[3,4,8,11,13],prom:=[(8,M 4,zn)]}else if j=38 then{slots:=[3,4,8,11,14,15,16]}else if j=48 then{slots:=[3,4,8,14,17],prom:=[(8,M 14,.int .i64)]}else if j=64 then{slots:=[3,4,8,20]}else{ }
inductive mc where
 |h7 (l0:zS) (l9:List (J Sh.str)) (i10:Int) (z0:zp [CP.d ay]) (z1:zp lc) (z2:zp Ng)
 |h24 (i13:Int) (z0:zp [CP.d ay]) (z1:zp lc) (z2:zp Vs) (z3:zp [CP.d ab])
 |h38 (i16:Int) (z0:zp [CP.d ay]) (z1:zp lc) (z2:zp Ng) (z3:zp [CP.d ab]) (z4:zp [CP.d ab])
 |h64 (i20:Int) (z0:zp [CP.d ay]) (z1:zp lc) (z2:zp zl2)
 |h64b (i20:Int) (z0:zp [CP.d ay]) (z1:zp lc) (z2:zp Ng)
 |h64bb (i20:Int) (z0:zp [CP.d ay]) (z1:zp lc) (z2:zp Vs)
 |h38b (b15:Bool) (i16:Int) (z0:zp [CP.d ay]) (z1:zp lc) (z2:zp Ng) (z3:zp [CP.d ab]) (z4:zp [CP.d ab])
 |h48 (i17:Int) (z0:zp [CP.d ay]) (z1:zp lc) (z2:zp X5) (z3:zp [CP.d ab])
 |h64bbb (i20:Int) (z0:zp [CP.d ay]) (z1:zp lc) (z2:zp X5)
abbrev zwp:mc->Nat×St
 |.h7 m n g h x z=>(7,⟨tm 339 [(0,N zl m),(3,Qf 0 0),(4,Qf 1 0),(8,Qf 2 0),(9,N Sh.str n),(10,L g)],[Qa (bL [] [CP.d ay] h),Qa (bL [] lc x),Qa (bL [] Ng z)]⟩)
 |.h24 j h x z b=>(24,⟨tm 339 [(3,Qf 0 0),(4,Qf 1 0),(8,Qf 2 0),(11,Qf 3 0),(13,L j)],[Qa (bL [] [CP.d ay] h),Qa (bL [] lc x),Qa (bL [4] Vs z),Qa (bL [] [CP.d ab] b),AO.vec zn z.t.1]⟩)
 |.h38 a h x z b l=>(38,⟨tm 339 [(3,Qf 0 0),(4,Qf 1 0),(8,Qf 2 0),(11,Qf 3 0),(14,Qf 4 0),(15,kb S),(16,L a)],[Qa (bL [] [CP.d ay] h),Qa (bL [] lc x),Qa (bL [] Ng z),Qa (bL [] [CP.d ab] b),Qa (bL [] [CP.d ab] l)]⟩)
 |.h64 i h x z=>(64,⟨tm 339 [(3,Qf 0 0),(4,Qf 1 0),(8,Qf 2 0),(20,L i)],[Qa (bL [] [CP.d ay] h),Qa (bL [] lc x),Qa (bL [] zl2 z)]⟩)
 |.h64b i h x z=>(64,⟨tm 339 [(3,Qf 0 0),(4,Qf 1 0),(8,Qf 2 0),(20,L i)],[Qa (bL [] [CP.d ay] h),Qa (bL [] lc x),Qa (bL [] Ng z)]⟩)
 |.h64bb i h x z=>(64,⟨tm 339 [(3,Qf 0 0),(4,Qf 1 0),(8,Qf 2 0),(20,L i)],[Qa (bL [] [CP.d ay] h),Qa (bL [] lc x),Qa (bL [3] Vs z),AO.vec zn z.t.1]⟩)
 |.h38b c a h x z b l=>(38,⟨tm 339 [(3,Qf 0 0),(4,Qf 1 0),(8,Qf 2 0),(11,Qf 3 0),(14,Qf 4 0),(15,AV.bool c),(16,L a)],[Qa (bL [] [CP.d ay] h),Qa (bL [] lc x),Qa (bL [] Ng z),Qa (bL [] [CP.d ab] b),Qa (bL [] [CP.d ab] l)]⟩)
 |.h48 k h x z b=>(48,⟨tm 339 [(3,Qf 0 0),(4,Qf 1 0),(8,Qf 2 0),(14,Qf 3 0),(17,L k)],[Qa (bL [] [CP.d ay] h),Qa (bL [] lc x),Qa (bL [4,5] X5 z),Qa (bL [] [CP.d ab] b),AO.vec zn z.t.1,AO.vec zk z.w.1]⟩)
 |.h64bbb i h x z=>(64,⟨tm 339 [(3,Qf 0 0),(4,Qf 1 0),(8,Qf 2 0),(20,L i)],[Qa (bL [] [CP.d ay] h),Qa (bL [] lc x),Qa (bL [3,4] X5 z),AO.vec zn z.t.1,AO.vec zk z.w.1]⟩)
def V1(a:J zl.sl)(h:zO):Tr (mc⊕aw):=
 let b:=zt h.x.1
 let c:=(h.1,h.2.1,h.q.1,h.r.1,h.t.1,h.u.1,h.v.1,h.w.1,b,h.y.1,h.z.1,zt h.s.1,h.p)
 let i:=mI c
 let d:=!i.2
 let g:=(h.1,h.q.1,h.p,(h.2.1,[],0,[],[],b),[],0)
 K (jA c)
 (K (cond d O (F0 a))
  (br (cond d O (cond (Lt a !=0) O (cond (!h.1==dI) (cond (!h.1==ic) (!h.1==qD) S) S))) (rE 1) (K (kL g) (Q9 (mc.h7 a (mD g) 0 (h,()) ([],[],[],[],0,[],0,0,[],[],0,()) (h.1,h.q.1,h.p,h.2.1,0,h.x.1,0,()))))))
def eC:mc->Tr (mc⊕aw)
 | .h7 o C s h d z=>
  let k:=mJ o (C.getD s.toNat (Q Sh.str))
  let b:=mJ o h.1.2.1
  let g:=mJ o h.1.q.1
  let a:=o.getD (Z g) (Q zl)
  let A:=pY a.1.2.1 h.1.r.1
  let m:=tr a.1.2.1 h.1.r.1
  let P:=m.2!=0
  let a7:=(z.u.1,m.1,z.v)
  let a8:=(a.1,())
  let a9:=mJ o h.1.p
  let D:=gY a.1.2.1 h.1.u.1
  let h0:=o.getD (Z a9) (Q zl)
  let E:=Y m.1 (Z 0) (Q zk)
  let F:=Y m.1 (Z 1) (Q zk)
  let y:=Y a.1.2.1 (Z F) (Q zn)
  let H:=Y a.1.2.1 (Z E) (Q zn)
  br (T (s<(X C:Int)))
  (K (zL s (X C)) (br (T (k<0)) (rE 6) (Q9 (mc.h7 o C (Γ Δ (s+1)) h d z))))
  (br (cond (T (b>=0)) O (h.1.q.1==h.1.p)) (rE 7) (K (vU o C) (br (AP o C) (rE 10) (K (zL g (X o)) (br (h.1.1==dI) (K A (br P (rE m.2) (Q9 (mc.h24 0 h d (z.1,z.2.1,z.q.1,z.r.1,[],-1,a7) a8)))) (br (h.1.1==ic) (K (zL a9 (X o))
  (K (fw a.1.2.1 h.1.u.1) (br (T (D<0)) (rE 4) (Q9
  (mc.h38 0 h d (z.1,z.2.1,z.q.1,z.r.1,z.t.1,z.u.1,D,()) a8 (h0.1,())))))) (br (h.1.1==qD) (K A (br P (rE m.2) (K (zL 0 (X m.1)) (K (zL E (X a.1.2.1)) (K (zL 1 (X m.1)) (K (zL F (X a.1.2.1)) (br (y.2.1!=1) (rE 5) (Q9 (mc.h64 0 h d (z.1,z.2.1,z.q.1,z.r.1,[(H.1,H.2.1,O),(y.1,y.2.1,S)],z.t.1,a7)))))))))) (Q9 (mc.h64b 0 h d z)))))))))
 | .h24 n h d z c=>
  let k:=(X z.w.1:Int)
  let b:=zL n (X z.w.1)
  let g:=Y z.w.1 n.toNat (Q zk)
  let a:=zL g (X c.1.2.1)
  let A:=[Y c.1.2.1 (Z g) (Q zn)]
  let m:=T (X z.t.1+X A<=1073741824)
  let P:=Γ Δ (n+1)
  let a7:=z.t.1++A
  br (T (n<k))
  (K b (br (g==c.1.q.1) (K b (K a (K m (Q9 (mc.h24 P h d (z.1,z.2.1,z.q.1,z.r.1,a7,n,z.v) c))))) (K b (K a (K m (Q9 (mc.h24 P h d (z.1,z.2.1,z.q.1,z.r.1,a7,z.u) c)))))))
  (br (T (z.u.1<0)) (rE 1) (Q9 (mc.h64bb 0 h d z)))
 | .h38 j h d z c z4=>
  let k:=(X c.1.t.1:Int)
  let b:=zL j (X c.1.t.1)
  let g:=Y c.1.t.1 j.toNat (Q zG)
  let a:=g.1==z.v.1
  br (T (j<k))
  (K (b&&bif a then b else O) (Q9 (mc.h38b (cond a (g.2==h.1.p) S) (Γ Δ (j+1)) h d z c z4)))
  (rE 10)
 | .h64 i h d z=>
  let k:=(X z.t.1:Int)
  let b:=Y z.t.1 i.toNat (Q zn)
  let g:=zt h.1.x.1
  let a:=sa g z.t.1
  br (T (i<k))
  (K (zL i (X z.t.1)) (K (fw z.t.1 b.1) (br (gY z.t.1 b.1!=i) (rE 7)
  (Q9 (mc.h64 (Γ Δ (i+1)) h d z)))))
  (K (qj g z.t.1) (br (a !=0) (rE a) (re (tup [agg ([I z.1,I z.2.1,I z.q.1,I z.r.1,N zn z.t.1,L z.u.1,Qb,Qb]++xE z.v.1++[N zk z.w.1,L z.x.1]),L 0])
  [])))
 | .h64b i h _ z=>
  let k:=zt h.1.x.1
  let b:=sa k []
  br (T (i<0)) Tr.err
  (K (qj k []) (br (b !=0) (rE b) (re (tup [agg ([I z.1,I z.2.1,I z.q.1,I z.r.1,Qb,L z.t.1,Qb,Qb]++xE z.u.1++[Qb,L z.v.1]),
  L 0]) [])))
 | .h64bb i h d z=>
  let k:=(X z.t.1:Int)
  let b:=z.t.1.getD i.toNat (Q zn)
  let g:=zt h.1.x.1
  let a:=sa g z.t.1
  br (T (i<k))
  (K (zL i (X z.t.1)) (K (T (i.toNat<X z.t.1)) (K (fw z.t.1 b.1) (br (gY z.t.1 b.1!=i) (rE 7)
  (Q9 (mc.h64bb (Γ Δ (i+1)) h d z))))))
  (K (qj g z.t.1) (br (a !=0) (rE a) (re (tup [agg ([I z.1,I z.2.1,I z.q.1,I z.r.1,AV.vec 0,L z.u.1,Qb,Qb]++xE z.v.1++[N zk z.w.1,L z.x.1]),L 0]) [AO.vec zn z.t.1])))
 | .h38b B j h d z c z4=>
  let k:=(X c.1.t.1:Int)
  let b:=zL j (X c.1.t.1)
  let g:=Y c.1.t.1 j.toNat (Q zG)
  let a:=g.1==z.v.1
  let A:=Γ Δ ((X c.1.2.1:Int)+(X z4.1.2.1:Int))
  br (T (j<k))
  (K (cond B O (b&&bif a then b else O)) (Q9 (mc.h38b (cond B O (cond a (g.2==h.1.p) S)) (Γ Δ (j+1)) h d z c z4)))
  (br (!B) (rE 10) (br (T (A>9)) (rE 13) (K (T (X c.1.2.1<=1073741824)) (Q9 (mc.h48 0 h d (z.1,z.2.1,z.q.1,z.r.1,c.1.2.1,c.1.q.1,z.u.1,[],z.v) z4)))))
 | .h48 l h d z c=>
  let k:=(X c.1.2.1:Int)
  let b:=[Y c.1.2.1 l.toNat (Q zn)]
  let g:=Γ Δ (l+1)
  br (T (l<k))
  (br (l !=c.1.q.1) (K (T (X z.w.1+[l].length<=1073741824)) (K (zL l (X c.1.2.1)) (K (T (X z.t.1+X b<=1073741824)) (Q9 (mc.h48 g h d (z.1,z.2.1,z.q.1,z.r.1,z.t.1++b,z.u.1,z.v.1,z.w.1++[l],z.x) c)))))
  (Q9 (mc.h48 g h d z c)))
  (Q9 (mc.h64bbb 0 h d z))
 | .h64bbb i h d z=>
  let k:=(X z.t.1:Int)
  let b:=z.t.1.getD i.toNat (Q zn)
  let g:=zt h.1.x.1
  let a:=sa g z.t.1
  br (T (i<k))
  (K (zL i (X z.t.1)) (K (T (i.toNat<X z.t.1)) (K (fw z.t.1 b.1) (br (gY z.t.1 b.1!=i) (rE 7)
  (Q9 (mc.h64bbb (Γ Δ (i+1)) h d z))))))
  (K (qj g z.t.1) (br (a !=0) (rE a) (re (tup [agg ([I z.1,I z.2.1,I z.q.1,I z.r.1,AV.vec 0,L z.u.1,Qb,Qb]++xE z.v.1++[AV.vec 1,L z.x.1]),L 0]) [AO.vec zn z.t.1,AO.vec zk z.w.1])))
def FD(x:J zl.sl)(h:zO):=ap [ar,zk] eC 100000000 (V1 x h)
def K1(x:J zl.sl)(h:zO):=(FD x h).isSome
def T9(x:J zl.sl)(h:zO):=o2 (FD x h)
def zo8:=FT [zl.sl,ay] [ar,zk] λx=>FD x.1 x.2.1
theorem zjP:FK 27 zo8:=vC.T1 (f:=Tryz.f27) (keep:=ztp) (e:=zwp)
def Kn:=YB.addL [(86,zpc),(27,zo8)]
theorem QF:zw Kn:=vC.addL<|fc zjS<|fc zjP<|jg
open Go.RowKit Go.Lib in
theorem zdi:FK 83 (ac [.str,.str] [zk] (λ_=>O) λx=>(Lib.compareBytes x.1 x.2.1,())):=by
 refine fV (E:=Kn) ⟨Tryz.f83,kw,kw,kw⟩ λx A o d=>?_
 unfold gp at d;split at d
 .simp only[Tr.val,zj,bG]at d;subst d;have⟨s,t,u⟩:=x;intro C w U ρ v _ c k h j l;have m:=c.len
  match v,m,c with
  | [p,z],_,c=>
   have g:=c.rv 0 (.str s) p rfl rfl;have i:=c.rv 1 (.str t) z rfl rfl;cases g with
   |str _ B=>
   cases i with
   |str _ D=>
   refine(Tryz.strings_Compare ⟨s.toArray⟩ ⟨t.toArray⟩ w).mono ?_;rintro e F ⟨rfl,rfl⟩;refine fI k h j l (Below.refl _ _) (.int _ _ ?_);have:∀a b:List UInt8,-1<=Lib.compareBytes a b/\Lib.compareBytes a b<=1:=by
    intro a
    induction a with
    |nil=>intro b;cases b<;>simp[Lib.compareBytes]
    | cons x r n=>
     intro b;cases b with
     |nil=>simp[Lib.compareBytes]
     | cons y q=>
      unfold Lib.compareBytes;split
      .simp
      .split
       .simp
       .exact n q
   have⟨g,i⟩:=this s t;exact⟨Int.le_trans (by decide:(-9223372036854775808:Int)<=-1) g,Int.le_trans i (by decide:(1:Int)<=9223372036854775807)⟩
 .simp at d
def zpS:ag:=aU [.str,.str] [zk] λx=>(Lib.compareBytes x.1 x.2.1,())
theorem zkG:FK 83 zpS:=SI zdi
theorem ww:∀(f x:Nat),Lib.bitLenAux f x<=f
 |0,_=>zM _
 | f+1,x=>by
  unfold Lib.bitLenAux;split
  .omega
  .have:=ww f (x/2);omega
open Go.RowKit Go.Lib in
theorem zck:FK 152 (ac [.int .u64] [zk] (λx=>T (0<=x.1/\x.1<=1000000)) λx=>((Lib.bitLen x.1.toNat:Nat),())):=by
 refine fV (E:=Kn) ⟨Tryz.f152,kw,kw,kw⟩ λx o l h=>?_
 unfold gp at h;split at h
 .simp only[Tr.val]at h;split at h
  .rename_i c;simp only[bG]at h;subst h;have⟨n,u⟩:=x;simp only[aY]at c;intro C w U ρ v _ b i a d j;have k:=b.len
   match v,k,b with
   | [m],_,b=>
    have g:=b.rv 0 (.int .u64 n) m rfl rfl;cases g with
    |int _ _ p=>
    refine(Tryz.bits_Len n w c.1 (Int.le_trans c.2 (by decide))).mono ?_;rintro e q ⟨rfl,rfl⟩;refine fI i a d j (Below.refl _ _) (.int _ _ ?_);have:=ww 64 n.toNat;exact⟨Int.le_trans (by decide:(-9223372036854775808:Int)<=0) (Int.natCast_nonneg _),Int.le_trans (Int.ofNat_le.2 this) (by decide:((64:Nat):Int)<=9223372036854775807)⟩
  .simp at h
 .simp at h
def zgk:ag:=ac [.int .u64] [zk] (λx=>T (0<=x.1/\x.1<=1000000)) λx=>((Lib.bitLen x.1.toNat:Nat),())
theorem zcl:FK 152 zgk:=zck
def zid:=Kn.addL [(137,F91),(83,zpS),(152,zgk)]
theorem sR:zw zid:=QF.addL<|fc zrB<|fc zkG<|fc zcl jg
end
end Cad
namespace Go.Proofs
open Go.RowKit Go.Shelf Go.Sort
open Bool renaming false->Q4,true->Q3
open Option renaming none->Q2,some->Q1
open Decidable renaming decide->Q0
open Int (toNat)
open List (getD length)
set_option maxHeartbeats 1000000 in
theorem Tryz.name52(s:ByteArray)(v1 v2 v3 v4 v5 v6 v7 v8 v9 v10 v11:Value)(W:World):Calls Tryz.prog 78 #[.agg #[.string s,v1,v2,v3,v4,v5,v6,v7,v8,v9,v10,v11]] W λe w'=>e=.returned (.string s)/\w'=W.alloc (.cells #[.string s,v1,v2,v3,v4,v5,v6,v7,v8,v9,v10,v11] 38):=by
 go_enter Tryz.func78,Tryz.ntmps78
 go_wp2
 go_ret
 exact⟨rfl,rfl⟩
set_option maxHeartbeats 4000000 in
theorem Tryz.cmp56(s t:ByteArray)(v1 v2 v3 v4 v5 v6 v7 v8 v9 v10 v11 u1 u2 u3 u4 u5 u6 u7 u8 u9 u10 u11:Value)(nb:Nat)(W:World)(hn:W.cell? ⟨nb,0,Q2⟩=Q1 (.func (.func 78) #[] #[]))(hnb:nb<W.heap.size):
  Calls Tryz.prog 82 #[.agg #[.string s,v1,v2,v3,v4,v5,v6,v7,v8,v9,v10,v11],.agg #[.string t,u1,u2,u3,u4,u5,u6,u7,u8,u9,u10,u11],.pointer (Q1 ⟨nb,0,Q2⟩)] W λe w'=>e=.returned (.int .i64 (Lib.compareBytes s.data.toList t.data.toList))/\∃q os',w'=grow (W.drewN q) os':=by
 have h52:∀(s:ByteArray)(v1 v2 v3 v4 v5 v6 v7 v8 v9 v10 v11:Value)(W':World),Calls Tryz.prog 78 #[.agg #[.string s,v1,v2,v3,v4,v5,v6,v7,v8,v9,v10,v11]] W' λe w'=>e=.returned (.string s)/\∃q os',w'=grow (W'.drewN q) os':=λs v1 v2 v3 v4 v5 v6 v7 v8 v9 v10 v11 W'=>(Tryz.name52 s v1 v2 v3 v4 v5 v6 v7 v8 v9 v10 v11 W').mono λe w' h=>⟨h.1,0,_,h.2.trans (alloc_eq_grow _ _)⟩
 have h57:∀W',Calls Tryz.prog 83 #[.string s,.string t] W' λe w'=>e=.returned (.int .i64 (Lib.compareBytes s.data.toList t.data.toList))/\∃q os',w'=grow (W'.drewN q) os':=λW'=>(Tryz.strings_Compare s t W').mono λe w' h=>⟨h.1,0,#[],by rw[h.2,grow_empty];rfl⟩
 have mixed:Tryz.prog.follows .mixedOrders=Q3:=by kernel_rfl
 generalize Lib.compareBytes s.data.toList t.data.toList=r at h57|-
 go_enter Tryz.func82,Tryz.ntmps82
 go_wp2
 obtain⟨W2,hW2⟩:∃W2,(W.alloc (.cells #[.string s,v1,v2,v3,v4,v5,v6,v7,v8,v9,v10,v11] 38)).alloc (.cells #[.string t,u1,u2,u3,u4,u5,u6,u7,u8,u9,u10,u11] 38)=W2:=⟨_,rfl⟩;rw[hW2];have hnn:∀n os,(grow (W2.drewN n) os).cell? ⟨nb,0,Q2⟩=Q1 (.func (.func 78) #[] #[]):=cell_grown (by rw[<-hW2];simp;omega) (by rw[<-hW2,World.cell?_alloc_past _ _ _ (by simp;omega),World.cell?_alloc_past _ _ _ hnb];exact hn);have x0:∀n os,(grow (W2.drewN n) os).cell? ⟨W.heap.size,0,Q2⟩=Q1 (.string s):=cell_grown (by rw[<-hW2];simp<;>omega) (by rw[<-hW2];simp);have y0:∀n os,(grow (W2.drewN n) os).cell? ⟨W.heap.size+1,0,Q2⟩=Q1 (.string t):=cell_grown (by rw[<-hW2];simp<;>omega) (by rw[<-hW2];simp);have x1:∀n os,(grow (W2.drewN n) os).cell? ⟨W.heap.size,1,Q2⟩=Q1 v1:=cell_grown (by rw[<-hW2];simp<;>omega) (by rw[<-hW2];simp);have y1:∀n os,(grow (W2.drewN n) os).cell? ⟨W.heap.size+1,1,Q2⟩=Q1 u1:=cell_grown (by rw[<-hW2];simp<;>omega) (by rw[<-hW2];simp);have x2:∀n os,(grow (W2.drewN n) os).cell? ⟨W.heap.size,2,Q2⟩=Q1 v2:=cell_grown (by rw[<-hW2];simp<;>omega) (by rw[<-hW2];simp);have y2:∀n os,(grow (W2.drewN n) os).cell? ⟨W.heap.size+1,2,Q2⟩=Q1 u2:=cell_grown (by rw[<-hW2];simp<;>omega) (by rw[<-hW2];simp);have x3:∀n os,(grow (W2.drewN n) os).cell? ⟨W.heap.size,3,Q2⟩=Q1 v3:=cell_grown (by rw[<-hW2];simp<;>omega) (by rw[<-hW2];simp);have y3:∀n os,(grow (W2.drewN n) os).cell? ⟨W.heap.size+1,3,Q2⟩=Q1 u3:=cell_grown (by rw[<-hW2];simp<;>omega) (by rw[<-hW2];simp);have x4:∀n os,(grow (W2.drewN n) os).cell? ⟨W.heap.size,4,Q2⟩=Q1 v4:=cell_grown (by rw[<-hW2];simp<;>omega) (by rw[<-hW2];simp);have y4:∀n os,(grow (W2.drewN n) os).cell? ⟨W.heap.size+1,4,Q2⟩=Q1 u4:=cell_grown (by rw[<-hW2];simp<;>omega) (by rw[<-hW2];simp);have x5:∀n os,(grow (W2.drewN n) os).cell? ⟨W.heap.size,5,Q2⟩=Q1 v5:=cell_grown (by rw[<-hW2];simp<;>omega) (by rw[<-hW2];simp);have y5:∀n os,(grow (W2.drewN n) os).cell? ⟨W.heap.size+1,5,Q2⟩=Q1 u5:=cell_grown (by rw[<-hW2];simp<;>omega) (by rw[<-hW2];simp);have x6:∀n os,(grow (W2.drewN n) os).cell? ⟨W.heap.size,6,Q2⟩=Q1 v6:=cell_grown (by rw[<-hW2];simp<;>omega) (by rw[<-hW2];simp);have y6:∀n os,(grow (W2.drewN n) os).cell? ⟨W.heap.size+1,6,Q2⟩=Q1 u6:=cell_grown (by rw[<-hW2];simp<;>omega) (by rw[<-hW2];simp);have x7:∀n os,(grow (W2.drewN n) os).cell? ⟨W.heap.size,7,Q2⟩=Q1 v7:=cell_grown (by rw[<-hW2];simp<;>omega) (by rw[<-hW2];simp);have y7:∀n os,(grow (W2.drewN n) os).cell? ⟨W.heap.size+1,7,Q2⟩=Q1 u7:=cell_grown (by rw[<-hW2];simp<;>omega) (by rw[<-hW2];simp);have x8:∀n os,(grow (W2.drewN n) os).cell? ⟨W.heap.size,8,Q2⟩=Q1 v8:=cell_grown (by rw[<-hW2];simp<;>omega) (by rw[<-hW2];simp);have y8:∀n os,(grow (W2.drewN n) os).cell? ⟨W.heap.size+1,8,Q2⟩=Q1 u8:=cell_grown (by rw[<-hW2];simp<;>omega) (by rw[<-hW2];simp);have x9:∀n os,(grow (W2.drewN n) os).cell? ⟨W.heap.size,9,Q2⟩=Q1 v9:=cell_grown (by rw[<-hW2];simp<;>omega) (by rw[<-hW2];simp);have y9:∀n os,(grow (W2.drewN n) os).cell? ⟨W.heap.size+1,9,Q2⟩=Q1 u9:=cell_grown (by rw[<-hW2];simp<;>omega) (by rw[<-hW2];simp);have x10:∀n os,(grow (W2.drewN n) os).cell? ⟨W.heap.size,10,Q2⟩=Q1 v10:=cell_grown (by rw[<-hW2];simp<;>omega) (by rw[<-hW2];simp);have y10:∀n os,(grow (W2.drewN n) os).cell? ⟨W.heap.size+1,10,Q2⟩=Q1 u10:=cell_grown (by rw[<-hW2];simp<;>omega) (by rw[<-hW2];simp);have x11:∀n os,(grow (W2.drewN n) os).cell? ⟨W.heap.size,11,Q2⟩=Q1 v11:=cell_grown (by rw[<-hW2];simp<;>omega) (by rw[<-hW2];simp);have y11:∀n os,(grow (W2.drewN n) os).cell? ⟨W.heap.size+1,11,Q2⟩=Q1 u11:=cell_grown (by rw[<-hW2];simp<;>omega) (by rw[<-hW2];simp);have hgr:∃os0,W2=grow W os0:=⟨_,by rw[<-hW2,alloc_eq_grow,alloc_eq_grow,grow_grow]⟩;clear hW2 hn
 go_quiet_grown (first|(go_at_call 78;refine Calls.grown_of (h52 _ _ _ _ _ _ _ _ _ _ _ _ _))|(go_at_call 83;refine Calls.grown_of (h57 _)))
 obtain⟨os0,rfl⟩:=hgr
 go_wp2
 go_ret
 exact⟨rfl,nq,os0++osq,by show grow (grow (W.drewN nq) os0) osq=_;rw[grow_grow]⟩
end Go.Proofs
namespace Cad
open Go Go.Proofs Go.Sort
open List renaming length->X
open IntKind renaming wrap->Γ,i64->Δ
open AV renaming ptr->Qf,nils->Qb
open Tr renaming chk->Qc,«to»->Q9
open AO renaming box->Qa
open Sh renaming bool->Q7,expr->Q5
open Bool renaming false->Q4,true->O
open Option renaming none->Q2,some->M
open Decidable renaming decide->Q0
open Int (toNat)
open List (getD)
open Cad renaming Sem->J
set_option maxHeartbeats 4000000
open Tr (chk br)
open AV (nils agg tup ptr kb str sl)
abbrev Pl(w:World)(U:Nat->Prop)(ρ:Nat->Option Value)(e:Sh)(G:J e->Prop):={p:List Value×J e//X p.1=e.size/\(∀v∈p.1,v.oneCell'=O)/\(∀(j:Nat)(c:AV),(zC e p.2)[j]?=M c->∃v,p.1[j]?=M v/\Rv w U ρ c v)/\G p.2}
section
variable {w:World} {U:Nat->Prop} {ρ:Nat->Option Value} {e:Sh} {G:J e->Prop}
variable {α:Type}{n:Nat}{os:Array Obj}
theorem wY[Inhabited α]{enc:α->List Value}{k g:Nat}{c:Array Value}{h:TypeId}(d:Array α)(x:w.heap[g]?=M (.cells c h (0,0))):
  (sortWorldK enc k w g 0 n d os).heap[g]?=M (.cells (putCells id 0 (flatK enc k d) c) h (0,0)):=by have a:g<w.heap.size:=(mU.1 x).1;unfold sortWorldK;rw[heap_grow_old _ _ (by simpa[putRowK]using a)];simp[putRowK,putRow,mapBlock,Sort.ahead,uz,x,onCells]
theorem iR[Inhabited α]{h:α->List Value}{k g:Nat}(d:Array α){b:Nat}(a:b<w.heap.size)(x:b≠g):(sortWorldK h k w g 0 n d os).heap[b]?=w.heap[b]?:=by
 unfold sortWorldK;rw[heap_grow_old _ _ (by simpa[putRowK]using a)];have:g≠b:=λe=>x e.symm
 simp[putRowK,putRow,mapBlock,Sort.ahead,uz,this]
variable {l:List (J e)}{v:Value}
theorem WZ{id:Nat}(_:0<e.size)(ho:bv w U ρ id (.vec e l))(hv:ρ id=M v)(hl:l≠[])(hG:∀x∈l,G x):
  ∃(B n:Nat)(b:TypeId)(g:Array Value)(d:Array (Pl w U ρ e G)),v=.slice (M ⟨B,0,Q2⟩) (X l) n/\U B/\w.heap[B]?=M (.cells g b (0,0))/\g.size=n*e.size/\X l<=n/\X l<=aD/\0<n/\
   d.size=X l/\d.toList.map (λp=>p.1.2)=l/\∀i(z:i<d.size)(j:Nat),j<e.size->g[i*e.size+j]?=d[i].1.1[j]?:=by
 have⟨a,c,o,hm,A⟩:=ho;rw[hv]at o;cases o;rcases A with⟨h,_⟩|⟨B,b,g,rfl,hc,D,hB,H,F,hr⟩
 .exact zA h hl
 have s:∀i(z:i<X l) j,j<e.size->∃t x,(zC e l[i])[j]?=M t/\g[i*e.size+j]?=M x/\Rv w U ρ t x/\x.oneCell'=O:=by
  intro i z j q;have k:(zC e l[i])[j]?=M ((zC e l[i])[j]'(by rw[ao];exact q)):=af _;have⟨x,o,m⟩:=hr i z j _ k;exact⟨_,x,k,o,m,gI e l[i] j _ x k m⟩
 refine⟨B,c,b,g,Array.ofFn λi:Fin (X l)=>⟨((List.range e.size).map λj=>(g[i.1*e.size+j]?).getD undef,l[i.1]),sw,λx hx=>?_,λj t u=>?_,hG _ (bC _)⟩,rfl,D,hB,H,F,hm,hc,sw,?_,λi z j q=>?_⟩
 .obtain⟨j,q,rfl⟩:=bn.1 hx;have⟨t,y,_,m,_,h4⟩:=s i.1 i.2 j (by simpa using q);rw[m];exact h4
 .have q:j<e.size:=by have:=(dF.1 u).1;rwa [ao]at this
  have⟨c',y,o,m,A,_⟩:=s i.1 i.2 j q;have C:(zC e l[i.1])[j]?=M t:=u;rw[C]at o;cases o;refine⟨y,?_,A⟩;rw[dN,Bm q];simp[m]
 .apply List.ext_getElem
  .simp
  .intro i o m;simp
 .have E:i<X l:=by simpa using z
  have⟨c',y,o,m,A,_⟩:=s i E j q;rw[m];simp only[Array.getElem_ofFn];rw[dN,Bm q];simp[m]
theorem zb0{hp:Nat->AO}{id f:Nat}{fv:Value}(x5:J e->J e->Int)(A:0<e.size)(a6:∀b,U b->b<w.heap.size)(ho:hp id=.vec e l)(i8:bv w U ρ id (.vec e l))(hv:ρ id=M v)(hl:l≠[])(hG:∀x∈l,G x)
  (x0:∀(_:Inhabited (Pl w U ρ e G))(B C:Nat)(d:Array (Pl w U ρ e G)),d.size=X l->HoldsK (λp=>p.1.1) e.size w B 0 d->B<w.heap.size->an ρ id (.vec e l) B->
   Calls Tryz.prog f #[.slice (M ⟨B,0,Q2⟩) d.size C,fv] w λe' w'=>e'=.returned (.tuple #[])/\∃(s:Array (Pl w U ρ e G))(m:Nat)(os:Array Obj),PermIn 0 d.size d s/\SortedIn (ltOf λp q=>x5 p.1.2 q.1.2) 0 d.size s/\w'=sortWorldK (λp=>p.1.1) e.size w B 0 m s os):
  Calls Tryz.prog f #[v,fv] w λe' w'=>∃l',List.Perm l' l/\l'.Pairwise (λx y=>¬x5 y x<0)/\∃v' U' ρ',e'=.returned v'/\Ef n hp {val:=.tup [],wr:=[(id,.vec e l')]} w U ρ v' w' U' ρ':=by
 obtain⟨B,C,g,a7,d,rfl,h9,hB,a5,a1,hm,i1,F,i3,i2⟩:=WZ (G:=G) A i8 hv hl hG;have j2:0<d.size:=by rw[F];exact List.length_pos_iff.2 hl
 have x6:=a6 B h9;have P:an ρ id (.vec e l) B:=⟨rfl,_,hv,by simp[cd];omega⟩
 letI h7:Inhabited (Pl w U ρ e G):=⟨d[0]⟩
 have hH:HoldsK (λp:Pl w U ρ e G=>p.1.1) e.size w B 0 d:=by
  intro t ht;rw[size_flatK]at ht;have hq:t/e.size<d.size:=(Nat.div_lt_iff_lt_mul A).2 ht;have hr:t%e.size<e.size:=Nat.mod_lt _ A;have hk:=i2 _ hq _ hr;have x9:t/e.size*e.size+t%e.size=t:=by have:=Nat.div_add_mod t e.size;rw[Nat.mul_comm]at this;exact this
  rw[x9]at hk;have h6:d[t/e.size].1.1.length=e.size:=d[t/e.size].2.1;rw[af (by rw[h6];exact hr)]at hk;refine⟨?_,by simp[World.frozen?,hB]⟩;rw[get_flatK _ _ _ _ ht,getElem!_pos d _ hq,getElem!_pos _ _ (by rw[h6];exact hr)];simp[World.cell?,hB,hk]
 have x8:=x0 h7 B C d F hH x6 P;rw[F]at x8;refine x8.mono ?_;rintro e' w' ⟨rfl,s,m,os,a3,a4,rfl⟩;rw[<-F]at a3 a4;have⟨x4,_,x3⟩:=a3;have H:s.size=X l:=by rw[x4,F]
 have i9:s.toList.Perm d.toList:=by
  have e1:s.extract 0 d.size=s:=by rw[<-x4];simp
  have e2:d.extract 0 d.size=d:=by simp
  rwa [e1,e2]at x3
 have h8:=wY (enc:=λp:Pl w U ρ e G=>p.1.1) (k:=e.size) (n:=m) (os:=os) s hB;have z:∀b,b<w.heap.size->b≠B->(sortWorldK (λp:Pl w U ρ e G=>p.1.1) e.size w B 0 m s os).heap[b]?=w.heap[b]?:=λb hb i6=>iR s hb i6
 have u:w.heap.size<=(sortWorldK (λp:Pl w U ρ e G=>p.1.1) e.size w B 0 m s os).heap.size:=by
  unfold sortWorldK grow putRowK;simp[Sort.ahead]
 have h5:ly w (sortWorldK (λp:Pl w U ρ e G=>p.1.1) e.size w B 0 m s os):=⟨u,rfl,rfl,rfl,λa ha=>by
  by_cases x7:a.block=B
  .unfold World.frozen?;rw[x7,h8,hB]
  .exact Bl (z a.block ha x7)⟩
 generalize sortWorldK (λp:Pl w U ρ e G=>p.1.1) e.size w B 0 m s os=w' at h8 z u h5;have x1:∀{c:AV}{x:Value},Rv w U ρ c x->Rv w' U ρ c x:=λh=>h.mono u (λb hb hU=>z b hb λhe=>hU (he▸h9)) (λ_ _ h=>h) (λ_ _ h=>h)
 have h4:(s.toList.map λp=>p.1.2).length=X l:=by simp[H]
 refine⟨s.toList.map λp=>p.1.2,by rw[<-i3];exact i9.map _,?_,_,U,ρ,rfl,?_⟩
 .rw[List.pairwise_map];refine List.pairwise_iff_getElem.2 λi j hi hj i4=>?_
  have h3:i<s.size:=by simpa using hi
  have a0:j<s.size:=by simpa using hj
  have:=a4 i j (aG _) i4 (by rw[<-x4];exact a0);rw[getElem!_pos s _ a0,getElem!_pos s _ h3]at this;simp only[ltOf,ei]at this;simpa using this
 .have a2:bv w' U ρ id (.vec e (s.toList.map λp=>p.1.2)):=by
   refine⟨M ⟨B,0,Q2⟩,C,by rw[h4];exact hv,by rw[h4];exact hm,.inr ⟨B,g,_,rfl,i1,h9,h8,by simp[putCells,a5],by rw[h4];exact a1,?_⟩⟩;intro i hi j c hc;have h3:i<s.size:=by rw[H,<-h4];exact hi
   have hj:j<e.size:=by have:=(dF.1 hc).1;rwa [ao]at this
   have i0:(zC e s[i].1.2)[j]?=M c:=by simpa using hc
   have⟨x,D,E⟩:=s[i].2.2.2.1 j c i0;refine⟨x,?_,x1 E⟩;have ht:i*e.size+j<s.size*e.size:=by
    have:=gD e.size (HS h3);rw[jP]at this;omega
   have j0:i*e.size+j<a7.size:=by
    rw[a5];have:=gD e.size (show s.size<=C by rw[H];exact a1);omega
   have a8:(i*e.size+j)/e.size=i:=by
    rw[kV,Nat.add_mul_div_right _ _ A,Nat.div_eq_of_lt hj];omega
   have a9:(i*e.size+j)%e.size=j:=by
    rw[kV,Nat.add_mul_mod_self_right,Nat.mod_eq_of_lt hj]
   have h0:=get_flatK (λp:Pl w U ρ e G=>p.1.1) e.size s _ ht;rw[a8,a9,getElem!_pos s _ h3]at h0;have hx:s[i].1.1[j]! =x:=by
    have⟨i5,he⟩:=dF.1 D;rw[getElem!_pos s[i].1.1 j i5];exact he
   rw[hx]at h0;rw[getElem!_pos _ _ (by simpa using ht)]at h0;simp[putCells,j0,ht,h0]
  have x2:∀b,an ρ id (.vec e (s.toList.map λp=>p.1.2)) b->b=B:=by
   rintro b ⟨_,v,D,E⟩;rw[hv]at D;cases D;simp[cd]at E;exact E.2.symm
  refine⟨h5,.tup [] [] rfl sw,λj1 o h=>?_,sw,λ_ _=>rfl,λ_ _ h=>h,λb hb i7=>z b hb λhe=>i7 id (.vec e (s.toList.map λp=>p.1.2)) sw (by rw[ho,he];exact P),λb h=>ia (a6 b h) u,λ_ _ h=>h,λ_ _ h _=>h,?_,?_⟩
  .simp at h;obtain⟨rfl,rfl⟩:=h;exact a2
  .intro j1 o b h hb;refine .inr ⟨id,.vec e (s.toList.map λp=>p.1.2),sw,?_⟩;rcases h with h|⟨_,h⟩
   .simp at h;obtain⟨rfl,rfl⟩:=h;rw[x2 b hb,ho];exact P
   .simp at h
  .intro j3 o1 j4 o2 b D E _ _;rcases D with D|⟨_,D⟩
   .rcases E with E|⟨_,E⟩
    .simp at D E;rw[D.1,E.1]
    .simp at E
   .simp at D
end
end Cad
