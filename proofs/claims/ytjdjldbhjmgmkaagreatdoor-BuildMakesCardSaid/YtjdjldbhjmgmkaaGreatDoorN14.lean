/- The document's expressions. -/
import Derived.Test.YtjdjldbhjmgmkaaGreatDoorN13
import Derived.Test.YtjdjldbhjmgmkaaGreatDoorN09
import Derived.Shelf.SlSortCmp.InsertionK
import Derived.Sort.OwnSorted
namespace Cad
open Go Go.Proofs Tryz
open List renaming length->N
open IntKind renaming wrap->Γ,i64->Δ
open AV renaming ptr->Qf,nils->Qb
open Tr renaming «to»->Q9,chk->I
open AO renaming box->Qa
open Sh renaming bool->Q7,expr->Q5
open Bool renaming true->Z,false->M
open Option renaming none->Q2,some->Y
open Decidable renaming decide->K
open Int renaming toNat->W
open List renaming getD->T
open Cad renaming Sem->L,ze->R,ai->J,zj->Q
set_option maxHeartbeats 4000000
open Tr (chk br re)
open AV (nils agg tup ptr kb str)
open AV renaming sl->O,str->X
noncomputable section
def YO(g:L Q5->cw->fy->zo)(c:L Q5->cw->fy->Bool):cy:=KU.add 106 (af [Q5,Sh.sl zp,Sh.sl R] [R] (λx=>c x.1 x.2.1 x.q.1) λx=>(g x.1 x.2.1 x.q.1,()))
theorem Rh{g:L Q5->cw->fy->zo}{c:L Q5->cw->fy->Bool}(h:FK 106 (af [Q5,Sh.sl zp,Sh.sl R] [R] (λx=>c x.1 x.2.1 x.q.1) λx=>(g x.1 x.2.1 x.q.1,()))):zx (YO g c):=vO.add h
abbrev znG:Nat->aY:=λj=>if j=6 then{slots:=[1,2,3,6,7]}else{ }
inductive H8 where
 |h6 (l1:LC) (l2:LV) (i7:Int) (z0:zq [CP.d Q5]) (z1:zq [CP.d R])
abbrev zsY:H8->Nat×St
 |.h6 l h i z x=>(6,⟨tm 103 [(1,O zp l),(2,O R h),(3,Qf 0 0),(6,Qf 1 0),(7,J i)],[Qa (bm [] [CP.d Q5] z),Qa (bm [] [CP.d R] x)]⟩)
def uX(g:L Q5->L zp.sl->L ze.sl->zo)(c:L Q5->L zp.sl->L ze.sl->Bool)(x:L Q5)(j:L zp.sl)(k:L ze.sl):Tr (H8⊕ay):=
 let t:=zw ((zg.l x).getD (W 0) (Q Q5))
 let a:=g t j k
 let m:=JU a
 let u:=a.1==0
 let n:=bC u
 let y:=zw ((zg.l x).getD (W 1) (Q Q5))
 let h:=g y j k
 let o:=JS a h
 let p:=Xc a h
 let s:=tM a h
 let b:=A9 a h
 let d:=Ba a h
 let i:=tN a h
 br (zg.op x==pI)
 (re (agg [J (zg.v x).1,J (zg.v x).2.1,X (zg.v x).q]) [])
 (br (zg.op x==fh) (Q9 (H8.h6 j k 0 (x,()) ((0,0,[]),())))
  (I (zK 0 (zg.l x).length) (I (c t j k) (br (zg.op x==oH) (I (LN a) (re (agg [J m.1,J m.2.1,X m.q]) [])) (br (zg.op x==qM) (I (nZ a) (br (!vn a) (I Z
  (re (agg [J (bC Z).1,J (bC Z).2.1,X (bC Z).q]) [])) (I (mK u) (re (agg [J n.1,J n.2.1,X n.q]) [])))) (I (zK 1 (zg.l x).length) (I (c y j k) (br (zg.op x==jf)
  (I (LK a h) (re (agg [J o.1,J o.2.1,X o.q]) [])) (br (zg.op x==wS) (I (UF a h) (re (agg [J p.1,J p.2.1,X p.q]) [])) (br (zg.op x==[61]) (I (xO a h) (re (agg [J s.1,J s.2.1,X s.q]) [])) (br (zg.op x==[60])
  (I (Db a h) (re (agg [J b.1,J b.2.1,X b.q]) [])) (br (zg.op x==[43]) (I (xS a h) (re (agg [J d.1,J d.2.1,X d.q]) [])) (I (xQ a h) (re (agg [J i.1,J i.2.1,X i.q]) []))))))))))))))
def Hd(_:L Q5->L zp.sl->L ze.sl->zo)(_:L Q5->L zp.sl->L ze.sl->Bool):H8->Tr (H8⊕ay)
 | .h6 l h i z b=>
  let x:=l.getD i.toNat (Q zp)
  let a:=h.getD i.toNat (Q R)
  br (K (i<(N l:Int)))
  (I (zK i (N l))
   (br (x.1==zg.s z.1) (br (K (i<(N h:Int))) (I (zK i (N h)) (re (agg [J a.1,J a.2.1,X a.q]) [])) (re (agg [J 0,J 0,X []]) [])) (Q9 (H8.h6 l h (Γ Δ (i+1)) z b))))
  (re (agg [J 0,J 0,X []]) [])
def iJ(o:Option (zH (List.map Y [R]))):zo:=(λr:zH (List.map Y [R])=>r.1) (o.getD (ct [R]))
def UH(g:L Q5->L zp.sl->L ze.sl->zo)(c:L Q5->L zp.sl->L ze.sl->Bool)(x:L Q5)(h:L zp.sl)(a:L ze.sl):Option (zH (List.map Y [R])):=am [R] (Hd g c) 100000000 (uX g c x h a)
def cX:Nat->L Q5->L zp.sl->L ze.sl->Option (zH (List.map Y [R]))
 |0=>λ_ _ _=>Q2
 |n+1=>UH (λx h a=>iJ (cX n x h a)) λx h a=>(cX n x h a).isSome
theorem Z9:aa KU.P 106 f106 3:=cM kw
theorem Na:∀n,FK 106 (af [Q5,zp.sl,ze.sl] [R] (λx=>(cX n x.1 x.2.1 x.q.1).isSome) λx=>(iJ (cX n x.1 x.2.1 x.q.1),()))
 |0=>e7 ⟨f106,Z9.1,Z9.2.1,Z9.q.1⟩ (λ_=>rfl)
 |n+1=>(Rh (Na n)).TT (f:=f106) (E:=YO (λh a b=>iJ (cX n h a b)) (λh a b=>(cX n h a b).isSome)) (ks:=[Q5,zp.sl,ze.sl]) (outs:=[R]) (keep:=znG) (n:=100000000) (e:=zsY) (t:=Hd (λh a b=>iJ (cX n h a b)) (λh a b=>(cX n h a b).isSome)) (i:=λx=>uX (λh a b=>iJ (cX n h a b)) (λh a b=>(cX n h a b).isSome) x.1 x.2.1 x.q.1)
def Df(x:L Q5)(h:L zp.sl)(a:L ze.sl):Option (zH (List.map Y [R])):=cX 16 x h a
def De(x:L Q5)(h:L zp.sl)(a:L ze.sl):Bool:=(Df x h a).isSome
def LP(x:L Q5)(h:L zp.sl)(a:L ze.sl):zo:=iJ (Df x h a)
def zgV:ak:=af [Q5,zp.sl,ze.sl] [R] (λx=>De x.1 x.2.1 x.q.1) λx=>(LP x.1 x.2.1 x.q.1,())
theorem zcS:FK 106 zgV:=Na 16
abbrev zuV:=kr [(5,[1,3,4]),(11,[1,3,6]),(16,[1,3,7])]
inductive HD where
 |h5 (i3:Int) (i4:Int) (z0:zq [CP.d ae])
 |h11 (i3:Int) (i6:Int) (z0:zq [CP.d ae])
 |h16 (i3:Int) (i7:Int) (z0:zq [CP.d ae])
abbrev zxR:HD->Nat×St
 |.h5 i h z=>(5,⟨tm 139 [(1,Qf 0 0),(3,J i),(4,J h)],[Qa (bm [] [CP.d ae] z)]⟩)
 |.h11 i x z=>(11,⟨tm 139 [(1,Qf 0 0),(3,J i),(6,J x)],[Qa (bm [] [CP.d ae] z)]⟩)
 |.h16 i a z=>(16,⟨tm 139 [(1,Qf 0 0),(3,J i),(7,J a)],[Qa (bm [] [CP.d ae] z)]⟩)
def znt(x:ap):Tr (HD⊕ay):=
 let a:=(N x.2.1:Int)
 let h:=K (a<1)
 let b:=K (a>8)
 let c:=K (x.q.1<0)
 let d:=K (x.q.1>=a)
 let g:=T x.2.1 (W x.q.1) (Q zp)
 I
 (eD x.1&&
  bif !cg x.1 then Z
  else bif h then Z else bif b then Z else bif c then Z else bif d then Z else zK x.q.1 (N x.2.1))
 (br (cond (!cg x.1) Z (cond h Z (cond b Z (cond c Z (cond d Z (!g.q))))))
  (re (kb M) []) (Q9 (HD.h5 a 0 (x,()))))
def uI:HD->Tr (HD⊕ay)
 | .h5 i c z=>
  let a:=T z.1.2.1 c.toNat (Q zp)
  let x:=!cg a.1
  let h:=K (a.2.1<1)
  let b:=K (a.2.1>3)
  br (K (c<i))
  (I (zK c (N z.1.2.1))
   (I (eD a.1&&bif x then Z else bif h then Z else bif b then Z else fq z.1.2.1 a.1) (br (cond x Z (cond h Z (cond b Z (gZ z.1.2.1 a.1!=c)))) (re (kb M) []) (Q9 (HD.h5 i (Γ Δ (c+1)) z)))))
  (Q9 (HD.h11 i 0 z))
 | .h11 i d z=>
  let a:=(N z.1.r.1:Int)
  let x:=zK d (N z.1.r.1)
  let h:=T z.1.r.1 d.toNat (Q zk)
  let b:=K (h<0)
  br (K (d<a))
  (I (x&&bif b then Z else x)
   (br (cond b Z (K (h>=i))) (re (kb M) []) (Q9 (HD.h11 i (Γ Δ (d+1)) z))))
  (Q9 (HD.h16 i 0 z))
 | .h16 i g z=>
  let a:=(N z.1.t.1:Int)
  let x:=zK g (N z.1.t.1)
  let h:=T z.1.t.1 g.toNat (Q zI)
  let b:=K (h.1<0)
  let j:=K (h.1>=i)
  let k:=zw z.1.u
  br (K (g<a))
  (I (x&&bif b then Z else x&&bif j then Z else x&&eD h.2)
   (br (cond b Z (cond j Z (!cg h.2))) (re (kb M) []) (Q9 (HD.h16 i (Γ Δ (g+1)) z))))
  (I (Gr k z.1.2.1) (re (AV.bool (L3 k z.1.2.1==0)) []))
def L1(x:ap):=am [Q7] uI 100000000 (znt x)
def Bc(x:ap):=(L1 x).isSome
def J2(x:ap):=o1 (L1 x)
def zqJ:=FT [ae] [Q7] λx=>L1 x.1
theorem zlu:FK 97 zqJ:=vO.T1 (f:=f97) (keep:=zuV) (e:=zxR)
def YY:=KU.addL [(106,zgV),(97,zqJ)]
theorem mr:zx YY:=vO.addL<|fc zcS<|fc zlu iP
abbrev zuX:=kr [(4,[1,2,5]),(9,[1,2,6])]
inductive Kw where
 |h4 (l1:LV) (i5:Int) (z0:zq [CP.d ae])
 |h9 (l1:LV) (i6:Int) (z0:zq [CP.d ae])
abbrev zxT:Kw->Nat×St
 |.h4 l i z=>(4,⟨tm 83 [(1,O R l),(2,Qf 0 0),(5,J i)],[Qa (bm [] [CP.d ae] z)]⟩)
 |.h9 l h z=>(9,⟨tm 83 [(1,O R l),(2,Qf 0 0),(6,J h)],[Qa (bm [] [CP.d ae] z)]⟩)
def znu(x:ap)(h:L ze.sl):Tr (Kw⊕ay):=
 let a:=(x.1,x.2.1,x.q.1,x.r.1,x.t.1,zw x.u)
 I (Bc a)
 (br (cond (!J2 a) Z ((N h:Int)!=(N x.2.1:Int))) (re (J 1) [])
  (Q9 (Kw.h4 h 0 (x,()))))
def Hk:Kw->Tr (Kw⊕ay)
 | .h4 l h z=>
  let a:=l.getD h.toNat (Q R)
  br (K (h<(N l:Int)))
  (I (zK h (N l)) (I (nZ a) (br (!vn a) (re (J 1) []) (Q9 (Kw.h4 l (Γ Δ (h+1)) z)))))
  (Q9 (Kw.h9 l 0 z))
 | .h9 l i z=>
  let a:=l.getD i.toNat (Q R)
  let x:=a.1==0
  let b:=zK i (N z.1.2.1)
  let c:=T z.1.2.1 i.toNat (Q zp)
  let d:=a.1!=0
  let g:=!zg.op z.1.u==[]
  let j:=zw z.1.u
  let k:=LP j z.1.2.1 l
  br (K (i<(N l:Int)))
  (I (zK i (N l)&&bif x then b else Z)
   (br (cond x c.q M) (re (J 8) []) (I (zK i (N l)&&bif d then zK i (N l)&&b else Z) (br (cond d (a.1!=c.2.1) M) (re (J 5) []) (Q9 (Kw.h9 l (Γ Δ (i+1)) z))))))
  (I (cond g (De j z.1.2.1 l&&o8 k M) Z)
   (br (cond g (sj k M) M) (re (J 9) []) (re (J 0) [])))
def Dl(x:ap)(h:L ze.sl):=am [zk] Hk 100000000 (znu x h)
def Dk(x:ap)(h:L ze.sl):=(Dl x h).isSome
def L0(x:ap)(h:L ze.sl):=o1 (Dl x h)
def zqL:=FT [ae,ze.sl] [zk] λx=>Dl x.1 x.2.1
theorem zlw:FK 45 zqL:=mr.T1 (f:=f45) (keep:=zuX) (e:=zxT)
abbrev zuY:=kr [(2,[0,1,5]),(5,[0,1,5,6])]
inductive Nm where
 |h2 (l0:List (L ze.sl)) (i1:zy) (i5:Int)
 |h5 (l0:List (L ze.sl)) (i1:zy) (i5:Int) (i6:Int)
abbrev zxU:Nm->Nat×St
 |.h2 l i h=>(2,⟨tm 44 [(0,O ze.sl l),(1,J i),(5,J h)],[]⟩)
 |.h5 l i h x=>(5,⟨tm 44 [(0,O ze.sl l),(1,J i),(5,J h),(6,J x)],[]⟩)
def zt5(x:L ze.sl.sl)(h:zy):Tr (Nm⊕ay):=
 Q9 (Nm.h2 x h 0)
def H0:Nm->Tr (Nm⊕ay)
 | .h2 l h i=>
  br (K (i<(N l:Int))) (Q9 (Nm.h5 l h i 0)) (re (kb M) [])
 | .h5 l h i x=>
  let c:=l.getD i.toNat (Q ze.sl)
  let d:=zK h (N c)
  let a:=T c (W h) (Q R)
  let g:=a.1!=0
  let j:=l.getD x.toNat (Q ze.sl)
  let b:=T j (W h) (Q R)
  br (K (x<i))
  (I (zK i (N l)&&(d&&bif g then zK i (N l)&&(d&&(zK x (N l)&&zK h (N j)))else Z))
   (br (cond g (a.1==b.1&&(a.2.1==b.2.1&&(a.q==b.q&&Z))) M) (re (kb Z) []) (Q9 (Nm.h5 l h i (Γ Δ (x+1))))))
  (Q9 (Nm.h2 l h (Γ Δ (i+1))))
def xY(x:L ze.sl.sl)(h:zy):=am [Q7] H0 100000000 (zt5 x h)
def pj(x:L ze.sl.sl)(h:zy):=(xY x h).isSome
def uf(x:L ze.sl.sl)(h:zy):=o1 (xY x h)
def zqM:=FT [ze.sl.sl,zk] [Q7] λx=>xY x.1 x.2.1
theorem zlx:FK 192 zqM:=mr.T1 (f:=f192) (keep:=zuY) (e:=zxU)
def zt7(x:ap)(h:L ze.sl):Tr (Empty⊕ay):=
 let b:=(x.1,x.2.1,x.q.1,x.r.1,x.t.1,zw x.u)
 let a:=T h (W x.q.1) (Q R)
 I (Bc b)
 (br (cond (J2 b) (K (x.q.1<(N h:Int))) M)
  (I (zK x.q.1 (N h)) (re (agg [J a.1,J a.2.1,X a.q]) []))
  (re (agg [J 0,J 0,X []]) []))
def Gw(x:ap)(h:L ze.sl):=am [R] t0 100000000 (zt7 x h)
def Bf(x:ap)(h:L ze.sl):=(Gw x h).isSome
def J3(x:ap)(h:L ze.sl):=o1 (Gw x h)
def zqO:=FT [ae,ze.sl] [R] λx=>Gw x.1 x.2.1
theorem zlA:FK 38 zqO:=mr.T1 (f:=f38) (keep:=k0) (e:=e0)
abbrev zuZ:=kr [(2,[2,3,5])]
inductive Vw where
 |h2 (i5:Int) (z0:zq [CP.d zl]) (z1:zq [CP.d R])
abbrev zxV:Vw->Nat×St
 |.h2 i z h=>(2,⟨tm 43 [(2,Qf 0 0),(3,Qf 1 0),(5,J i)],[Qa (bm [] [CP.d zl] z),Qa (bm [] [CP.d R] h)]⟩)
def zt8(x:ag)(h:zo):Tr (Vw⊕ay):=
 Q9 (Vw.h2 0 (x,()) (h,()))
def zcj:Vw->Tr (Vw⊕ay)
 | .h2 i z h=>
  let j:=(N z.1.2:Int)
  let b:=K (i<j)
  let c:=(z.1.1.1,z.1.1.2.1,z.1.1.q.1,z.1.1.r.1,z.1.1.t.1,zw z.1.1.u)
  let d:=zK i (N z.1.2)
  let a:=T z.1.2 i.toNat (Q ze.sl)
  let k:=(N a:Int)
  let g:=K (z.1.1.q.1<k)
  let x:=T a (W z.1.1.q.1) (Q R)
  I (cond b (Bc c) Z)
  (br (cond b (J2 c) M)
   (I (d&&bif g then d&&zK z.1.1.q.1 (N a)else Z) (br (cond g (x.1==h.1.1&&(x.2.1==h.1.2.1&&(x.q==h.1.q&&Z))) M) (re (J i) []) (Q9 (Vw.h2 (Γ Δ (i+1)) z h))))
   (re (J (-1)) []))
def Do(x:ag)(h:zo):=am [zk] zcj 100000000 (zt8 x h)
def ud(x:ag)(h:zo):=(Do x h).isSome
def Bd(x:ag)(h:zo):=o1 (Do x h)
def zqP:=FT [zl,R] [zk] λx=>Do x.1 x.2.1
theorem zlB:FK 103 zqP:=mr.T1 (f:=f103) (keep:=zuZ) (e:=zxV)
def YZ:=YY.addL [(45,zqL),(192,zqM),(38,zqO),(103,zqP)]
theorem vP:zx YZ:=mr.addL<|fc zlw<|fc zlx<|fc zlA<|fc zlB iP
abbrev zuv:=kr [(6,[1,3]),(14,[1,5]),(19,[1,6])]
inductive Hz where
 |h6 (i3:Int) (z0:zq [CP.d zl])
 |h14 (i5:Int) (z0:zq [CP.d zl])
 |h19 (i6:Int) (z0:zq [CP.d zl])
abbrev zxz:Hz->Nat×St
 |.h6 i z=>(6,⟨tm 82 [(1,Qf 0 0),(3,J i)],[Qa (bm [] [CP.d zl] z)]⟩)
 |.h14 h z=>(14,⟨tm 82 [(1,Qf 0 0),(5,J h)],[Qa (bm [] [CP.d zl] z)]⟩)
 |.h19 x z=>(19,⟨tm 82 [(1,Qf 0 0),(6,J x)],[Qa (bm [] [CP.d zl] z)]⟩)
def ZX(x:ag):Tr (Hz⊕ay):=
 let a:=(x.1.1,x.1.2.1,x.1.q.1,x.1.r.1,x.1.t.1,zw x.1.u)
 I (Bc a)
 (br (!J2 a) (re (J 1) [])
  (br (K ((N x.2:Int)>200)) (re (J 13) []) (Q9 (Hz.h6 0 (x,())))))
def sL:Hz->Tr (Hz⊕ay)
 | .h6 c z=>
  let x:=(N z.1.2:Int)
  let a:=(z.1.1.1,z.1.1.2.1,z.1.1.q.1,z.1.1.r.1,z.1.1.t.1,zw z.1.1.u)
  let h:=T z.1.2 c.toNat (Q ze.sl)
  let b:=L0 a h
  br (K (c<x))
  (I (zK c (N z.1.2))
   (I (Dk a h) (br (b !=0) (re (J b) []) (Q9 (Hz.h6 (Γ Δ (c+1)) z)))))
  (I (pj z.1.2 z.1.1.q.1)
   (br (uf z.1.2 z.1.1.q.1) (re (J 7) []) (Q9 (Hz.h14 0 z))))
 | .h14 d z=>
  let x:=(N z.1.1.r.1:Int)
  let a:=T z.1.1.r.1 d.toNat (Q zk)
  br (K (d<x))
  (I (zK d (N z.1.1.r.1))
   (I (pj z.1.2 a) (br (uf z.1.2 a) (re (J 7) []) (Q9 (Hz.h14 (Γ Δ (d+1)) z)))))
  (Q9 (Hz.h19 1 z))
 | .h19 i z=>
  let x:=(N z.1.2:Int)
  let a:=Γ Δ (i-1)
  let h:=(z.1.1.1,z.1.1.2.1,z.1.1.q.1,z.1.1.r.1,z.1.1.t.1,zw z.1.1.u)
  let b:=T z.1.2 a.toNat (Q ze.sl)
  let g:=T z.1.2 i.toNat (Q ze.sl)
  let j:=J3 h b
  let k:=J3 h g
  let l:=qj j k
  br (K (i<x))
  (I (zK a (N z.1.2))
   (I (Bf h b) (I (zK i (N z.1.2)) (I (Bf h g) (I (mI j k) (br (K (l>0)) (re (J 15) []) (Q9 (Hz.h19 (Γ Δ (i+1)) z))))))))
  (re (J 0) [])
def ph(x:ag):=am [zk] sL 100000000 (ZX x)
def Gu(x:ag):=(ph x).isSome
def L4(x:ag):=o1 (ph x)
def zqb:=FT [zl] [zk] λx=>ph x.1
theorem zkS:FK 126 zqb:=vP.T1 (f:=f126) (keep:=zuv) (e:=zxz)
abbrev zux:=kr [(2,[0,3]),(5,[0,3,4]),(12,[0,3,4,5,6,7])]
inductive HA where
 |h2 (l0:zT) (i3:Int)
 |h5 (l0:zT) (i3:Int) (i4:Int)
 |h12 (l0:zT) (i3:Int) (i4:Int) (i6:zy) (i7:Int) (z0:zq [CP.d zI])
abbrev zxB:HA->Nat×St
 |.h2 l i=>(2,⟨tm 75 [(0,O zl l),(3,J i)],[]⟩)
 |.h5 l i h=>(5,⟨tm 75 [(0,O zl l),(3,J i),(4,J h)],[]⟩)
 |.h12 l i h x a z=>(12,⟨tm 75 [(0,O zl l),(3,J i),(4,J h),(5,Qf 0 0),(6,J x),(7,J a)],[Qa (bm [] [CP.d zI] z)]⟩)
def ztZ(x:L zl.sl):Tr (HA⊕ay):=
 Q9 (HA.h2 x 0)
def uH:HA->Tr (HA⊕ay)
 | .h2 l i=>
  br (K (i<(N l:Int))) (Q9 (HA.h5 l i 0)) (re (kb Z) [])
 | .h5 l i x=>
  let a:=l.getD i.toNat (Q zl)
  let g:=(N a.1.t.1:Int)
  let c:=T a.1.t.1 x.toNat (Q zI)
  let b:=mO l c.2
  I (zK i (N l))
  (br (K (x<g))
   (I (zK i (N l)) (I (zK x (N a.1.t.1)) (br (K (b<0)) (re (kb M) []) (Q9 (HA.h12 l i x b 0 (c,()))))))
   (Q9 (HA.h2 l (Γ Δ (i+1)))))
 | .h12 l i x j d z=>
  let a:=l.getD i.toNat (Q zl)
  let g:=(N a.2:Int)
  let c:=T a.2 d.toNat (Q ze.sl)
  let b:=T c (W z.1.1) (Q R)
  let k:=b.1!=0
  let h:=l.getD (W j) (Q zl)
  let m:=((h.1.1,h.1.2.1,h.1.q.1,h.1.r.1,h.1.t.1,zw h.1.u),h.2)
  let n:=Bd m b
  I (zK i (N l))
  (br (K (d<g))
   (I (zK i (N l)) (I (zK d (N a.2)) (I (zK z.1.1 (N c)) (I (cond k (zK j (N l)&&ud m b) Z) (br (cond k (K (n<0)) M) (re (kb M) []) (Q9 (HA.h12 l i x j (Γ Δ (d+1)) z)))))))
   (Q9 (HA.h5 l i (Γ Δ (x+1)))))
def ye(x:L zl.sl):=am [Q7] uH 100000000 (ztZ x)
def Gx(x:L zl.sl):=(ye x).isSome
def L8(x:L zl.sl):=o1 (ye x)
def zqd:=FT [zl.sl] [Q7] λx=>ye x.1
theorem zkU:FK 127 zqd:=vP.T1 (f:=f127) (keep:=zux) (e:=zxB)
def Y0:=YZ.addL [(126,zqb),(127,zqd)]
theorem EC:zx Y0:=vP.addL<|fc zkS<|fc zkU iP
abbrev zzA:=kr [(4,[0,3]),(9,[0,4])]
inductive H9p where
 |h4 (l0:zT) (i3:Int)
 |h9 (l0:zT) (i4:Int)
abbrev e9p:H9p->Nat×St
 |.h4 l i=>(4,⟨tm 46 [(0,O zl l),(3,J i)],[]⟩)
 |.h9 l h=>(9,⟨tm 46 [(0,O zl l),(4,J h)],[]⟩)
def i9p(x:L zl.sl):Tr (H9p⊕ay):=
 br (K ((N x:Int)>12)) (re (J 13) []) (Q9 (H9p.h4 x 1))
def t9p:H9p->Tr (H9p⊕ay)
 | .h4 l i=>
  let a:=Γ Δ (i-1)
  let h:=l.getD a.toNat (Q zl)
  let x:=l.getD i.toNat (Q zl)
  br (K (i<(N l:Int)))
  (I (zK a (N l))
   (I (zK i (N l)) (br (!Op.bytesLess h.1.1 x.1.1) (re (J 15) []) (Q9 (H9p.h4 l (Γ Δ (i+1)))))))
  (Q9 (H9p.h9 l 0))
 | .h9 l b=>
  let a:=l.getD b.toNat (Q zl)
  let h:=((a.1.1,a.1.2.1,a.1.q.1,a.1.r.1,a.1.t.1,zw a.1.u),a.2)
  let x:=L4 h
  br (K (b<(N l:Int)))
  (I (zK b (N l)) (I (Gu h) (br (x !=0) (re (J x) []) (Q9 (H9p.h9 l (Γ Δ (b+1)))))))
  (I (Gx l) (br (!L8 l) (re (J 10) []) (re (J 0) [])))
def sy(x:L zl.sl):=am [zk] t9p 100000000 (i9p x)
def Gy(x:L zl.sl):=(sy x).isSome
def Ma(x:L zl.sl):=o1 (sy x)
def F9p:=FT [zl.sl] [zk] λx=>sy x.1
theorem zsx:FK 59 F9p:=EC.T1 (f:=f59) (keep:=zzA) (e:=e9p)
def Y1:=Y0.add 59 F9p
theorem pL:zx Y1:=EC.add zsx
abbrev zuO:=kr [(4,[0,1,12,13])]
inductive Vu where
 |h4 (l0:ea) (l1:ea) (i12:Int) (i13:Int)
abbrev zxO:Vu->Nat×St
 |.h4 l x i h=>(4,⟨tm 26 [(0,O zk l),(1,O zk x),(12,J i),(13,J h)],[]⟩)
def zfn(x h:L zk.sl):Tr (Vu⊕ay):=
 br ((N x:Int)!=(N h:Int)) (re (kb M) []) (Q9 (Vu.h4 x h (N x:Int) 0))
def zwO:Vu->Tr (Vu⊕ay)
 | .h4 l x h i=>
  br (K (i<h))
  (I (zK i (N l))
   (I (zK i (N x)) (br (l.getD i.toNat (Q zk)!=x.getD i.toNat (Q zk)) (re (kb M) []) (Q9 (Vu.h4 l x h (Γ Δ (i+1)))))))
  (re (kb Z) [])
def MF(x h:L zk.sl):=am [Q7] zwO 100000000 (zfn x h)
def ME(x h:L zk.sl):=(MF x h).isSome
def qU(x h:L zk.sl):=o1 (MF x h)
def zqB:=FT [zk.sl,zk.sl] [Q7] λx=>MF x.1 x.2.1
theorem zlj:FK 150 zqB:=pL.T1 (f:=f150) (keep:=zuO) (e:=zxO)
abbrev zvf:=kr [(4,[0,1,12,13])]
inductive VA where
 |h4 (l0:aZ) (l1:aZ) (i12:Int) (i13:Int)
abbrev zx8:VA->Nat×St
 |.h4 l x i h=>(4,⟨tm 26 [(0,O zp l),(1,O zp x),(12,J i),(13,J h)],[]⟩)
def zft(x h:L zp.sl):Tr (VA⊕ay):=
 br ((N x:Int)!=(N h:Int)) (re (kb M) []) (Q9 (VA.h4 x h (N x:Int) 0))
def zwP:VA->Tr (VA⊕ay)
 | .h4 l b h i=>
  let a:=l.getD i.toNat (Q zp)
  let x:=b.getD i.toNat (Q zp)
  br (K (i<h))
  (I (zK i (N l))
   (I (zK i (N b)) (br (!(a.1==x.1&&(a.2.1==x.2.1&&(a.q==x.q&&Z)))) (re (kb M) []) (Q9 (VA.h4 l b h (Γ Δ (i+1)))))))
  (re (kb Z) [])
def MC(x h:L zp.sl):=am [Q7] zwP 100000000 (zft x h)
def SF(x h:L zp.sl):=(MC x h).isSome
def Cl(x h:L zp.sl):=o1 (MC x h)
def zrb:=FT [zp.sl,zp.sl] [Q7] λx=>MC x.1 x.2.1
theorem zlW:FK 209 zrb:=pL.T1 (f:=f209) (keep:=zvf) (e:=zx8)
abbrev zvg:=kr [(4,[0,1,12,13])]
inductive VB where
 |h4 (l0:dK) (l1:dK) (i12:Int) (i13:Int)
abbrev zx9:VB->Nat×St
 |.h4 l x i h=>(4,⟨tm 26 [(0,O zI l),(1,O zI x),(12,J i),(13,J h)],[]⟩)
def zfu(x h:L zI.sl):Tr (VB⊕ay):=
 br ((N x:Int)!=(N h:Int)) (re (kb M) []) (Q9 (VB.h4 x h (N x:Int) 0))
def zwQ:VB->Tr (VB⊕ay)
 | .h4 l x h i=>
  let a:=l.getD i.toNat (Q zI)
  let b:=x.getD i.toNat (Q zI)
  br (K (i<h))
  (I (zK i (N l))
   (I (zK i (N x)) (br (!(a.1==b.1&&(a.2==b.2&&Z))) (re (kb M) []) (Q9 (VB.h4 l x h (Γ Δ (i+1)))))))
  (re (kb Z) [])
def MD(x h:L zI.sl):=am [Q7] zwQ 100000000 (zfu x h)
def SG(x h:L zI.sl):=(MD x h).isSome
def Cm(x h:L zI.sl):=o1 (MD x h)
def zrc:=FT [zI.sl,zI.sl] [Q7] λx=>MD x.1 x.2.1
theorem zlX:FK 210 zrc:=pL.T1 (f:=f210) (keep:=zvg) (e:=zx9)
def Y4:=Y1.addL [(150,zqB),(209,zrb),(210,zrc)]
theorem EF:zx Y4:=pL.addL<|fc zlj<|fc zlW<|fc zlX iP
def zt4(x h:ap):Tr (Empty⊕ay):=
 let a:=x.1==h.1
 let b:=x.q.1==h.q.1
 let c:=Cl x.2.1 h.2.1
 let d:=qU x.r.1 h.r.1
 let g:=Cm x.t.1 h.t.1
 let i:=zw x.u
 let j:=zw h.u
 I
 (bif a then
  bif b then SF x.2.1 h.2.1&&bif c then ME x.r.1 h.r.1&&bif d then SG x.t.1 h.t.1&&bif g then ln 16 i j else Z else Z else Z
  else Z
 else Z)
 (re (AV.bool (cond a (cond b (cond c (cond d (cond g (gP 16 i j) M) M) M) M) M)) [])
def MY(x h:ap):=am [Q7] t0 100000000 (zt4 x h)
def MX(x h:ap):=(MY x h).isSome
def vt(x h:ap):=o1 (MY x h)
def zqA:=FT [ae,ae] [Q7] λx=>MY x.1 x.2.1
theorem zli:FK 149 zqA:=EF.T1 (f:=f149) (keep:=k0) (e:=e0)
def Y5:=Y4.add 149 zqA
theorem Rn:zx Y5:=EF.add zli
def zmP:cy:={zeT with own:=Z}
theorem Rq:zx zmP:=⟨⟨xe.sh⟩,xe.fs,xe.mix⟩
def zne(x:zY):Tr (Empty⊕ay):=
 let a:=[x.2.1]
 let h:=[x.q.1]
 br (!x.q.1==[]) (I (K (N a+N h<=1073741824)) (re (AV.vec 0) [AO.vec Sh.str (a++h)]))
 (re (AV.vec 0) [AO.vec Sh.str a])
def nJ(x:zY):=am [Sh.str.sl] t0 100000000 (zne x)
def kO(x:zY):=(nJ x).isSome
def mF(x:zY):=o1 (nJ x)
def zj3:=FT [zZ] [Sh.str.sl] λx=>nJ x.1
theorem zkC:FK 60 zj3:=Rq.T1 (f:=f60) (keep:=k0) (e:=e0)
theorem zkD:FK 60 zj3:=zkC
def Y6:=Y5.add 60 zj3
theorem vQ:zx Y6:=Rn.add zkD
abbrev ld:List CP:=[.d .str,.d .str,.d .str,.d .str,.nil,.d zk,.nil,.nil,.d .str,.d zk,.d zk,.d .str,.d .str,.nil,.nil,.d zk]
abbrev NK:List CP:=[.d .str,.d .str,.d .str,.d .str,.nil,.d zk,.nil,.nil,.d .expr,.nil,.d zk]
abbrev V1:List CP:=[.d .str,.d .str,.d .str,.d .str,.vec zp,.d zk,.nil,.nil,.d .expr,.d (.sl zk),.d zk]
abbrev zmM:List CP:=[.d .str,.d .str,.d .str,.d .str,.d (.sl zp),.d zk,.nil,.nil,.d .expr,.d (.sl zk),.d zk]
abbrev YA:List CP:=[.d .str,.d .str,.d .str,.d .str,.vec zp,.d zk,.nil,.nil,.d .expr,.vec zk,.d zk]
def ztP(x h:zY):Tr (Empty⊕ay):=
 let a:=x.1==h.1
 let b:=x.2.1==h.2.1
 let c:=x.q.1==h.q.1
 let d:=x.u==h.u
 let g:=(x.r.1.1,x.r.1.2.1,x.r.1.q.1,x.r.1.r.1,x.r.1.t.1,zw x.r.1.u)
 let i:=(h.r.1.1,h.r.1.2.1,h.r.1.q.1,h.r.1.r.1,h.r.1.t.1,zw h.r.1.u)
 let j:=vt g i
 I
 (bif a then
  bif b then bif c then bif d then MX g i&&bif j then ME x.t.1 h.t.1 else Z else Z else Z else Z
 else Z)
 (re
  (AV.bool (cond a (cond b (cond c (cond d (cond j (qU x.t.1 h.t.1) M) M) M) M) M))
  [])
def Lv(x h:zY):=am [Q7] t0 100000000 (ztP x h)
def Lu(x h:zY):=(Lv x h).isSome
def Pb(x h:zY):=o1 (Lv x h)
def zpV:=FT [zZ,zZ] [Q7] λx=>Lv x.1 x.2.1
theorem zky:FK 86 zpV:=vQ.T1 (f:=f86) (keep:=k0) (e:=e0)
abbrev zPl:AV:=.agg [X [],X [],X [],X [],Qb,J 0,Qb,Qb,X [],J 0,J 0,X [],X [],Qb,Qb,J 0]
abbrev rE{h:Type}(e:Int):Tr (h⊕ay):=.re (.tup [zPl,J e]) []
abbrev zuk:Nat->aY:=λj=>if j=7 then{slots:=[0,3,4,8,9,10]}else if j=24 then{slots:=[3,4,8,11,13],prom:=[(8,Y 4,zp)]}else if j=38 then{slots:=[3,4,8,11,14,15,16]}else if j=48 then{slots:=[3,4,8,14,17],prom:=[(8,Y 14,.int .i64)]}else if j=64 then{slots:=[3,4,8,20]}else{ }
inductive me where
 |h7 (l0:zT) (l9:List (L Sh.str)) (i10:Int) (z0:zq [CP.d aB]) (z1:zq ld) (z2:zq NK)
 |h24 (i13:Int) (z0:zq [CP.d aB]) (z1:zq ld) (z2:zq V1) (z3:zq [CP.d ae])
 |h38 (i16:Int) (z0:zq [CP.d aB]) (z1:zq ld) (z2:zq NK) (z3:zq [CP.d ae]) (z4:zq [CP.d ae])
 |h64 (i20:Int) (z0:zq [CP.d aB]) (z1:zq ld) (z2:zq zmM)
 |h64b (i20:Int) (z0:zq [CP.d aB]) (z1:zq ld) (z2:zq NK)
 |h64bb (i20:Int) (z0:zq [CP.d aB]) (z1:zq ld) (z2:zq V1)
 |h38b (b15:Bool) (i16:Int) (z0:zq [CP.d aB]) (z1:zq ld) (z2:zq NK) (z3:zq [CP.d ae]) (z4:zq [CP.d ae])
 |h48 (i17:Int) (z0:zq [CP.d aB]) (z1:zq ld) (z2:zq YA) (z3:zq [CP.d ae])
 |h64bbb (i20:Int) (z0:zq [CP.d aB]) (z1:zq ld) (z2:zq YA)
abbrev zxq:me->Nat×St
 |.h7 m n g h x z=>(7,⟨tm 339 [(0,O zl m),(3,Qf 0 0),(4,Qf 1 0),(8,Qf 2 0),(9,O Sh.str n),(10,J g)],[Qa (bm [] [CP.d aB] h),Qa (bm [] ld x),Qa (bm [] NK z)]⟩)
 |.h24 j h x z b=>(24,⟨tm 339 [(3,Qf 0 0),(4,Qf 1 0),(8,Qf 2 0),(11,Qf 3 0),(13,J j)],[Qa (bm [] [CP.d aB] h),Qa (bm [] ld x),Qa (bm [4] V1 z),Qa (bm [] [CP.d ae] b),AO.vec zp z.t.1]⟩)
 |.h38 a h x z b l=>(38,⟨tm 339 [(3,Qf 0 0),(4,Qf 1 0),(8,Qf 2 0),(11,Qf 3 0),(14,Qf 4 0),(15,kb M),(16,J a)],[Qa (bm [] [CP.d aB] h),Qa (bm [] ld x),Qa (bm [] NK z),Qa (bm [] [CP.d ae] b),Qa (bm [] [CP.d ae] l)]⟩)
 |.h64 i h x z=>(64,⟨tm 339 [(3,Qf 0 0),(4,Qf 1 0),(8,Qf 2 0),(20,J i)],[Qa (bm [] [CP.d aB] h),Qa (bm [] ld x),Qa (bm [] zmM z)]⟩)
 |.h64b i h x z=>(64,⟨tm 339 [(3,Qf 0 0),(4,Qf 1 0),(8,Qf 2 0),(20,J i)],[Qa (bm [] [CP.d aB] h),Qa (bm [] ld x),Qa (bm [] NK z)]⟩)
 |.h64bb i h x z=>(64,⟨tm 339 [(3,Qf 0 0),(4,Qf 1 0),(8,Qf 2 0),(20,J i)],[Qa (bm [] [CP.d aB] h),Qa (bm [] ld x),Qa (bm [3] V1 z),AO.vec zp z.t.1]⟩)
 |.h38b c a h x z b l=>(38,⟨tm 339 [(3,Qf 0 0),(4,Qf 1 0),(8,Qf 2 0),(11,Qf 3 0),(14,Qf 4 0),(15,AV.bool c),(16,J a)],[Qa (bm [] [CP.d aB] h),Qa (bm [] ld x),Qa (bm [] NK z),Qa (bm [] [CP.d ae] b),Qa (bm [] [CP.d ae] l)]⟩)
 |.h48 k h x z b=>(48,⟨tm 339 [(3,Qf 0 0),(4,Qf 1 0),(8,Qf 2 0),(14,Qf 3 0),(17,J k)],[Qa (bm [] [CP.d aB] h),Qa (bm [] ld x),Qa (bm [4,5] YA z),Qa (bm [] [CP.d ae] b),AO.vec zp z.t.1,AO.vec zk z.w.1]⟩)
 |.h64bbb i h x z=>(64,⟨tm 339 [(3,Qf 0 0),(4,Qf 1 0),(8,Qf 2 0),(20,J i)],[Qa (bm [] [CP.d aB] h),Qa (bm [] ld x),Qa (bm [3,4] YA z),AO.vec zp z.t.1,AO.vec zk z.w.1]⟩)
def WA(a:L zl.sl)(h:zS):Tr (me⊕ay):=
 let b:=zw h.x.1
 let c:=(h.1,h.2.1,h.q.1,h.r.1,h.t.1,h.u.1,h.v.1,h.w.1,b,h.y.1,h.z.1,zw h.s.1,h.p)
 let i:=mN c
 let d:=!i.2
 let g:=(h.1,h.q.1,h.p,(h.2.1,[],0,[],[],b),[],0)
 I (jy c)
 (I (cond d Z (Gy a))
  (br (cond d Z (cond (Ma a !=0) Z (cond (!h.1==dp) (cond (!h.1==fD) (!h.1==na) M) M))) (rE 1) (I (kO g) (Q9 (me.h7 a (mF g) 0 (h,()) ([],[],[],[],0,[],0,0,[],[],0,()) (h.1,h.q.1,h.p,h.2.1,0,h.x.1,0,()))))))
def eA:me->Tr (me⊕ay)
 | .h7 o C s h d z=>
  let k:=mO o (C.getD s.toNat (Q Sh.str))
  let b:=mO o h.1.2.1
  let g:=mO o h.1.q.1
  let a:=o.getD (W g) (Q zl)
  let A:=qd a.1.2.1 h.1.r.1
  let m:=tK a.1.2.1 h.1.r.1
  let P:=m.2!=0
  let a7:=(z.u.1,m.1,z.v)
  let a8:=(a.1,())
  let a9:=mO o h.1.p
  let D:=gZ a.1.2.1 h.1.u.1
  let h0:=o.getD (W a9) (Q zl)
  let E:=T m.1 (W 0) (Q zk)
  let F:=T m.1 (W 1) (Q zk)
  let y:=T a.1.2.1 (W F) (Q zp)
  let H:=T a.1.2.1 (W E) (Q zp)
  br (K (s<(N C:Int)))
  (I (zK s (N C)) (br (K (k<0)) (rE 6) (Q9 (me.h7 o C (Γ Δ (s+1)) h d z))))
  (br (cond (K (b>=0)) Z (h.1.q.1==h.1.p)) (rE 7) (I (wn o C) (br (A8 o C) (rE 10) (I (zK g (N o)) (br (h.1.1==dp) (I A (br P (rE m.2) (Q9 (me.h24 0 h d (z.1,z.2.1,z.q.1,z.r.1,[],-1,a7) a8)))) (br (h.1.1==fD) (I (zK a9 (N o))
  (I (fq a.1.2.1 h.1.u.1) (br (K (D<0)) (rE 4) (Q9
  (me.h38 0 h d (z.1,z.2.1,z.q.1,z.r.1,z.t.1,z.u.1,D,()) a8 (h0.1,())))))) (br (h.1.1==na) (I A (br P (rE m.2) (I (zK 0 (N m.1)) (I (zK E (N a.1.2.1)) (I (zK 1 (N m.1)) (I (zK F (N a.1.2.1)) (br (y.2.1!=1) (rE 5) (Q9 (me.h64 0 h d (z.1,z.2.1,z.q.1,z.r.1,[(H.1,H.2.1,Z),(y.1,y.2.1,M)],z.t.1,a7)))))))))) (Q9 (me.h64b 0 h d z)))))))))
 | .h24 n h d z c=>
  let k:=(N z.w.1:Int)
  let b:=zK n (N z.w.1)
  let g:=T z.w.1 n.toNat (Q zk)
  let a:=zK g (N c.1.2.1)
  let A:=[T c.1.2.1 (W g) (Q zp)]
  let m:=K (N z.t.1+N A<=1073741824)
  let P:=Γ Δ (n+1)
  let a7:=z.t.1++A
  br (K (n<k))
  (I b (br (g==c.1.q.1) (I b (I a (I m (Q9 (me.h24 P h d (z.1,z.2.1,z.q.1,z.r.1,a7,n,z.v) c))))) (I b (I a (I m (Q9 (me.h24 P h d (z.1,z.2.1,z.q.1,z.r.1,a7,z.u) c)))))))
  (br (K (z.u.1<0)) (rE 1) (Q9 (me.h64bb 0 h d z)))
 | .h38 j h d z c z4=>
  let k:=(N c.1.t.1:Int)
  let b:=zK j (N c.1.t.1)
  let g:=T c.1.t.1 j.toNat (Q zI)
  let a:=g.1==z.v.1
  br (K (j<k))
  (I (b&&bif a then b else Z) (Q9 (me.h38b (cond a (g.2==h.1.p) M) (Γ Δ (j+1)) h d z c z4)))
  (rE 10)
 | .h64 i h d z=>
  let k:=(N z.t.1:Int)
  let b:=T z.t.1 i.toNat (Q zp)
  let g:=zw h.1.x.1
  let a:=sx g z.t.1
  br (K (i<k))
  (I (zK i (N z.t.1)) (I (fq z.t.1 b.1) (br (gZ z.t.1 b.1!=i) (rE 7)
  (Q9 (me.h64 (Γ Δ (i+1)) h d z)))))
  (I (qt g z.t.1) (br (a !=0) (rE a) (re (tup [agg ([X z.1,X z.2.1,X z.q.1,X z.r.1,O zp z.t.1,J z.u.1,Qb,Qb]++xE z.v.1++[O zk z.w.1,J z.x.1]),J 0])
  [])))
 | .h64b i h _ z=>
  let k:=zw h.1.x.1
  let b:=sx k []
  br (K (i<0)) Tr.err
  (I (qt k []) (br (b !=0) (rE b) (re (tup [agg ([X z.1,X z.2.1,X z.q.1,X z.r.1,Qb,J z.t.1,Qb,Qb]++xE z.u.1++[Qb,J z.v.1]),
  J 0]) [])))
 | .h64bb i h d z=>
  let k:=(N z.t.1:Int)
  let b:=z.t.1.getD i.toNat (Q zp)
  let g:=zw h.1.x.1
  let a:=sx g z.t.1
  br (K (i<k))
  (I (zK i (N z.t.1)) (I (K (i.toNat<N z.t.1)) (I (fq z.t.1 b.1) (br (gZ z.t.1 b.1!=i) (rE 7)
  (Q9 (me.h64bb (Γ Δ (i+1)) h d z))))))
  (I (qt g z.t.1) (br (a !=0) (rE a) (re (tup [agg ([X z.1,X z.2.1,X z.q.1,X z.r.1,AV.vec 0,J z.u.1,Qb,Qb]++xE z.v.1++[O zk z.w.1,J z.x.1]),J 0]) [AO.vec zp z.t.1])))
 | .h38b B j h d z c z4=>
  let k:=(N c.1.t.1:Int)
  let b:=zK j (N c.1.t.1)
  let g:=T c.1.t.1 j.toNat (Q zI)
  let a:=g.1==z.v.1
  let A:=Γ Δ ((N c.1.2.1:Int)+(N z4.1.2.1:Int))
  br (K (j<k))
  (I (cond B Z (b&&bif a then b else Z)) (Q9 (me.h38b (cond B Z (cond a (g.2==h.1.p) M)) (Γ Δ (j+1)) h d z c z4)))
  (br (!B) (rE 10) (br (K (A>9)) (rE 13) (I (K (N c.1.2.1<=1073741824)) (Q9 (me.h48 0 h d (z.1,z.2.1,z.q.1,z.r.1,c.1.2.1,c.1.q.1,z.u.1,[],z.v) z4)))))
 | .h48 l h d z c=>
  let k:=(N c.1.2.1:Int)
  let b:=[T c.1.2.1 l.toNat (Q zp)]
  let g:=Γ Δ (l+1)
  br (K (l<k))
  (br (l !=c.1.q.1) (I (K (N z.w.1+[l].length<=1073741824)) (I (zK l (N c.1.2.1)) (I (K (N z.t.1+N b<=1073741824)) (Q9 (me.h48 g h d (z.1,z.2.1,z.q.1,z.r.1,z.t.1++b,z.u.1,z.v.1,z.w.1++[l],z.x) c)))))
  (Q9 (me.h48 g h d z c)))
  (Q9 (me.h64bbb 0 h d z))
 | .h64bbb i h d z=>
  let k:=(N z.t.1:Int)
  let b:=z.t.1.getD i.toNat (Q zp)
  let g:=zw h.1.x.1
  let a:=sx g z.t.1
  br (K (i<k))
  (I (zK i (N z.t.1)) (I (K (i.toNat<N z.t.1)) (I (fq z.t.1 b.1) (br (gZ z.t.1 b.1!=i) (rE 7)
  (Q9 (me.h64bbb (Γ Δ (i+1)) h d z))))))
  (I (qt g z.t.1) (br (a !=0) (rE a) (re (tup [agg ([X z.1,X z.2.1,X z.q.1,X z.r.1,AV.vec 0,J z.u.1,Qb,Qb]++xE z.v.1++[AV.vec 1,J z.x.1]),J 0]) [AO.vec zp z.t.1,AO.vec zk z.w.1])))
def F8(x:L zl.sl)(h:zS):=am [zZ,zk] eA 100000000 (WA x h)
def LB(x:L zl.sl)(h:zS):=(F8 x h).isSome
def UD(x:L zl.sl)(h:zS):=o2 (F8 x h)
def zpR:=FT [zl.sl,aB] [zZ,zk] λx=>F8 x.1 x.2.1
theorem zkv:FK 27 zpR:=vQ.T1 (f:=f27) (keep:=zuk) (e:=zxq)
def KV:=Y6.addL [(86,zpV),(27,zpR)]
theorem Ro:zx KV:=vQ.addL<|fc zky<|fc zkv<|iP
open Go.RowKit Go.Lib in
theorem zdT:FK 83 (af [.str,.str] [zk] (λ_=>Z) λx=>(Lib.compareBytes x.1 x.2.1,())):=by
 refine fU (E:=KV) ⟨f83,kw,kw,kw⟩ λx A o d=>?_
 unfold gu at d;split at d
 .simp only[Tr.val,zi,bH]at d;subst d;have⟨s,t,u⟩:=x;intro C w U ρ v _ c k h j l;have m:=c.len
  match v,m,c with
  | [p,z],_,c=>
   have g:=c.rv 0 (.str s) p rfl rfl;have i:=c.rv 1 (.str t) z rfl rfl;cases g with
   |str _ B=>
   cases i with
   |str _ D=>
   refine(Tryz.strings_Compare ⟨s.toArray⟩ ⟨t.toArray⟩ w).mono ?_;rintro e F ⟨rfl,rfl⟩;refine fG k h j l (Below.refl _ _) (.int _ _ ?_);have:∀a b:List UInt8,-1<=Lib.compareBytes a b/\Lib.compareBytes a b<=1:=by
    intro a
    induction a with
    |nil=>intro b;cases b<;>simp[Lib.compareBytes]
    | cons x r n=>
     intro b;cases b with
     |nil=>simp[Lib.compareBytes]
     | cons y q=>
      unfold Lib.compareBytes;split
      .simp
      .split
       .simp
       .exact n q
   have⟨g,i⟩:=this s t;exact⟨Int.le_trans (by decide:(-9223372036854775808:Int)<=-1) g,Int.le_trans i (by decide:(1:Int)<=9223372036854775807)⟩
 .simp at d
def zqI:ak:=ba [.str,.str] [zk] λx=>(Lib.compareBytes x.1 x.2.1,())
theorem zlt:FK 83 zqI:=Tc zdT
theorem wP:∀(f x:Nat),Lib.bitLenAux f x<=f
 |0,_=>zR _
 | f+1,x=>by
  unfold Lib.bitLenAux;split
  .omega
  .have:=wP f (x/2);omega
open Go.RowKit Go.Lib in
theorem zcV:FK 152 (af [.int .u64] [zk] (λx=>K (0<=x.1/\x.1<=1000000)) λx=>((Lib.bitLen x.1.toNat:Nat),())):=by
 refine fU (E:=KV) ⟨f152,kw,kw,kw⟩ λx o l h=>?_
 unfold gu at h;split at h
 .simp only[Tr.val]at h;split at h
  .rename_i c;simp only[bH]at h;subst h;have⟨n,u⟩:=x;simp only[bc]at c;intro C w U ρ v _ b i a d j;have k:=b.len
   match v,k,b with
   | [m],_,b=>
    have g:=b.rv 0 (.int .u64 n) m rfl rfl;cases g with
    |int _ _ p=>
    refine(Tryz.bits_Len n w c.1 (Int.le_trans c.2 (by decide))).mono ?_;rintro e q ⟨rfl,rfl⟩;refine fG i a d j (Below.refl _ _) (.int _ _ ?_);have:=wP 64 n.toNat;exact⟨Int.le_trans (by decide:(-9223372036854775808:Int)<=0) (Int.natCast_nonneg _),Int.le_trans (Int.ofNat_le.2 this) (by decide:((64:Nat):Int)<=9223372036854775807)⟩
  .simp at h
 .simp at h
def zgY:ak:=af [.int .u64] [zk] (λx=>K (0<=x.1/\x.1<=1000000)) λx=>((Lib.bitLen x.1.toNat:Nat),())
theorem zcW:FK 152 zgY:=zcV
def ziS:=KV.addL [(137,F91),(83,zqI),(152,zgY)]
theorem ti:zx ziS:=Ro.addL<|fc zsr<|fc zlt<|fc zcW iP
end
end Cad
namespace Go.Proofs
open Go.RowKit Go.Shelf Go.Sort
open Bool renaming false->Q4,true->Q3
open Option renaming none->Q2,some->Q1
open Decidable renaming decide->Q0
open Int (toNat)
open List (getD length)
set_option maxHeartbeats 1000000 in
theorem Tryz.name52(s:ByteArray)(v1 v2 v3 v4 v5 v6 v7 v8 v9 v10 v11:Value)(W:World):Calls Tryz.prog 78 #[.agg #[.string s,v1,v2,v3,v4,v5,v6,v7,v8,v9,v10,v11]] W λe w'=>e=.returned (.string s)/\w'=W.alloc (.cells #[.string s,v1,v2,v3,v4,v5,v6,v7,v8,v9,v10,v11] 38):=by
 go_enter Tryz.func78,Tryz.ntmps78
 go_wp2
 go_ret
 exact⟨rfl,rfl⟩
set_option maxHeartbeats 4000000 in
theorem Tryz.cmp56(s t:ByteArray)(v1 v2 v3 v4 v5 v6 v7 v8 v9 v10 v11 u1 u2 u3 u4 u5 u6 u7 u8 u9 u10 u11:Value)(nb:Nat)(W:World)(hn:W.cell? ⟨nb,0,Q2⟩=Q1 (.func (.func 78) #[] #[]))(hnb:nb<W.heap.size):
  Calls Tryz.prog 82 #[.agg #[.string s,v1,v2,v3,v4,v5,v6,v7,v8,v9,v10,v11],.agg #[.string t,u1,u2,u3,u4,u5,u6,u7,u8,u9,u10,u11],.pointer (Q1 ⟨nb,0,Q2⟩)] W λe w'=>e=.returned (.int .i64 (Lib.compareBytes s.data.toList t.data.toList))/\∃q os',w'=grow (W.drewN q) os':=by
 have h52:∀(s:ByteArray)(v1 v2 v3 v4 v5 v6 v7 v8 v9 v10 v11:Value)(W':World),Calls Tryz.prog 78 #[.agg #[.string s,v1,v2,v3,v4,v5,v6,v7,v8,v9,v10,v11]] W' λe w'=>e=.returned (.string s)/\∃q os',w'=grow (W'.drewN q) os':=λs v1 v2 v3 v4 v5 v6 v7 v8 v9 v10 v11 W'=>(Tryz.name52 s v1 v2 v3 v4 v5 v6 v7 v8 v9 v10 v11 W').mono λe w' h=>⟨h.1,0,_,h.2.trans (alloc_eq_grow _ _)⟩
 have h57:∀W',Calls Tryz.prog 83 #[.string s,.string t] W' λe w'=>e=.returned (.int .i64 (Lib.compareBytes s.data.toList t.data.toList))/\∃q os',w'=grow (W'.drewN q) os':=λW'=>(Tryz.strings_Compare s t W').mono λe w' h=>⟨h.1,0,#[],by rw[h.2,grow_empty];rfl⟩
 have mixed:Tryz.prog.follows .mixedOrders=Q3:=by kernel_rfl
 generalize Lib.compareBytes s.data.toList t.data.toList=r at h57|-
 go_enter Tryz.func82,Tryz.ntmps82
 go_wp2
 obtain⟨W2,hW2⟩:∃W2,(W.alloc (.cells #[.string s,v1,v2,v3,v4,v5,v6,v7,v8,v9,v10,v11] 38)).alloc (.cells #[.string t,u1,u2,u3,u4,u5,u6,u7,u8,u9,u10,u11] 38)=W2:=⟨_,rfl⟩;rw[hW2];have hnn:∀n os,(grow (W2.drewN n) os).cell? ⟨nb,0,Q2⟩=Q1 (.func (.func 78) #[] #[]):=cell_grown (by rw[<-hW2];simp;omega) (by rw[<-hW2,World.cell?_alloc_past _ _ _ (by simp;omega),World.cell?_alloc_past _ _ _ hnb];exact hn);have x0:∀n os,(grow (W2.drewN n) os).cell? ⟨W.heap.size,0,Q2⟩=Q1 (.string s):=cell_grown (by rw[<-hW2];simp<;>omega) (by rw[<-hW2];simp);have y0:∀n os,(grow (W2.drewN n) os).cell? ⟨W.heap.size+1,0,Q2⟩=Q1 (.string t):=cell_grown (by rw[<-hW2];simp<;>omega) (by rw[<-hW2];simp);have x1:∀n os,(grow (W2.drewN n) os).cell? ⟨W.heap.size,1,Q2⟩=Q1 v1:=cell_grown (by rw[<-hW2];simp<;>omega) (by rw[<-hW2];simp);have y1:∀n os,(grow (W2.drewN n) os).cell? ⟨W.heap.size+1,1,Q2⟩=Q1 u1:=cell_grown (by rw[<-hW2];simp<;>omega) (by rw[<-hW2];simp);have x2:∀n os,(grow (W2.drewN n) os).cell? ⟨W.heap.size,2,Q2⟩=Q1 v2:=cell_grown (by rw[<-hW2];simp<;>omega) (by rw[<-hW2];simp);have y2:∀n os,(grow (W2.drewN n) os).cell? ⟨W.heap.size+1,2,Q2⟩=Q1 u2:=cell_grown (by rw[<-hW2];simp<;>omega) (by rw[<-hW2];simp);have x3:∀n os,(grow (W2.drewN n) os).cell? ⟨W.heap.size,3,Q2⟩=Q1 v3:=cell_grown (by rw[<-hW2];simp<;>omega) (by rw[<-hW2];simp);have y3:∀n os,(grow (W2.drewN n) os).cell? ⟨W.heap.size+1,3,Q2⟩=Q1 u3:=cell_grown (by rw[<-hW2];simp<;>omega) (by rw[<-hW2];simp);have x4:∀n os,(grow (W2.drewN n) os).cell? ⟨W.heap.size,4,Q2⟩=Q1 v4:=cell_grown (by rw[<-hW2];simp<;>omega) (by rw[<-hW2];simp);have y4:∀n os,(grow (W2.drewN n) os).cell? ⟨W.heap.size+1,4,Q2⟩=Q1 u4:=cell_grown (by rw[<-hW2];simp<;>omega) (by rw[<-hW2];simp);have x5:∀n os,(grow (W2.drewN n) os).cell? ⟨W.heap.size,5,Q2⟩=Q1 v5:=cell_grown (by rw[<-hW2];simp<;>omega) (by rw[<-hW2];simp);have y5:∀n os,(grow (W2.drewN n) os).cell? ⟨W.heap.size+1,5,Q2⟩=Q1 u5:=cell_grown (by rw[<-hW2];simp<;>omega) (by rw[<-hW2];simp);have x6:∀n os,(grow (W2.drewN n) os).cell? ⟨W.heap.size,6,Q2⟩=Q1 v6:=cell_grown (by rw[<-hW2];simp<;>omega) (by rw[<-hW2];simp);have y6:∀n os,(grow (W2.drewN n) os).cell? ⟨W.heap.size+1,6,Q2⟩=Q1 u6:=cell_grown (by rw[<-hW2];simp<;>omega) (by rw[<-hW2];simp);have x7:∀n os,(grow (W2.drewN n) os).cell? ⟨W.heap.size,7,Q2⟩=Q1 v7:=cell_grown (by rw[<-hW2];simp<;>omega) (by rw[<-hW2];simp);have y7:∀n os,(grow (W2.drewN n) os).cell? ⟨W.heap.size+1,7,Q2⟩=Q1 u7:=cell_grown (by rw[<-hW2];simp<;>omega) (by rw[<-hW2];simp);have x8:∀n os,(grow (W2.drewN n) os).cell? ⟨W.heap.size,8,Q2⟩=Q1 v8:=cell_grown (by rw[<-hW2];simp<;>omega) (by rw[<-hW2];simp);have y8:∀n os,(grow (W2.drewN n) os).cell? ⟨W.heap.size+1,8,Q2⟩=Q1 u8:=cell_grown (by rw[<-hW2];simp<;>omega) (by rw[<-hW2];simp);have x9:∀n os,(grow (W2.drewN n) os).cell? ⟨W.heap.size,9,Q2⟩=Q1 v9:=cell_grown (by rw[<-hW2];simp<;>omega) (by rw[<-hW2];simp);have y9:∀n os,(grow (W2.drewN n) os).cell? ⟨W.heap.size+1,9,Q2⟩=Q1 u9:=cell_grown (by rw[<-hW2];simp<;>omega) (by rw[<-hW2];simp);have x10:∀n os,(grow (W2.drewN n) os).cell? ⟨W.heap.size,10,Q2⟩=Q1 v10:=cell_grown (by rw[<-hW2];simp<;>omega) (by rw[<-hW2];simp);have y10:∀n os,(grow (W2.drewN n) os).cell? ⟨W.heap.size+1,10,Q2⟩=Q1 u10:=cell_grown (by rw[<-hW2];simp<;>omega) (by rw[<-hW2];simp);have x11:∀n os,(grow (W2.drewN n) os).cell? ⟨W.heap.size,11,Q2⟩=Q1 v11:=cell_grown (by rw[<-hW2];simp<;>omega) (by rw[<-hW2];simp);have y11:∀n os,(grow (W2.drewN n) os).cell? ⟨W.heap.size+1,11,Q2⟩=Q1 u11:=cell_grown (by rw[<-hW2];simp<;>omega) (by rw[<-hW2];simp);have hgr:∃os0,W2=grow W os0:=⟨_,by rw[<-hW2,alloc_eq_grow,alloc_eq_grow,grow_grow]⟩;clear hW2 hn
 go_quiet_grown (first|(go_at_call 78;refine Calls.grown_of (h52 _ _ _ _ _ _ _ _ _ _ _ _ _))|(go_at_call 83;refine Calls.grown_of (h57 _)))
 obtain⟨os0,rfl⟩:=hgr
 go_wp2
 go_ret
 exact⟨rfl,nq,os0++osq,by show grow (grow (W.drewN nq) os0) osq=_;rw[grow_grow]⟩
end Go.Proofs
namespace Cad
open Go Go.Proofs Go.Sort Tryz
open List renaming length->N
open IntKind renaming wrap->Γ,i64->Δ
open AV renaming ptr->Qf,nils->Qb
open Tr renaming chk->Qc,«to»->Q9
open AO renaming box->Qa
open Sh renaming bool->Q7,expr->Q5
open Bool renaming false->Q4,true->Z
open Option renaming none->Q2,some->Y
open Decidable renaming decide->Q0
open Int (toNat)
open List (getD)
open Cad renaming Sem->L
set_option maxHeartbeats 4000000
open Tr (chk br)
open AV (nils agg tup ptr kb str sl)
abbrev Pl(w:World)(U:Nat->Prop)(ρ:Nat->Option Value)(e:Sh)(G:L e->Prop):={p:List Value×L e//N p.1=e.size/\(∀v∈p.1,v.oneCell'=Z)/\(∀(j:Nat)(c:AV),(zF e p.2)[j]?=Y c->∃v,p.1[j]?=Y v/\Rv w U ρ c v)/\G p.2}
section
variable {w:World} {U:Nat->Prop} {ρ:Nat->Option Value} {e:Sh} {G:L e->Prop}
variable {α:Type}{n:Nat}{os:Array Obj}
theorem xr[Inhabited α]{enc:α->List Value}{k g:Nat}{c:Array Value}{h:TypeId}(d:Array α)(x:w.heap[g]?=Y (.cells c h (0,0))):
  (sortWorldK enc k w g 0 n d os).heap[g]?=Y (.cells (putCells id 0 (flatK enc k d) c) h (0,0)):=by have a:g<w.heap.size:=(mZ.1 x).1;unfold sortWorldK;rw[heap_grow_old _ _ (by simpa[putRowK]using a)];simp[putRowK,putRow,mapBlock,Sort.ahead,uN,x,onCells]
theorem iQ[Inhabited α]{h:α->List Value}{k g:Nat}(d:Array α){b:Nat}(a:b<w.heap.size)(x:b≠g):(sortWorldK h k w g 0 n d os).heap[b]?=w.heap[b]?:=by
 unfold sortWorldK;rw[heap_grow_old _ _ (by simpa[putRowK]using a)];have:g≠b:=λe=>x e.symm
 simp[putRowK,putRow,mapBlock,Sort.ahead,uN,this]
variable {l:List (L e)}{v:Value}
theorem Xz{id:Nat}(_:0<e.size)(ho:bz w U ρ id (.vec e l))(hv:ρ id=Y v)(hl:l≠[])(hG:∀x∈l,G x):
  ∃(B n:Nat)(b:TypeId)(g:Array Value)(d:Array (Pl w U ρ e G)),v=.slice (Y ⟨B,0,Q2⟩) (N l) n/\U B/\w.heap[B]?=Y (.cells g b (0,0))/\g.size=n*e.size/\N l<=n/\N l<=aF/\0<n/\
   d.size=N l/\d.toList.map (λp=>p.1.2)=l/\∀i(z:i<d.size)(j:Nat),j<e.size->g[i*e.size+j]?=d[i].1.1[j]?:=by
 have⟨a,c,o,hm,A⟩:=ho;rw[hv]at o;cases o;rcases A with⟨h,_⟩|⟨B,b,g,rfl,hc,D,hB,H,F,hr⟩
 .exact zB h hl
 have s:∀i(z:i<N l) j,j<e.size->∃t x,(zF e l[i])[j]?=Y t/\g[i*e.size+j]?=Y x/\Rv w U ρ t x/\x.oneCell'=Z:=by
  intro i z j q;have k:(zF e l[i])[j]?=Y ((zF e l[i])[j]'(by rw[au];exact q)):=aj _;have⟨x,o,m⟩:=hr i z j _ k;exact⟨_,x,k,o,m,gJ e l[i] j _ x k m⟩
 refine⟨B,c,b,g,Array.ofFn λi:Fin (N l)=>⟨((List.range e.size).map λj=>(g[i.1*e.size+j]?).getD undef,l[i.1]),sw,λx hx=>?_,λj t u=>?_,hG _ (bh _)⟩,rfl,D,hB,H,F,hm,hc,sw,?_,λi z j q=>?_⟩
 .obtain⟨j,q,rfl⟩:=bt.1 hx;have⟨t,y,_,m,_,h4⟩:=s i.1 i.2 j (by simpa using q);rw[m];exact h4
 .have q:j<e.size:=by have:=(dF.1 u).1;rwa [au]at this
  have⟨c',y,o,m,A,_⟩:=s i.1 i.2 j q;have C:(zF e l[i.1])[j]?=Y t:=u;rw[C]at o;cases o;refine⟨y,?_,A⟩;rw[dN,BG q];simp[m]
 .apply List.ext_getElem
  .simp
  .intro i o m;simp
 .have E:i<N l:=by simpa using z
  have⟨c',y,o,m,A,_⟩:=s i E j q;rw[m];simp only[Array.getElem_ofFn];rw[dN,BG q];simp[m]
theorem zcA{hp:Nat->AO}{id f:Nat}{fv:Value}(x5:L e->L e->Int)(A:0<e.size)(a6:∀b,U b->b<w.heap.size)(ho:hp id=.vec e l)(i8:bz w U ρ id (.vec e l))(hv:ρ id=Y v)(hl:l≠[])(hG:∀x∈l,G x)
  (x0:∀(_:Inhabited (Pl w U ρ e G))(B C:Nat)(d:Array (Pl w U ρ e G)),d.size=N l->HoldsK (λp=>p.1.1) e.size w B 0 d->B<w.heap.size->ar ρ id (.vec e l) B->
   Calls prog f #[.slice (Y ⟨B,0,Q2⟩) d.size C,fv] w λe' w'=>e'=.returned (.tuple #[])/\∃(s:Array (Pl w U ρ e G))(m:Nat)(os:Array Obj),PermIn 0 d.size d s/\SortedIn (ltOf λp q=>x5 p.1.2 q.1.2) 0 d.size s/\w'=sortWorldK (λp=>p.1.1) e.size w B 0 m s os):
  Calls prog f #[v,fv] w λe' w'=>∃l',List.Perm l' l/\l'.Pairwise (λx y=>¬x5 y x<0)/\∃v' U' ρ',e'=.returned v'/\Ef n hp {val:=.tup [],wr:=[(id,.vec e l')]} w U ρ v' w' U' ρ':=by
 obtain⟨B,C,g,a7,d,rfl,h9,hB,a5,a1,hm,i1,F,i3,i2⟩:=Xz (G:=G) A i8 hv hl hG;have j2:0<d.size:=by rw[F];exact List.length_pos_iff.2 hl
 have x6:=a6 B h9;have P:ar ρ id (.vec e l) B:=⟨rfl,_,hv,by simp[cf];omega⟩
 letI h7:Inhabited (Pl w U ρ e G):=⟨d[0]⟩
 have hH:HoldsK (λp:Pl w U ρ e G=>p.1.1) e.size w B 0 d:=by
  intro t ht;rw[size_flatK]at ht;have hq:t/e.size<d.size:=(Nat.div_lt_iff_lt_mul A).2 ht;have hr:t%e.size<e.size:=Nat.mod_lt _ A;have hk:=i2 _ hq _ hr;have x9:t/e.size*e.size+t%e.size=t:=by have:=Nat.div_add_mod t e.size;rw[Nat.mul_comm]at this;exact this
  rw[x9]at hk;have h6:d[t/e.size].1.1.length=e.size:=d[t/e.size].2.1;rw[aj (by rw[h6];exact hr)]at hk;refine⟨?_,by simp[World.frozen?,hB]⟩;rw[get_flatK _ _ _ _ ht,getElem!_pos d _ hq,getElem!_pos _ _ (by rw[h6];exact hr)];simp[World.cell?,hB,hk]
 have x8:=x0 h7 B C d F hH x6 P;rw[F]at x8;refine x8.mono ?_;rintro e' w' ⟨rfl,s,m,os,a3,a4,rfl⟩;rw[<-F]at a3 a4;have⟨x4,_,x3⟩:=a3;have H:s.size=N l:=by rw[x4,F]
 have i9:s.toList.Perm d.toList:=by
  have e1:s.extract 0 d.size=s:=by rw[<-x4];simp
  have e2:d.extract 0 d.size=d:=by simp
  rwa [e1,e2]at x3
 have h8:=xr (enc:=λp:Pl w U ρ e G=>p.1.1) (k:=e.size) (n:=m) (os:=os) s hB;have z:∀b,b<w.heap.size->b≠B->(sortWorldK (λp:Pl w U ρ e G=>p.1.1) e.size w B 0 m s os).heap[b]?=w.heap[b]?:=λb hb i6=>iQ s hb i6
 have u:w.heap.size<=(sortWorldK (λp:Pl w U ρ e G=>p.1.1) e.size w B 0 m s os).heap.size:=by
  unfold sortWorldK grow putRowK;simp[Sort.ahead]
 have h5:lz w (sortWorldK (λp:Pl w U ρ e G=>p.1.1) e.size w B 0 m s os):=⟨u,rfl,rfl,rfl,λa ha=>by
  by_cases x7:a.block=B
  .unfold World.frozen?;rw[x7,h8,hB]
  .exact BF (z a.block ha x7)⟩
 generalize sortWorldK (λp:Pl w U ρ e G=>p.1.1) e.size w B 0 m s os=w' at h8 z u h5;have x1:∀{c:AV}{x:Value},Rv w U ρ c x->Rv w' U ρ c x:=λh=>h.mono u (λb hb hU=>z b hb λhe=>hU (he▸h9)) (λ_ _ h=>h) (λ_ _ h=>h)
 have h4:(s.toList.map λp=>p.1.2).length=N l:=by simp[H]
 refine⟨s.toList.map λp=>p.1.2,by rw[<-i3];exact i9.map _,?_,_,U,ρ,rfl,?_⟩
 .rw[List.pairwise_map];refine List.pairwise_iff_getElem.2 λi j hi hj i4=>?_
  have h3:i<s.size:=by simpa using hi
  have a0:j<s.size:=by simpa using hj
  have:=a4 i j (aK _) i4 (by rw[<-x4];exact a0);rw[getElem!_pos s _ a0,getElem!_pos s _ h3]at this;simp only[ltOf,ed]at this;simpa using this
 .have a2:bz w' U ρ id (.vec e (s.toList.map λp=>p.1.2)):=by
   refine⟨Y ⟨B,0,Q2⟩,C,by rw[h4];exact hv,by rw[h4];exact hm,.inr ⟨B,g,_,rfl,i1,h9,h8,by simp[putCells,a5],by rw[h4];exact a1,?_⟩⟩;intro i hi j c hc;have h3:i<s.size:=by rw[H,<-h4];exact hi
   have hj:j<e.size:=by have:=(dF.1 hc).1;rwa [au]at this
   have i0:(zF e s[i].1.2)[j]?=Y c:=by simpa using hc
   have⟨x,D,E⟩:=s[i].2.2.2.1 j c i0;refine⟨x,?_,x1 E⟩;have ht:i*e.size+j<s.size*e.size:=by
    have:=fM e.size (Im h3);rw[jP]at this;omega
   have j0:i*e.size+j<a7.size:=by
    rw[a5];have:=fM e.size (show s.size<=C by rw[H];exact a1);omega
   have a8:(i*e.size+j)/e.size=i:=by
    rw[kY,Nat.add_mul_div_right _ _ A,Nat.div_eq_of_lt hj];omega
   have a9:(i*e.size+j)%e.size=j:=by
    rw[kY,Nat.add_mul_mod_self_right,Nat.mod_eq_of_lt hj]
   have h0:=get_flatK (λp:Pl w U ρ e G=>p.1.1) e.size s _ ht;rw[a8,a9,getElem!_pos s _ h3]at h0;have hx:s[i].1.1[j]! =x:=by
    have⟨i5,he⟩:=dF.1 D;rw[getElem!_pos s[i].1.1 j i5];exact he
   rw[hx]at h0;rw[getElem!_pos _ _ (by simpa using ht)]at h0;simp[putCells,j0,ht,h0]
  have x2:∀b,ar ρ id (.vec e (s.toList.map λp=>p.1.2)) b->b=B:=by
   rintro b ⟨_,v,D,E⟩;rw[hv]at D;cases D;simp[cf]at E;exact E.2.symm
  refine⟨h5,.tup [] [] rfl sw,λj1 o h=>?_,sw,λ_ _=>rfl,λ_ _ h=>h,λb hb i7=>z b hb λhe=>i7 id (.vec e (s.toList.map λp=>p.1.2)) sw (by rw[ho,he];exact P),λb h=>ie (a6 b h) u,λ_ _ h=>h,λ_ _ h _=>h,?_,?_⟩
  .simp at h;obtain⟨rfl,rfl⟩:=h;exact a2
  .intro j1 o b h hb;refine .inr ⟨id,.vec e (s.toList.map λp=>p.1.2),sw,?_⟩;rcases h with h|⟨_,h⟩
   .simp at h;obtain⟨rfl,rfl⟩:=h;rw[x2 b hb,ho];exact P
   .simp at h
  .intro j3 o1 j4 o2 b D E _ _;rcases D with D|⟨_,D⟩
   .rcases E with E|⟨_,E⟩
    .simp at D E;rw[D.1,E.1]
    .simp at E
   .simp at D
end
end Cad
