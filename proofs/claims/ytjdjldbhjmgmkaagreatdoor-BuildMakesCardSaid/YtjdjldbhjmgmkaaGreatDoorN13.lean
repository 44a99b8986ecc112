/- The document's reader. -/
import Derived.Test.YtjdjldbhjmgmkaaGreatDoorN12
namespace Cad
open Go Go.Proofs Tryz
open List (getD)
open List renaming map->Qi,drop->Qh,take->Qg,length->N
open IntKind renaming wrap->Γ,i64->Δ
open AV renaming ptr->Qf,tup->Qe,agg->Qd,nils->Qb
open Tr renaming «to»->Q9,chk->I
open AO renaming box->Qa
open Sh renaming bool->Q7,str->Q6,expr->Q5
open Bool renaming true->Z,false->M
open Option renaming some->Y
open Decidable renaming decide->K
open Int renaming toNat->W
open List renaming getD->T
open Tr (chk br re)
open AV (nils agg tup ptr kb)
open AV renaming str->X,sl->O
open Cad renaming Sem->L,ai->J,zj->Q,ze->R
noncomputable section
set_option maxHeartbeats 4000000
def zjg(x:L (Sh.int IntKind.u8)):Tr (Empty⊕ay):=
 I (kP x&&bif lK x then Z else pk x) (re (AV.bool (cond (lK x) Z (cond (sC x) Z (x==95)))) [])
def yj(x:L (Sh.int IntKind.u8)):=am [Q7] t0 100000000 (zjg x)
def yi(x:L (Sh.int IntKind.u8)):=(yj x).isSome
def GC(x:L (Sh.int IntKind.u8)):=o1 (yj x)
def zhm:=FT [Sh.int IntKind.u8] [Q7] λx=>yj x.1
theorem zdk:FK 132 zhm:=mq.T1 (f:=f132) (keep:=k0) (e:=e0)
abbrev znW:=kr [(3,[0,3,4])]
inductive Ib where
 |h3 (s0:TS) (l3:LS) (i4:Int)
abbrev zs5:Ib->Nat×St
 |.h3 s l i=>(3,⟨tm 18 [(0,X s),(3,O Q6 l),(4,J i)],[]⟩)
def ZR(x:TS):Tr (Ib⊕ay):=
 Q9
 (Ib.h3 x
  [Yp,[79,82],[78,79,84],[73,83],HH,KL,KK,zer,zeD,[75,69,89],[85,78,73,81,85,69],zsN,je,zev,zex,
  zey,zeF,zeE,[83,69,84],nc,zet,wR,zeC,zew,zeA,VU,[87,82,73,84,69],HI,[84,79],
  zez,VR,VT,VS,HG,HJ,Eg,Eh,Ee]
  0)
def Hf:Ib->Tr (Ib⊕ay)
 | .h3 s l i=>
  br (K (i<(N l:Int)))
  (I (zK i (N l)) (br (l.getD i.toNat (Q Q6)==s) (re (kb Z) []) (Q9 (Ib.h3 s l (Γ Δ (i+1))))))
  (re (kb M) [])
def Mf(x:TS):=am [Q7] Hf 100000000 (ZR x)
def GG(x:TS):=(Mf x).isSome
def PG(x:TS):=o1 (Mf x)
def zhi:=FT [Q6] [Q7] λx=>Mf x.1
theorem zdg:FK 135 zhi:=mq.T1 (f:=f135) (keep:=znW) (e:=zs5)
abbrev znH:Nat->aY:=λ_=>{ }
def zi8(y:zq be)(x:TS):Tr (Empty⊕ay):=
 let h:=(y.1,y.2.1,y.q.1,())
 let a:=PP h x
 I (Mq h x)
 (br a.1 (re (kb Z) (bd be (a.2.1,Γ Δ (a.q.1+1),a.r)))
  (re (kb M) (bd be a.2)))
def US(y:zq be)(x:TS):Option (zH (Qi Y [Q7])×zq be):=kM [Q7] be t0 100000000 (zi8 y x)
def eL(y:zq be)(x:TS):Bool:=(US y x).isSome
def gg(y:zq be)(x:TS):(L Q7)×zq be:=(λr:zH (Qi Y [Q7])×zq be=>(r.1.1,r.2)) ((US y x).getD (ct [Q7],gn be))
def zgX:ak:=rC be [Q6] [Q7] be (λy x=>eL y x.1) λy x=>(((gg y x.1).1,()),(gg y x.1).2)
theorem zcU:FK 68 zgX:=mq.B1 (f:=f68) (ps:=be) (ks:=[Q6]) (outs:=[Q7]) (keep:=znH) (n:=100000000) (e:=e0) (t:=t0) (i:=λy x=>zi8 y x.1)
abbrev zvc:=kr [(6,[2,3,5]),(11,[2,3,6]),(16,[2,3,7]),(21,[2,3,8]),(26,[2,3,9]),(31,[2,3,10])]
inductive uB where
 |h6 (i5:Int) (z0:zq rl) (z1:zq rl)
 |h11 (i6:Int) (z0:zq rl) (z1:zq rl)
 |h16 (i7:Int) (z0:zq rl) (z1:zq rl)
 |h21 (i8:Int) (z0:zq rl) (z1:zq rl)
 |h26 (i9:Int) (z0:zq rl) (z1:zq rl)
 |h31 (i10:Int) (z0:zq rl) (z1:zq rl)
abbrev zx5:uB->Nat×St
 |.h6 x z h=>(6,⟨tm 238 [(2,Qf 0 0),(3,Qf 1 0),(5,J x)],[Qa (bm [] rl z),Qa (bm [] rl h)]⟩)
 |.h11 a z h=>(11,⟨tm 238 [(2,Qf 0 0),(3,Qf 1 0),(6,J a)],[Qa (bm [] rl z),Qa (bm [] rl h)]⟩)
 |.h16 b z h=>(16,⟨tm 238 [(2,Qf 0 0),(3,Qf 1 0),(7,J b)],[Qa (bm [] rl z),Qa (bm [] rl h)]⟩)
 |.h21 c z h=>(21,⟨tm 238 [(2,Qf 0 0),(3,Qf 1 0),(8,J c)],[Qa (bm [] rl z),Qa (bm [] rl h)]⟩)
 |.h26 d z h=>(26,⟨tm 238 [(2,Qf 0 0),(3,Qf 1 0),(9,J d)],[Qa (bm [] rl z),Qa (bm [] rl h)]⟩)
 |.h31 i z h=>(31,⟨tm 238 [(2,Qf 0 0),(3,Qf 1 0),(10,J i)],[Qa (bm [] rl z),Qa (bm [] rl h)]⟩)
def zfr(h a:zS):Tr (uB⊕ay):=
 let b:=!h.1==a.1
 let c:=!h.2.1==a.2.1
 let d:=!h.q.1==a.q.1
 let e:=!h.u.1==a.u.1
 let g:=!h.p==a.p
 let i:=zw h.x.1
 let j:=zw a.x.1
 let k:=!fH i j
 let l:=zw h.s.1
 let m:=zw a.s.1
 I
 (bif b then Z
 else bif c then Z else bif d then Z else bif e then Z else bif g then Z else gW i j&&bif k then Z else gW l m)
 (br (cond b Z (cond c Z (cond d Z (cond e Z (cond g Z (cond k Z (!fH l m)))))))
  (re (kb M) [])
  (br (bif (N h.r.1:Int)!=(N a.r.1:Int)then Z else bif (N h.t.1:Int)!=(N a.t.1:Int)then Z else bif (N h.v.1:Int)!=(N a.v.1:Int)then Z else bif (N h.w.1:Int)!=(N a.w.1:Int)then Z
  else bif (N h.y.1:Int)!=(N a.y.1:Int)then Z else(N h.z.1:Int)!=(N a.z.1:Int)) (re (kb M) []) (Q9 (uB.h6 0 (h,()) (a,())))))
def wA:uB->Tr (uB⊕ay)
 | .h6 d h x=>
  let c:=(N h.1.r.1:Int)
  br (K (d<c))
  (I (zK d (N h.1.r.1))
   (I (zK d (N x.1.r.1)) (br (!getD h.1.r.1 d.toNat (Q Q6)==T x.1.r.1 d.toNat (Q Q6)) (re (kb M) []) (Q9 (uB.h6 (Γ Δ (d+1)) h x)))))
  (Q9 (uB.h11 0 h x))
 | .h11 e h x=>
  let c:=(N h.1.t.1:Int)
  let a:=T h.1.t.1 e.toNat (Q zp)
  let b:=T x.1.t.1 e.toNat (Q zp)
  br (K (e<c))
  (I (zK e (N h.1.t.1))
   (I (zK e (N x.1.t.1)) (br (!(a.1==b.1&&(a.2.1==b.2.1&&(a.q==b.q&&Z)))) (re (kb M) []) (Q9 (uB.h11 (Γ Δ (e+1)) h x)))))
  (Q9 (uB.h16 0 h x))
 | .h16 g h x=>
  let c:=(N h.1.v.1:Int)
  br (K (g<c))
  (I (zK g (N h.1.v.1))
   (I (zK g (N x.1.v.1)) (br (!getD h.1.v.1 g.toNat (Q Q6)==T x.1.v.1 g.toNat (Q Q6)) (re (kb M) []) (Q9 (uB.h16 (Γ Δ (g+1)) h x)))))
  (Q9 (uB.h21 0 h x))
 | .h21 j h x=>
  let c:=(N h.1.w.1:Int)
  let a:=T h.1.w.1 j.toNat (Q jM)
  let b:=T x.1.w.1 j.toNat (Q jM)
  br (K (j<c))
  (I (zK j (N h.1.w.1))
   (I (zK j (N x.1.w.1)) (br (!(a.1==b.1&&(a.2==b.2&&Z))) (re (kb M) []) (Q9 (uB.h21 (Γ Δ (j+1)) h x)))))
  (Q9 (uB.h26 0 h x))
 | .h26 k h x=>
  let c:=(N h.1.y.1:Int)
  let a:=T h.1.y.1 k.toNat (Q R)
  let b:=T x.1.y.1 k.toNat (Q R)
  br (K (k<c))
  (I (zK k (N h.1.y.1))
   (I (zK k (N x.1.y.1)) (br (!(a.1==b.1&&(a.2.1==b.2.1&&(a.q==b.q&&Z)))) (re (kb M) []) (Q9 (uB.h26 (Γ Δ (k+1)) h x)))))
  (Q9 (uB.h31 0 h x))
 | .h31 i h x=>
  let c:=(N h.1.z.1:Int)
  let a:=zK i (N h.1.z.1)
  let b:=zK i (N x.1.z.1)
  let l:=T h.1.z.1 i.toNat (Q jb)
  let m:=T x.1.z.1 i.toNat (Q jb)
  let n:=!l.1==m.1
  let o:=zw l.2
  let p:=zw m.2
  br (K (i<c))
  (I (a&&(b&&bif n then Z else a&&(b&&gW o p)))
   (br (cond n Z (!fH o p)) (re (kb M) []) (Q9 (uB.h31 (Γ Δ (i+1)) h x))))
  (re (kb Z) [])
def ug(x h:zS):=am [Q7] wA 100000000 (zfr x h)
def Dv(x h:zS):=(ug x h).isSome
def ir(x h:zS):=o1 (ug x h)
def zq6:=FT [aB,aB] [Q7] λx=>ug x.1 x.2.1
theorem zlR:FK 125 zq6:=mq.T1 (f:=f125) (keep:=zvc) (e:=zx5)
def ziC:=YV.addL [(132,zhm),(135,zhi),(68,zgX),(125,zq6)]
theorem tg:zx ziC:=mq.addL<|fc zdk<|fc zdg<|fc zcU<|fc zlR iP
abbrev znU:=kr [(2,[0,3])]
inductive Ia where
 |h2 (s0:TS) (i3:Int)
abbrev zs4:Ia->Nat×St
 |.h2 s i=>(2,⟨tm 28 [(0,X s),(3,J i)],[]⟩)
def zje(x:TS):Tr (Ia⊕ay):=
 Q9 (Ia.h2 x 0)
def yI:Ia->Tr (Ia⊕ay)
 | .h2 s i=>
  let a:=(↑(T s i.toNat 0).toNat:Int)
  let h:=K (1<=(N s:Int))
  let x:=K ((N s:Int)<=16)
  let b:=(↑(T s (W 0) 0).toNat:Int)
  br (K (i<(N s:Int)))
  (I (zK i (N s)) (I (yi a) (br (!GC a) (re (kb M) []) (Q9 (Ia.h2 s (Γ Δ (i+1)))))))
  (I (cond h (cond x (zK 0 (N s)&&pk b) Z) Z)
   (re (AV.bool (cond h (cond x (sC b) M) M)) []))
def Du(x:TS):=am [Q7] yI 100000000 (zje x)
def yg(x:TS):=(Du x).isSome
def wu(x:TS):=o1 (Du x)
def zhg:=FT [Q6] [Q7] λx=>Du x.1
theorem zde:FK 191 zhg:=tg.T1 (f:=f191) (keep:=znU) (e:=zs4)
abbrev znI:Nat->aY:=λ_=>{ }
def zi9(y:zq be)(x:TS):Tr (Empty⊕ay):=
 let h:=(y.1,y.2.1,y.q.1,())
 let a:=gg h x
 I (eL h x)
 (br (!a.1) (re (Qe []) [Qa [O zI a.2.1,J a.q.1,kb M]])
  (re (Qe []) (bd be a.2)))
def UQ(y:zq be)(x:TS):Option (zH (Qi Y [])×zq be):=kM [] be t0 100000000 (zi9 y x)
def bw(y:zq be)(x:TS):Bool:=(UQ y x).isSome
def ch(y:zq be)(x:TS):zq be:=(λr:zH (Qi Y [])×zq be=>r.2) ((UQ y x).getD (ct [],gn be))
def zgZ:ak:=rC be [Q6] [] be (λy x=>bw y x.1) λy x=>((),ch y x.1)
theorem zcX:FK 70 zgZ:=tg.B1 (f:=Tryz.f70) (ps:=be) (ks:=[Q6]) (outs:=[]) (keep:=znI) (n:=100000000) (e:=e0) (t:=t0) (i:=λy x=>zi9 y x.1)
abbrev znJ:Nat->aY:=λ_=>{ }
def zja(y:zq be):Tr (Empty⊕ay):=
 let h:=K (y.2.1<(N y.1:Int))
 let x:=zK y.2.1 (N y.1)
 let a:=T y.1 (W y.2.1) (Q zI)
 let b:=a.1==1
 let c:=Γ Δ (y.2.1+1)
 let d:=Γ Δ (c-1)
 let e:=T y.1 d.toNat (Q zI)
 I (cond h (x&&bif b then x&&GG a.2 else Z) Z)
 (br (cond h (cond b (!PG a.2) M) M)
  (I (zK d (N y.1)) (re (X e.2) (bd be (y.1,c,y.q))))
  (re (X []) [Qa [O zI y.1,J y.2.1,kb M]]))
def UR(y:zq be):Option (zH (Qi Y [Q6])×zq be):=kM [Q6] be t0 100000000 (zja y)
def bS(y:zq be):Bool:=(UR y).isSome
def cJ(y:zq be):(L Q6)×zq be:=(λr:zH (Qi Y [Q6])×zq be=>(r.1.1,r.2)) ((UR y).getD (ct [Q6],gn be))
def zg0:ak:=rC be [] [Q6] be (λy _=>bS y) λy _=>(((cJ y).1,()),(cJ y).2)
theorem zcY:FK 71 zg0:=tg.B1 (f:=f71) (ps:=be) (ks:=[]) (outs:=[Q6]) (keep:=znJ) (n:=100000000) (e:=e0) (t:=t0) (i:=λy x=>zja y)
def I1:=ziC.addL [(191,zhg),(70,zgZ),(71,zg0)]
theorem oO:zx I1:=tg.addL<|fc zde<|fc zcX<|fc zcY iP
def zi7(x:zo):Tr (Empty⊕ay):=
 I (nZ x)
 (br (vn x) (re (Qd [J x.1,J x.2.1,X x.q]) [])
  (re (Qd [J 0,J 0,X []]) []))
def xU(x:zo):=am [R] t0 100000000 (zi7 x)
def tS(x:zo):=(xU x).isSome
def f7(x:zo):=o1 (xU x)
def zgW:=FT [R] [R] λx=>xU x.1
theorem zcT:FK 96 zgW:=oO.T1 (f:=f96) (keep:=k0) (e:=e0)
def zi6(h:zo)(x:L Q7):Tr (Empty⊕ay):=
 I (mK x) (re (AV.bool (h.1==(bC x).1&&(h.2.1==(bC x).2.1&&(h.q==(bC x).q&&Z)))) [])
def Pm(x:zo)(h:L Q7):=am [Q7] t0 100000000 (zi6 x h)
def o8(x:zo)(h:L Q7):=(Pm x h).isSome
def sj(x:zo)(h:L Q7):=o1 (Pm x h)
def zgU:=FT [R,Q7] [Q7] λx=>Pm x.1 x.2.1
theorem zcR:FK 105 zgU:=oO.T1 (f:=f105) (keep:=k0) (e:=e0)
def YQ(g:L Q5->zy->L Q7)(c:L Q5->zy->Bool):cy:=I1.add 193 (af [Q5,zk] [Q7] (λx=>c x.1 x.2.1) λx=>(g x.1 x.2.1,()))
theorem Rj{g:L Q5->zy->L Q7}{c:L Q5->zy->Bool}(h:FK 193 (af [Q5,zk] [Q7] (λx=>c x.1 x.2.1) λx=>(g x.1 x.2.1,()))):zx (YQ g c):=oO.add h
abbrev znY:Nat->aY:=λ_=>{ }
def ZS(g:L Q5->zy->L Q7)(c:L Q5->zy->Bool)(x:L Q5)(o:zy):Tr (Empty⊕ay):=
 let d:=(↑(zg.l x).length:Int)==0
 let a:=(zg.v x).1==0&&((zg.v x).2.1==0&&((zg.v x).q==[]&&Z))
 let e:=(↑(zg.l x).length:Int)==1
 let i:=zK 0 (zg.l x).length
 let j:=zw ((zg.l x).getD (W 0) (Q Q5))
 let h:=Γ Δ (o-1)
 let k:=c j h
 let b:=g j h
 let m:=(↑(zg.l x).length:Int)==2
 let n:=zw ((zg.l x).getD (W 1) (Q Q5))
 br (o==0) (re (kb M) [])
 (br (zg.op x==pI)
  (I (nZ (zg.v x)) (re (AV.bool (cond (vn (zg.v x)) (cond (zg.s x==[]) d M) M)) []))
  (br (zg.op x==fh) (I (cond a (yg (zg.s x)&&bif wu (zg.s x)then GG (zg.s x)else Z) Z) (re (AV.bool (cond a (cond (wu (zg.s x)) (cond (!PG (zg.s x)) d M) M) M)) [])) (br (cond (zg.op x==oH) Z (zg.op x==qM))
  (I (cond a (cond (zg.s x==[]) (cond e (i&&k) Z) Z) Z) (re (AV.bool (cond a (cond (zg.s x==[]) (cond e b M) M) M)) [])) (I (LZ (zg.op x)) (br (UK (zg.op x)) (I
  (cond a (cond (zg.s x==[]) (cond m (i&&(k&&bif b then zK 1 (zg.l x).length&&c n h else Z)) Z) Z) Z) (re (AV.bool (cond a (cond (zg.s x==[]) (cond m (cond b (g n h) M) M) M) M)) [])) (re (kb M) []))))))
def qo(o:Option (zH (Qi Y [Q7]))):L Q7:=(λr:zH (Qi Y [Q7])=>r.1) (o.getD (ct [Q7]))
def LY(g:L Q5->zy->L Q7)(c:L Q5->zy->Bool)(x:L Q5)(h:zy):Option (zH (Qi Y [Q7])):=am [Q7] t0 100000000 (ZS g c x h)
def gY:Nat->L Q5->zy->Option (zH (Qi Y [Q7]))
 |0=>λ_ _=>none
 |n+1=>LY (λx h=>qo (gY n x h)) λx h=>(gY n x h).isSome
theorem zab:aa I1.P 193 f193 2:=cM kw
theorem Nc:∀n,FK 193 (af [Q5,zk] [Q7] (λx=>(gY n x.1 x.2.1).isSome) λx=>(qo (gY n x.1 x.2.1),()))
 |0=>e7 ⟨f193,zab.1,zab.2.1,zab.q.1⟩ (λ_=>rfl)
 |n+1=>(Rj (Nc n)).TT (f:=f193) (E:=YQ (λh a=>qo (gY n h a)) (λh a=>(gY n h a).isSome)) (ks:=[Q5,zk]) (outs:=[Q7]) (keep:=znY) (n:=100000000) (e:=e0) (t:=t0) (i:=λx=>ZS (λh a=>qo (gY n h a)) (λh a=>(gY n h a).isSome) x.1 x.2.1)
def LW(x:L Q5)(h:zy):Option (zH (Qi Y [Q7])):=gY 16 x h
def Di(x:L Q5)(h:zy):Bool:=(LW x h).isSome
def LU(x:L Q5)(h:zy):L Q7:=qo (LW x h)
def zhp:ak:=af [Q5,zk] [Q7] (λx=>Di x.1 x.2.1) λx=>(LU x.1 x.2.1,())
theorem zdn:FK 193 zhp:=Nc 16
def zih(g:L Q5->cw->zy×zy)(c:L Q5->cw->Bool):cy:=I1.add 130 (af [Q5,Sh.sl zp] [zk,zk] (λx=>c x.1 x.2.1) λx=>((g x.1 x.2.1).1,(g x.1 x.2.1).2,()))
theorem Wg{g:L Q5->cw->zy×zy}{c:L Q5->cw->Bool}(h:FK 130 (af [Q5,Sh.sl zp] [zk,zk] (λx=>c x.1 x.2.1) λx=>((g x.1 x.2.1).1,(g x.1 x.2.1).2,()))):zx (zih g c):=oO.add h
abbrev zve:Nat->aY:=λj=>if j=5 then{slots:=[1,2,6]}else{ }
inductive Vz where
 |h5 (l1:LC) (i6:Int) (z0:zq [CP.d Q5])
abbrev zx7:Vz->Nat×St
 |.h5 l i z=>(5,⟨tm 116 [(1,O zp l),(2,Qf 0 0),(6,J i)],[Qa (bm [] [CP.d Q5] z)]⟩)
def HS(g:L Q5->L zp.sl->zy×zy)(c:L Q5->L zp.sl->Bool)(x:L Q5)(o:L zp.sl):Tr (Vz⊕ay):=
 let q:=zw ((zg.l x).getD (W 0) (Q Q5))
 let h:=g q o
 let s:=zw ((zg.l x).getD (W 1) (Q Q5))
 let j:=g s o
 let t:=zg.op x==qM
 let u:=zg.op x==[61]
 let a:=h.1!=0
 let p:=j.1!=0
 let w:=zg.op x==[60]
 let y:=zg.op x==[43]
 let b:=h.1!=1
 let d:=bif p then j.1!=1 else M
 let k:=zg.op x==[45]
 let i:=h.1!=3
 let m:=bif p then j.1!=3 else M
 let e:=bif a then b else M
 let n:=bif a then i else M
 br (zg.op x==pI) (re (Qe [J (zg.v x).1,J 0]) [])
 (br (zg.op x==fh) (Q9 (Vz.h5 o 0 (x,())))
  (I (zK 0 (zg.l x).length) (I (c q o) (br (h.2!=0) (re (Qe [J 0,J h.2]) []) (br ((↑(zg.l x).length:Int)==2) (I (zK 1 (zg.l x).length) (I (c s o) (br (j.2!=0) (re (Qe [J 0,J j.2]) []) (br t (re (Qe [J 3,J 0]) []) (br u
  (br (cond a (cond p (h.1!=j.1) M) M) (re (Qe [J 0,J 5]) []) (re (Qe [J 3,J 0]) [])) (br w (br (cond a (cond p (h.1!=j.1) M) M) (re (Qe [J 0,J 5]) []) (re (Qe [J 3,J 0]) [])) (br y
  (br (cond a (cond b Z d) d) (re (Qe [J 0,J 5]) []) (re (Qe [J 1,J 0]) [])) (br k (br (cond a (cond b Z d) d) (re (Qe [J 0,J 5]) []) (re (Qe [J 1,J 0]) []))
  (br (cond a (cond i Z m) m) (re (Qe [J 0,J 5]) []) (re (Qe [J 3,J 0]) [])))))))))) (br t (re (Qe [J 3,J 0]) []) (br u (br (cond a (cond a (h.1!=h.1) M) M) (re (Qe [J 0,J 5]) [])
  (re (Qe [J 3,J 0]) [])) (br w (br (cond a (cond a (h.1!=h.1) M) M) (re (Qe [J 0,J 5]) []) (re (Qe [J 3,J 0]) [])) (br y (br (cond a (cond b Z e) e) (re (Qe [J 0,J 5]) [])
  (re (Qe [J 1,J 0]) [])) (br k (br (cond a (cond b Z e) e) (re (Qe [J 0,J 5]) []) (re (Qe [J 1,J 0]) [])) (br (cond a (cond i Z n) n) (re (Qe [J 0,J 5]) []) (re (Qe [J 3,J 0]) []))))))))))))
def SV(_:L Q5->L zp.sl->zy×zy)(_:L Q5->L zp.sl->Bool):Vz->Tr (Vz⊕ay)
 | .h5 l i z=>
  let a:=l.getD i.toNat (Q zp)
  br (K (i<(N l:Int)))
  (I (zK i (N l))
   (br (a.1==zg.s z.1) (I (zK i (N l)) (re (Qe [J a.2.1,J 0]) [])) (Q9 (Vz.h5 l (Γ Δ (i+1)) z))))
  (re (Qe [J 0,J 4]) [])
def gX(o:Option (zH (Qi Y [zk,zk]))):zy×zy:=(λr:zH (Qi Y [zk,zk])=>(r.1,r.2.1)) (o.getD (ct [zk,zk]))
def UJ(g:L Q5->L zp.sl->zy×zy)(c:L Q5->L zp.sl->Bool)(x:L Q5)(h:L zp.sl):Option (zH (Qi Y [zk,zk])):=am [zk,zk] (SV g c) 100000000 (HS g c x h)
def cP:Nat->L Q5->L zp.sl->Option (zH (Qi Y [zk,zk]))
 |0=>λ_ _=>none
 |n+1=>UJ (λx h=>gX (cP n x h)) λx h=>(cP n x h).isSome
theorem znC:aa I1.P 130 f130 2:=cM kw
theorem Tb:∀n,FK 130 (af [Q5,zp.sl] [zk,zk] (λx=>(cP n x.1 x.2.1).isSome) λx=>((gX (cP n x.1 x.2.1)).1,(gX (cP n x.1 x.2.1)).2,()))
 |0=>e7 ⟨f130,znC.1,znC.2.1,znC.q.1⟩ (λ_=>rfl)
 |n+1=>(Wg (Tb n)).TT (f:=f130) (E:=zih (λh a=>gX (cP n h a)) (λh a=>(cP n h a).isSome)) (ks:=[Q5,zp.sl]) (outs:=[zk,zk]) (keep:=zve) (n:=100000000) (e:=zx7) (t:=SV (λh a=>gX (cP n h a)) (λh a=>(cP n h a).isSome)) (i:=λx=>HS (λh a=>gX (cP n h a)) (λh a=>(cP n h a).isSome) x.1 x.2.1)
def Dh(x:L Q5)(h:L zp.sl):Option (zH (Qi Y [zk,zk])):=cP 16 x h
def qn(x:L Q5)(h:L zp.sl):Bool:=(Dh x h).isSome
def jw(x:L Q5)(h:L zp.sl):zy×zy:=gX (Dh x h)
def zra:ak:=af [Q5,zp.sl] [zk,zk] (λx=>qn x.1 x.2.1) λx=>((jw x.1 x.2.1).1,(jw x.1 x.2.1).2,())
theorem zlV:FK 130 zra:=Tb 16
def YW:=I1.addL [(96,zgW),(105,zgU),(193,zhp),(130,zra)]
theorem iO:zx YW:=oO.addL<|fc zcT<|fc zcR<|fc zdn<|fc zlV iP
def zt6(x h:zo):Tr (Empty⊕ay):=
 let a:=(f7 x).1==(f7 h).1
 let b:=(f7 x).2.1==(f7 h).2.1
 I (tS x)
 (I (tS h)
  (br (a&&(b&&((f7 x).q==(f7 h).q&&Z))) (re (J 0) []) (br (cond (K ((f7 x).1<(f7 h).1)) Z (cond a (cond (K ((f7 x).2.1<(f7 h).2.1)) Z (cond b (Op.bytesLess (f7 x).q (f7 h).q) M)) M)) (re (J (-1)) []) (re (J 1) []))))
def sm(x h:zo):=am [zk] t0 100000000 (zt6 x h)
def mI(x h:zo):=(sm x h).isSome
def qj(x h:zo):=o1 (sm x h)
def zqN:=FT [R,R] [zk] λx=>sm x.1 x.2.1
theorem zly:FK 37 zqN:=iO.T1 (f:=f37) (keep:=k0) (e:=e0)
def zjs(x h:zo):Tr (Empty⊕ay):=
 I (tS x)
 (I (tS h)
  (re (AV.bool (cond ((f7 x).1==0) Z (cond ((f7 h).1==0) Z ((f7 x).1!=(f7 h).1)))) []))
def sq(x h:zo):=am [Q7] t0 100000000 (zjs x h)
def pb(x h:zo):=(sq x h).isSome
def tP(x h:zo):=o1 (sq x h)
def zhK:=FT [R,R] [Q7] λx=>sq x.1 x.2.1
theorem zdH:FK 165 zhK:=iO.T1 (f:=f165) (keep:=k0) (e:=e0)
def zji(x h:zo):Tr (Empty⊕ay):=
 I (o8 x M&&bif sj x M then Z else o8 h M)
 (br (cond (sj x M) Z (sj h M))
  (I Z (re (Qd [J (bC M).1,J (bC M).2.1,X (bC M).q]) []))
  (I (o8 x Z&&bif sj x Z then o8 h Z else Z) (br (cond (sj x Z) (sj h Z) M) (I Z (re (Qd [J (bC Z).1,J (bC Z).2.1,X (bC Z).q]) [])) (re (Qd [J 0,J 0,X []]) []))))
def Gc(x h:zo):=am [R] t0 100000000 (zji x h)
def LK(x h:zo):=(Gc x h).isSome
def JS(x h:zo):=o1 (Gc x h)
def zht:=FT [R,R] [R] λx=>Gc x.1 x.2.1
theorem zdr:FK 168 zht:=iO.T1 (f:=f168) (keep:=k0) (e:=e0)
def zjj(x h:zo):Tr (Empty⊕ay):=
 I (o8 x Z&&bif sj x Z then Z else o8 h Z)
 (br (cond (sj x Z) Z (sj h Z))
  (I Z (re (Qd [J (bC Z).1,J (bC Z).2.1,X (bC Z).q]) []))
  (I (o8 x M&&bif sj x M then o8 h M else Z) (br (cond (sj x M) (sj h M) M) (I Z (re (Qd [J (bC M).1,J (bC M).2.1,X (bC M).q]) [])) (re (Qd [J 0,J 0,X []]) []))))
def Pp(x h:zo):=am [R] t0 100000000 (zjj x h)
def UF(x h:zo):=(Pp x h).isSome
def Xc(x h:zo):=o1 (Pp x h)
def zhu:=FT [R,R] [R] λx=>Pp x.1 x.2.1
theorem zds:FK 169 zhu:=iO.T1 (f:=f169) (keep:=k0) (e:=e0)
def zjh(x:zo):Tr (Empty⊕ay):=
 I (o8 x Z)
 (br (sj x Z)
  (I Z (re (Qd [J (bC M).1,J (bC M).2.1,X (bC M).q]) []))
  (I (o8 x M) (br (sj x M) (I Z (re (Qd [J (bC Z).1,J (bC Z).2.1,X (bC Z).q]) [])) (re (Qd [J 0,J 0,X []]) []))))
def Gf(x:zo):=am [R] t0 100000000 (zjh x)
def LN(x:zo):=(Gf x).isSome
def JU(x:zo):=o1 (Gf x)
def zhs:=FT [R] [R] λx=>Gf x.1
theorem zdq:FK 167 zhs:=iO.T1 (f:=f167) (keep:=k0) (e:=e0)
def zud(x:L Q5):Tr (Empty⊕ay):=
 let a:=LU (zw x) 12
 I (Di (zw x) 12&&bif a then xW (zw x)else Z) (re (AV.bool (cond a (K (Dj (zw x)<=60)) M)) [])
def Gl(x:L Q5):=am [Q7] t0 100000000 (zud x)
def ws(x:L Q5):=(Gl x).isSome
def Gk(x:L Q5):=o1 (Gl x)
def zq9:=FT [Q5] [Q7] λx=>Gl x.1
theorem zlU:FK 129 zq9:=iO.T1 (f:=f129) (keep:=k0) (e:=e0)
def YX:=YW.addL [(37,zqN),(165,zhK),(168,zht),(169,zhu),(167,zhs),(129,zq9)]
theorem EB:zx YX:=iO.addL<|fc zly<|fc zdH<|fc zdr<|fc zds<|fc zdq<|fc zlU iP
abbrev zn5:=kr [(2,[0,3])]
inductive Ie where
 |h2 (i0:zy) (s3:List UInt8)
abbrev ztb:Ie->Nat×St
 |.h2 i s=>(2,⟨tm 21 [(0,J i),(3,X s)],[]⟩)
def ztR(x:zy):Tr (Ie⊕ay):=
 Q9 (Ie.h2 x [])
def Hh:Ie->Tr (Ie⊕ay)
 | .h2 i s=>
  let a:=nT [IntKind.u8.wrap (Γ Δ (48-Γ Δ (Int.tmod i 10)))]
  br (cond (K (i<0)) Z (s==[]))
  (I Z (I (K (N a+N s<=1099511627776)) (I Z (Q9 (Ie.h2 (Γ Δ (Int.tdiv i 10)) (a++s))))))
  (re (X s) [])
def tR(x:zy):=am [Q6] Hh 100000000 (ztR x)
def lX(x:zy):=(tR x).isSome
def mL(x:zy):=o1 (tR x)
def zhI:=FT [zk] [Q6] λx=>tR x.1
theorem zdF:FK 239 zhI:=EB.T1 (f:=f239) (keep:=zn5) (e:=ztb)
def Y2:=YX.add 239 zhI
theorem ED:zx Y2:=EB.add zdF
abbrev znR:=kr [(13,[1,3,4])]
inductive DR where
 |h13 (s3:List UInt8) (i4:Int) (z0:zq [CP.d R])
abbrev zs2:DR->Nat×St
 |.h13 s i z=>(13,⟨tm 54 [(1,Qf 0 0),(3,X s),(4,J i)],[Qa (bm [] [CP.d R] z)]⟩)
def B5(x:zo):Tr (DR⊕ay):=
 let a:=Γ Δ (0-x.2.1)
 I (nZ x)
 (br (!vn x) (re (X []) [])
  (br (x.1==0) (re (X HH) []) (br (x.1==1) (br (K (x.2.1<0)) (I (lX x.2.1) (I (K ([45].length+N (mL x.2.1)<=1099511627776)) (re (X ([45]++mL x.2.1)) []))) (I (lX a) (re (X (mL a)) []))) (br (x.1==2) (Q9 (DR.h13 [39] 0 (x,())))
  (br (x.2.1==1) (re (X KL) []) (re (X KK) []))))))
def yH:DR->Tr (DR⊕ay)
 | .h13 s i z=>
  let x:=(N z.1.q:Int)
  let a:=Γ Δ (i+1)
  let b:=Qg (a.toNat-i.toNat) (Qh i.toNat z.1.q)
  let h:=s++b
  br (K (i<x))
  (I (K (0<=i)&&K (i<=a)&&K (a<=x))
   (I (K (N s+N b<=1099511627776)) (I (zK i (N z.1.q)) (br ((↑(T z.1.q i.toNat 0).toNat:Int)==39) (I (K (N h+[39].length<=1099511627776)) (Q9 (DR.h13 (h++[39]) a z))) (Q9 (DR.h13 h a z))))))
  (I (K (N s+[39].length<=1099511627776)) (re (X (s++[39])) []))
def Dc(x:zo):=am [Q6] yH 100000000 (B5 x)
def lJ(x:zo):=(Dc x).isSome
def qk(x:zo):=o1 (Dc x)
def zhd:=FT [R] [Q6] λx=>Dc x.1
theorem zdb:FK 188 zhd:=ED.T1 (f:=f188) (keep:=znR) (e:=zs2)
def KW:=Y2.add 188 zhd
theorem EG:zx KW:=ED.add zdb
def YP(g:L Q5->L Q6)(c:L Q5->Bool):cy:=KW.add 189 (af [Q5] [Q6] (λx=>c x.1) λx=>(g x.1,()))
theorem Ri{g:L Q5->L Q6}{c:L Q5->Bool}(h:FK 189 (af [Q5] [Q6] (λx=>c x.1) λx=>(g x.1,()))):zx (YP g c):=EG.add h
abbrev znS:Nat->aY:=λ_=>{ }
def rT(g:L Q5->L Q6)(c:L Q5->Bool)(x:L Q5):Tr (Empty⊕ay):=
 let b:=zK 0 (zg.l x).length
 let y:=zw ((zg.l x).getD (W 0) (Q Q5))
 let p:=c y
 let q:=g y
 let z:=wQ++q
 let t:=K ([40].length+N q<=1099511627776)
 let h:=[40]++q
 let u:=zK 1 (zg.l x).length
 let A:=zw ((zg.l x).getD (W 1) (Q Q5))
 let w:=c A
 let d:=h++QT
 let a:=g A
 let e:=d++a
 let i:=h++QU
 let j:=i++a
 let k:=h++[32]
 let m:=k++zg.op x
 let n:=m++[32]
 let o:=n++a
 br (zg.op x==pI) (I (lJ (zg.v x)) (re (X (qk (zg.v x))) []))
 (br (zg.op x==fh) (re (X (zg.s x)) [])
  (br (zg.op x==oH) (I b (I p (I (K (N wQ+N q<=1099511627776)) (I (K (N z+[41].length<=1099511627776)) (re (X (z++[41])) []))))) (br (zg.op x==qM) (I b (I p (I t
  (I (K (N h+N Ed<=1099511627776)) (re (X (h++Ed)) []))))) (br (zg.op x==jf) (I b (I p (I t (I (K (N h+N QT<=1099511627776)) (I u (I w
  (I (K (N d+N a<=1099511627776)) (I (K (N e+[41].length<=1099511627776)) (re (X (e++[41])) []))))))))) (br (zg.op x==wS) (I b (I p (I t (I (K (N h+N QU<=1099511627776)) (I u (I w
  (I (K (N i+N a<=1099511627776)) (I (K (N j+[41].length<=1099511627776)) (re (X (j++[41])) []))))))))) (I b (I p (I t (I (K (N h+[32].length<=1099511627776)) (I (K (N k+N (zg.op x)<=1099511627776))
  (I (K (N m+[32].length<=1099511627776)) (I u (I w (I (K (N n+N a<=1099511627776)) (I (K (N o+[41].length<=1099511627776)) (re (X (o++[41])) []))))))))))))))))
def jv(o:Option (zH (Qi Y [Q6]))):L Q6:=(λr:zH (Qi Y [Q6])=>r.1) (o.getD (ct [Q6]))
def UI(g:L Q5->L Q6)(c:L Q5->Bool)(x:L Q5):Option (zH (Qi Y [Q6])):=am [Q6] t0 100000000 (rT g c x)
def dr:Nat->L Q5->Option (zH (Qi Y [Q6]))
 |0=>λ_=>none
 |n+1=>UI (λx=>jv (dr n x)) λx=>(dr n x).isSome
theorem zaa:aa KW.P 189 f189 1:=cM kw
theorem Nb:∀n,FK 189 (af [Q5] [Q6] (λx=>(dr n x.1).isSome) λx=>(jv (dr n x.1),()))
 |0=>e7 ⟨f189,zaa.1,zaa.2.1,zaa.q.1⟩ (λ_=>rfl)
 |n+1=>(Ri (Nb n)).TT (f:=f189) (E:=YP (λh=>jv (dr n h)) (λh=>(dr n h).isSome)) (ks:=[Q5]) (outs:=[Q6]) (keep:=znS) (n:=100000000) (e:=e0) (t:=t0) (i:=λx=>rT (λh=>jv (dr n h)) (λh=>(dr n h).isSome) x.1)
def LR(x:L Q5):Option (zH (Qi Y [Q6])):=dr 16 x
def tW(x:L Q5):Bool:=(LR x).isSome
def sr(x:L Q5):L Q6:=jv (LR x)
def zhe:ak:=af [Q5] [Q6] (λx=>tW x.1) λx=>(sr x.1,())
theorem zdc:FK 189 zhe:=Nb 16
def Rp:=KW.add 189 zhe
theorem pM:zx Rp:=EG.add zdc
def ztV(x:L zI.sl)(h:zy)(g:L Q6):Tr (Empty⊕ay):=
 let b:=K (h<(N x:Int))
 let a:=T x (W h) (Q zI)
 let c:=a.1==1
 let d:=a.1==4
 let e:=a.2==g
 I
 (bif b then zK h (N x)&&bif c then zK h (N x)else zK h (N x)&&bif d then zK h (N x)else Z
 else Z)
 (re (AV.bool (cond b (cond c e (cond d e M)) M)) [])
def zbI(x:L zI.sl)(h:zy)(a:L Q6):=am [Q7] t0 100000000 (ztV x h a)
def nK(x:L zI.sl)(h:zy)(a:L Q6):=(zbI x h a).isSome
def yk(x:L zI.sl)(h:zy)(a:L Q6):=o1 (zbI x h a)
def zhQ:=FT [zI.sl,zk,Q6] [Q7] λx=>zbI x.1 x.2.1 x.q.1
theorem zdM:FK 242 zhQ:=pM.T1 (f:=f242) (keep:=k0) (e:=e0)
abbrev zn9:=kr [(3,[0,2,4,5]),(10,[0,2,6,7]),(18,[0,2,6,8])]
inductive qH where
 |h3 (s0:L Q6) (l4:zr) (i5:Int) (z0:zq [CP.d R])
 |h10 (s0:L Q6) (i7:Int) (z0:zq [CP.d R]) (z1:zq [CP.d R])
 |h18 (s0:L Q6) (i8:Int) (z0:zq [CP.d R]) (z1:zq [CP.d R])
abbrev zte:qH->Nat×St
 |.h3 s l i z=>(3,⟨tm 145 [(0,X s),(2,Qf 0 0),(4,O R l),(5,J i)],[Qa (bm [] [CP.d R] z)]⟩)
 |.h10 s x z h=>(10,⟨tm 145 [(0,X s),(2,Qf 0 0),(6,Qf 1 0),(7,J x)],[Qa (bm [] [CP.d R] z),Qa (bm [] [CP.d R] h)]⟩)
 |.h18 s a z h=>(18,⟨tm 145 [(0,X s),(2,Qf 0 0),(6,Qf 1 0),(8,J a)],[Qa (bm [] [CP.d R] z),Qa (bm [] [CP.d R] h)]⟩)
def ztX(x:L Q6):Tr (qH⊕ay):=
 Q9 (qH.h3 x [(0,0,[]),(3,0,[]),(3,1,[])] 0 ((0,0,[]),()))
def zwM:qH->Tr (qH⊕ay)
 | .h3 s l e b=>
  let h:=l.getD e.toNat (Q R)
  let a:=K ((N s:Int)>=2)
  let c:=(↑(T s (W 0) 0).toNat:Int)==39
  let x:=Γ Δ ((N s:Int)-1)
  br (K (e<(N l:Int)))
  (I (zK e (N l)) (I (lJ h) (br (qk h==s) (I (zK e (N l)) (re (Qe [Qd [J h.1,J h.2.1,X h.q],kb Z]) [])) (Q9 (qH.h3 s l (Γ Δ (e+1)) b)))))
  (I (cond a (zK 0 (N s)&&bif c then zK x (N s)else Z) Z) (br (cond a (cond c ((↑(T s x.toNat 0).toNat:Int)==39) M) M) (Q9 (qH.h10 s 1 b ((2,0,[]),()))) (Q9 (qH.h18 s 0 b ((1,0,[]),())))))
 | .h10 s d b z=>
  let h:=Γ Δ ((N s:Int)-1)
  let a:=Γ Δ (d+1)
  let c:=Qg (a.toNat-d.toNat) (Qh d.toNat s)
  let x:=((z.1.1,z.1.2.1,z.1.q++c),())
  br (K (d<h))
  (I (K (0<=d)&&K (d<=a)&&K (a<=(N s:Int))) (I (K (N z.1.q+N c<=1099511627776)) (I (zK d (N s)) (br ((↑(T s d.toNat 0).toNat:Int)==39) (Q9 (qH.h10 s (Γ Δ (a+1)) b x)) (Q9 (qH.h10 s a b x))))))
  (I (lJ z.1) (re (Qe [Qd [J z.1.1,J z.1.2.1,X z.1.q],AV.bool (qk z.1==s)]) []))
 | .h18 s i b z=>
  let h:=zK 0 (N s)
  let a:=(↑(T s (W 0) 0).toNat:Int)
  let c:=Γ Δ (i+1)
  let x:=(↑(T s i.toNat 0).toNat:Int)
  let g:=K (x<48)
  let j:=K (x>57)
  let k:=K (z.1.2.1< -922337203685477580)
  let m:=z.1.2.1==-922337203685477580
  let n:=Γ Δ (0-z.1.2.1)
  let o:=(z.1.1,n,z.1.q)
  br (K (i<(N s:Int)))
  (I (cond (i==0) h Z) (br (cond (i==0) (a==45) M) (Q9 (qH.h18 s c b z)) (I (zK i (N s)&&bif g then Z else zK i (N s)&&bif j then Z else bif k then Z else bif m then zK i (N s)else Z)
  (br (cond g Z (cond j Z (cond k Z (cond m (K (x>56)) M)))) (re (Qe [Qd [J 0,J 0,X []],kb M]) []) (I (zK i (N s)) (Q9 (qH.h18 s c b ((z.1.1,Γ Δ (Γ Δ (Γ Δ (10*z.1.2.1)-Γ Δ x)+48),z.1.q),()))))))))
  (I (cond (s==[]) Z h) (br (cond (s==[]) Z (a !=45)) (br (z.1.2.1==-9223372036854775808) (re (Qe [Qd [J 0,J 0,X []],kb M]) []) (I (lJ o) (re (Qe [Qd [J z.1.1,J n,X z.1.q],AV.bool (qk o==s)]) []))) (I (lJ z.1)
  (re (Qe [Qd [J z.1.1,J z.1.2.1,X z.1.q],AV.bool (qk z.1==s)]) []))))
def Gh(x:L Q6):=am [R,Q7] zwM 100000000 (ztX x)
def Pq(x:L Q6):=(Gh x).isSome
def xR(x:L Q6):=o2 (Gh x)
def zhU:=FT [Q6] [R,Q7] λx=>Gh x.1
theorem zdQ:FK 278 zhU:=pM.T1 (f:=f278) (keep:=zn9) (e:=zte)
def ziX:=Rp.addL [(242,zhQ),(278,zhU)]
theorem Jg:zx ziX:=pM.addL<|fc zdM<|fc zdQ<|iP
abbrev zn8:=kr [(1,[0,1,4])]
inductive If where
 |h1 (s0:L Q6) (s1:L Q6) (z0:zq [CP.d R])
abbrev ztd:If->Nat×St
 |.h1 s h z=>(1,⟨tm 25 [(0,X s),(1,X h),(4,Qf 0 0)],[Qa (bm [] [CP.d R] z)]⟩)
def ztW(x h:L Q6):Tr (If⊕ay):=
 Q9 (If.h1 x h ((0,0,[]),()))
def zwL:If->Tr (If⊕ay)
 | .h1 h s z=>
  let a:=K ((N s:Int)>0)
  I (cond a (zK 0 (N s)) Z)
  (br (cond a ((↑(T s (W 0) 0).toNat:Int)==48) M) (I (K (0<=1)&&K (1<=(N s:Int))&&K ((N s:Int)<=(N s:Int))) (Q9 (If.h1 h (Qg ((N s:Int).toNat-W 1) (Qh (W 1) s)) z)))
  (br (s==[]) (re (Qe [Qd [J 1,J 0,X []],kb Z]) []) (I (K (N h+N s<=1099511627776)) (I (Pq (h++s)) (re (Qe [Qd [J (xR (h++s)).1.1,J (xR (h++s)).1.2.1,X (xR (h++s)).1.q],AV.bool (xR (h++s)).2]) [])))))
def Sq(x h:L Q6):=am [R,Q7] zwL 100000000 (ztW x h)
def zbJ(x h:L Q6):=(Sq x h).isSome
def zjR(x h:L Q6):=o2 (Sq x h)
def zhT:=FT [Q6,Q6] [R,Q7] λx=>Sq x.1 x.2.1
theorem zdP:FK 277 zhT:=Jg.T1 (f:=f277) (keep:=zn8) (e:=ztd)
def ziY:=ziX.add 277 zhT
theorem Jh:zx ziY:=Jg.add zdP
def ztU(x:L zI.sl)(h:zy):Tr (Empty⊕ay):=
 let b:=Γ Δ (h+1)
 let i:=K (b>=(N x:Int))
 let j:=zK b (N x)
 let e:=T x b.toNat (Q zI)
 let c:=zjR [45] e.2
 let a:=T x (W h) (Q zI)
 let d:=zjR [] a.2
 let k:=yk x h KL
 let l:=yk x h KK
 let g:=xR a.2
 br (K (h>=(N x:Int)))
 (re (Qe [Qd zE,J (-1)]) [])
 (I (zK h (N x))
  (I (nK x h [45]) (br (yk x h [45]) (I (cond i Z j) (br (cond i Z (e.1!=2)) (re (Qe [Qd zE,J (-1)]) []) (I j (I (zbJ [45] e.2) (br (!c.2)
  (re (Qe [Qd zE,J (-1)]) []) (re (Qe [Qd [X pI,J c.1.1,J c.1.2.1,X c.1.q,X [],Qb],J (Γ Δ (h+2))]) [])))))) (br (a.1==2) (I (zbJ [] a.2) (br (!d.2)
  (re (Qe [Qd zE,J (-1)]) []) (re (Qe [Qd [X pI,J d.1.1,J d.1.2.1,X d.1.q,X [],Qb],J b]) []))) (br (a.1==3) (re
  (Qe [Qd [X pI,J 2,J 0,X a.2,X [],Qb],J b]) []) (I (nK x h [40]) (br (yk x h [40]) Tr.err (I (nK x h KL&&bif k then Z else nK x h KK&&bif l then Z else nK x h HH)
  (br (cond k Z (cond l Z (yk x h HH))) (I (Pq a.2) (re (Qe [Qd [X pI,J g.1.1,J g.1.2.1,X g.1.q,X [],Qb],J b]) [])) (br (a.1==1) (re (Qe [Qd [X fh,J 0,J 0,X [],X a.2,Qb],
  J b]) []) (re (Qe [Qd zE,J (-1)]) [])))))))))))
def Mg(x:L zI.sl)(h:zy):=am [Q5,zk] t0 100000000 (ztU x h)
def zf4(x:L zI.sl)(h:zy):=(Mg x h).isSome
def zbH(x:L zI.sl)(h:zy):=o2 (Mg x h)
def zhP:=FT [zI.sl,zk] [Q5,zk] λx=>Mg x.1 x.2.1
theorem zdL:FK 241 zhP:=Jh.T1 (f:=f241) (keep:=k0) (e:=e0)
def TF:=ziY.add 241 zhP
theorem Ji:zx TF:=Jh.add zdL
def YT(g:L zI.sl->zy->zy->L Q5×zy)(c:L zI.sl->zy->zy->Bool):cy:=TF.add 195 (af [zI.sl,zk,zk] [Q5,zk] (λx=>c x.1 x.2.1 x.q.1) λx=>((g x.1 x.2.1 x.q.1).1,(g x.1 x.2.1 x.q.1).2,()))
theorem Rl{g:L zI.sl->zy->zy->L Q5×zy}{c:L zI.sl->zy->zy->Bool}(h:FK 195 (af [zI.sl,zk,zk] [Q5,zk] (λx=>c x.1 x.2.1 x.q.1) λx=>((g x.1 x.2.1 x.q.1).1,(g x.1 x.2.1 x.q.1).2,()))):zx (YT g c):=Ji.add h
abbrev zn4:=kr [(22,[0,2,6,15,16])]
inductive ox where
 |h22 (l0:dK) (i2:zy) (i16:zy) (z1:zq [CP.d Q5]) (ja0:List UInt8) (ja1:Int) (ja2:Int) (ja3:List UInt8) (ja4:List UInt8)
abbrev zta:ox->Nat×St
 |.h22 l c i z j h x a b=>(22,⟨tm 157 [(0,O zI l),(2,J c),(6,Qf 0 0),(15,Qf 1 0),(16,J i)],[Qa [X j,J h,J x,X a,X b,Qb],Qa (bm [] [CP.d Q5] z)]⟩)
def zjq(g:L zI.sl->zy->zy->L Q5×zy)(c:L zI.sl->zy->zy->Bool)(x:L zI.sl)(h d:zy):Tr (ox⊕ay):=
 let e:=Γ Δ (h+1)
 let i:=g x e 2
 let a:=g x h 3
 let j:=yk x a.2 [61]
 let b:=Γ Δ (a.2+1)
 let o:=T x (W a.2) (Q zI)
 let k:=zw a.1
 let l:=g x b 3
 let m:=Γ Δ (d+1)
 let n:=g x h m
 br (K (h<0))
 (re (Qe [Qd zE,J (-1)]) [])
 (br (d==4)
  (I (zf4 x h) (re (Qe [Qd (xE (zbH x h).1),J (zbH x h).2]) []))
  (br (d==2) (I (nK x h [78,79,84]) (br (yk x h [78,79,84]) (I (c x e 2) (re (Qe [Qd [X oH,J 0,J 0,X [],X [],O Q5 [zw i.1]],J i.2]) [])) (I (c x h 3) (br (K (a.2<0))
  (re (Qe [Qd zE,J (-1)]) []) (I (nK x a.2 [61]&&bif j then Z else nK x a.2 [60]) (br (cond j Z (yk x a.2 [60])) (I (zK a.2 (N x)) (I (c x b 3) (re (Qe
  [Qd [X o.2,J 0,J 0,X [],X [],O Q5 [k,zw l.1]],J l.2]) []))) (I (nK x a.2 [73,83]) (br (yk x a.2 [73,83]) (I (nK x b HH) (br (!yk x b HH) (re (Qe [Qd zE,J (-1)]) [])
  (re (Qe [Qd [X qM,J 0,J 0,X [],X [],O Q5 [k]],J (Γ Δ (a.2+2))]) []))) (re (Qe [Qd (xE a.1),J a.2])
  []))))))))) (I (c x h m) (Q9 (ox.h22 x d n.2 (n.1,()) [] 0 0 [] [])))))
def zjV(g:L zI.sl->zy->zy->L Q5×zy)(c:L zI.sl->zy->zy->Bool):ox->Tr (ox⊕ay)
 | .h22 l e i z j h x b d=>
  let q:=bif e==1 then nK l i Yp else Z
  let s:=bif e==1 then yk l i Yp else M
  let t:=yk l i [43]
  let o:=bif e==3 then nK l i [43]&&bif t then Z else nK l i [45]else Z
  let p:=bif e==3 then bif t then Z else yk l i [45]else M
  let m:=l.getD (W i) (Q zI)
  let u:=Γ Δ (i+1)
  let v:=Γ Δ (e+1)
  let n:=c l u v
  let k:=g l u v
  let a:=[zw z.1,zw k.1]
  br (K (i>=0))
  (I (cond (e==0) (nK l i [79,82]) Z) (br (cond (e==0) (yk l i [79,82]) M) (I q (br s (I o (br p (I (zK i (N l)) (br (m.2==[]) (re (Qe [Qd (xE z.1),J i]) []) (I n (Q9 (ox.h22 l e k.2 (zg.mk m.2 (0,0,[]) [] a,()) j h x b d))))) (br M (re (Qe [Qd (xE z.1),J i]) []) (I n (Q9 (ox.h22 l e k.2 (zg.mk jf (0,0,[]) [] a,()) j h x b d)))))) (I o (br p (I (zK i (N l)) (br (m.2==[]) (re (Qe [Qd (xE z.1),J i]) []) (I n (Q9 (ox.h22 l e k.2 (zg.mk m.2 (0,0,[]) [] a,()) j h x b d))))) (br M (re (Qe [Qd (xE z.1),J i]) []) (I n (Q9 (ox.h22 l e k.2 (zg.mk wS (0,0,[]) [] a,()) j h x b d)))))))) (I q (br s (I o (br p (I (zK i (N l))
  (br (m.2==[]) (re (Qe [Qd (xE z.1),J i]) []) (I n (Q9 (ox.h22 l e k.2 (zg.mk m.2 (0,0,[]) [] a,()) j h x b d))))) (br M (re (Qe [Qd (xE z.1),J i]) []) (I n (Q9 (ox.h22 l e k.2 (zg.mk jf (0,0,[]) [] a,()) j h x b d)))))) (I o (br p (I (zK i (N l)) (br (m.2==[]) (re
  (Qe [Qd (xE z.1),J i]) []) (I n (Q9 (ox.h22 l e k.2 (zg.mk m.2 (0,0,[]) [] a,()) j h x b d))))) (br Z (re (Qe [Qd (xE z.1),J i]) []) (I n (Q9 (ox.h22 l e k.2 (zg.mk [] (0,0,[]) [] a,()) j h x b d))))))))))
  (re (Qe [Qd (xE z.1),J i]) [])
def mM(o:Option (zH (Qi Y [Q5,zk]))):L Q5×zy:=(λr:zH (Qi Y [Q5,zk])=>(r.1,r.2.1)) (o.getD (ct [Q5,zk]))
def zbK(g:L zI.sl->zy->zy->L Q5×zy)(c:L zI.sl->zy->zy->Bool)(x:L zI.sl)(h a:zy):Option (zH (Qi Y [Q5,zk])):=am [Q5,zk] (zjV g c) 100000000 (zjq g c x h a)
def fR:Nat->L zI.sl->zy->zy->Option (zH (Qi Y [Q5,zk]))
 |0=>λ_ _ _=>none
 |n+1=>zbK (λx h a=>mM (fR n x h a)) λx h a=>(fR n x h a).isSome
theorem zad:aa TF.P 195 f195 3:=cM kw
theorem Nf:∀n,FK 195 (af [zI.sl,zk,zk] [Q5,zk] (λx=>(fR n x.1 x.2.1 x.q.1).isSome) λx=>((mM (fR n x.1 x.2.1 x.q.1)).1,(mM (fR n x.1 x.2.1 x.q.1)).2,()))
 |0=>e7 ⟨f195,zad.1,zad.2.1,zad.q.1⟩ (λ_=>rfl)
 |n+1=>(Rl (Nf n)).TT (f:=f195) (E:=YT (λh a b=>mM (fR n h a b)) (λh a b=>(fR n h a b).isSome)) (ks:=[zI.sl,zk,zk]) (outs:=[Q5,zk]) (keep:=zn4) (n:=100000000) (e:=zta) (t:=zjV (λh a b=>mM (fR n h a b)) (λh a b=>(fR n h a b).isSome)) (i:=λx=>zjq (λh a b=>mM (fR n h a b)) (λh a b=>(fR n h a b).isSome) x.1 x.2.1 x.q.1)
def PL(x:L zI.sl)(h a:zy):Option (zH (Qi Y [Q5,zk])):=fR 16 x h a
def PK(x:L zI.sl)(h a:zy):Bool:=(PL x h a).isSome
def Mi(x:L zI.sl)(h a:zy):L Q5×zy:=mM (PL x h a)
def zhH:ak:=af [zI.sl,zk,zk] [Q5,zk] (λx=>PK x.1 x.2.1 x.q.1) λx=>((Mi x.1 x.2.1 x.q.1).1,(Mi x.1 x.2.1 x.q.1).2,())
theorem zdE:FK 195 zhH:=Nf 16
def ziZ:=TF.add 195 zhH
theorem Jj:zx ziZ:=Ji.add zdE
def ztN(b:L zI.sl):Tr (Empty⊕ay):=
 let a:=Mi b 0 0
 let h:=K (a.2<0)
 let x:=zw a.1
 I (PK b 0 0)
 (I (cond h Z (ws x))
  (br (cond h Z (!Gk x)) (re (Qe [Qd [X [],J 0,J 0,X [],X [],Qb],J 0,kb M]) []) (re (Qe [Qd [X (zg.op a.1),J (zg.v a.1).1,J (zg.v a.1).2.1,X (zg.v a.1).q,X (zg.s a.1),O Q5 (zg.l a.1)],J a.2,kb Z])
  [])))
def GF(x:L zI.sl):=am [Q5,zk,Q7] t0 100000000 (ztN x)
def zbG(x:L zI.sl):=(GF x).isSome
def zf3(x:L zI.sl):=o3 (GF x)
def zhw:=FT [zI.sl] [Q5,zk,Q7] λx=>GF x.1
theorem zdu:FK 136 zhw:=Jj.T1 (f:=f136) (keep:=k0) (e:=e0)
def zi0:=ziZ.add 136 zhw
theorem Jk:zx zi0:=Jj.add zdu
abbrev zvl:=kr []
def zuf(y:zq be):Tr (Empty⊕ay):=
 let h:=Qg ((N y.1:Int).toNat-W y.2.1) (Qh (W y.2.1) y.1)
 let a:=zf3 h
 let x:=Γ Δ (y.2.1+a.2.1)
 I (K (0<=y.2.1)&&K (y.2.1<=(N y.1:Int))&&K ((N y.1:Int)<=(N y.1:Int)))
 (I (zbG h)
  (br (!a.q) (re (Qd [X (zg.op a.1),J (zg.v a.1).1,J (zg.v a.1).2.1,X (zg.v a.1).q,X (zg.s a.1),O Q5 (zg.l a.1)]) [Qa [O zI y.1,J x,kb M]]) (re (Qd [X (zg.op a.1),J (zg.v a.1).1,J (zg.v a.1).2.1,X (zg.v a.1).q,
  X (zg.s a.1),O Q5 (zg.l a.1)]) (bd be (y.1,x,y.q)))))
def UP(y:zq be):Option (zH (Qi Y [Q5])×zq be):=kM [Q5] be t0 100000000 (zuf y)
def Mp(y:zq be):Bool:=(UP y).isSome
def Mo(y:zq be):(L Q5)×zq be:=(λr:zH (Qi Y [Q5])×zq be=>(r.1.1,r.2)) ((UP y).getD (ct [Q5],gn be))
def zrn:ak:=rC be [] [Q5] be (λy _=>Mp y) λy _=>(((Mo y).1,()),(Mo y).2)
theorem zl9:FK 73 zrn:=Jk.B1 (f:=f73) (ps:=be) (ks:=[]) (outs:=[Q5]) (keep:=zvl) (n:=100000000) (e:=e0) (t:=t0) (i:=λy x=>zuf y)
def ztk:=zi0.add 73 zrn
theorem AH:zx ztk:=Jk.add zl9
abbrev znX:=kr [(6,[1,3])]
inductive Ic where
 |h6 (i3:Int) (z0:zq [CP.d zI])
abbrev zs6:Ic->Nat×St
 |.h6 i z=>(6,⟨tm 82 [(1,Qf 0 0),(3,J i)],[Qa (bm [] [CP.d zI] z)]⟩)
def Oz(x:cC):Tr (Ic⊕ay):=
 let a:=(2,0,x.2)
 br (x.1==1) (I (yg x.2) (re (AV.bool (wu x.2)) []))
 (br (x.1==2) (Q9 (Ic.h6 0 (x,())))
  (br (x.1==3) (I (nZ a) (re (AV.bool (vn a)) [])) (br (x.1==4) (re (AV.bool (cond (x.2==[40]) Z (cond (x.2==[41]) Z (cond (x.2==[44]) Z (cond (x.2==[61]) Z (cond (x.2==[60]) Z (cond (x.2==[43]) Z (cond (x.2==[45]) Z (x.2==[42]))))))))) []) (re (kb M) []))))
def yJ:Ic->Tr (Ic⊕ay)
 | .h6 i z=>
  let a:=(N z.1.2:Int)
  let h:=(↑(T z.1.2 i.toNat 0).toNat:Int)
  br (K (i<a))
  (I (zK i (N z.1.2))
   (I (kP h) (br (!lK h) (re (kb M) []) (Q9 (Ic.h6 (Γ Δ (i+1)) z)))))
  (re (AV.bool (cond (K (1<=a)) (K (a<=19)) M)) [])
def Me(x:cC):=am [Q7] yJ 100000000 (Oz x)
def oe(x:cC):=(Me x).isSome
def vo(x:cC):=o1 (Me x)
def zho:=FT [zI] [Q7] λx=>Me x.1
theorem zdm:FK 134 zho:=AH.T1 (f:=f134) (keep:=znX) (e:=zs6)
abbrev znK:=kr []
def zjb(y:zq be)(d:TS):Tr (Empty⊕ay):=
 let e:=(y.1,y.2.1,y.q.1,())
 let x:=gg e d
 let b:=(x.2.1,x.q.1,x.r.1,())
 let h:=Mo b
 let c:=ch b [40]
 let g:=(c.1,c.2.1,c.q.1,())
 let a:=Mo g
 let i:=(a.2.1,a.q.1,a.r.1,())
 I (eL e d)
 (br (!x.1) (re (Qd [X [],J 0,J 0,X [],X [],Qb]) (bd be x.2))
  (br (d==nc) (I (Mp b) (re (Qd [X (zg.op h.1),J (zg.v h.1).1,J (zg.v h.1).2.1,X (zg.v h.1).q,X (zg.s h.1),O Q5 (zg.l h.1)]) (bd be h.2))) (I (bw b [40]) (I (Mp g) (I (bw i [41]) (re (Qd
  [X (zg.op a.1),J (zg.v a.1).1,J (zg.v a.1).2.1,X (zg.v a.1).q,X (zg.s a.1),O Q5 (zg.l a.1)]) (bd be (ch i [41]))))))))
def UO(y:zq be)(x:TS):Option (zH (Qi Y [Q5])×zq be):=kM [Q5] be t0 100000000 (zjb y x)
def eE(y:zq be)(x:TS):Bool:=(UO y x).isSome
def fI(y:zq be)(x:TS):(L Q5)×zq be:=(λr:zH (Qi Y [Q5])×zq be=>(r.1.1,r.2)) ((UO y x).getD (ct [Q5],gn be))
def zg1:ak:=rC be [Q6] [Q5] be (λy x=>eE y x.1) λy x=>(((fI y x.1).1,()),(fI y x.1).2)
theorem zcZ:FK 74 zg1:=AH.B1 (f:=f74) (ps:=be) (ks:=[Q6]) (outs:=[Q5]) (keep:=znK) (n:=100000000) (e:=e0) (t:=t0) (i:=λy x=>zjb y x.1)
def zub(x:TS):Tr (Empty⊕ay):=
 I (yg x&&bif wu x then GG x else Z) (re (AV.bool (cond (wu x) (!PG x) M)) [])
def yl(x:TS):=am [Q7] t0 100000000 (zub x)
def eD(x:TS):=(yl x).isSome
def cg(x:TS):=o1 (yl x)
def zq5:=FT [Q6] [Q7] λx=>yl x.1
theorem zlQ:FK 124 zq5:=AH.T1 (f:=f124) (keep:=k0) (e:=e0)
def ziD:=Rp.addL [(134,zho),(74,zg1),(124,zq5)]
theorem th:zx ziD:=pM.addL<|fc zdm<|fc zcZ<|fc zlQ iP
abbrev zu2:Nat->aY:=λj=>if j=3 then{slots:=[0,4,5],prom:=[(4,none,zI)]}else if j=11 then{slots:=[0,4,5,6,7,8]}else if j=15 then{slots:=[0,4,5,6,7,8]}else if j=20 then{slots:=[0,4,5,8]}else{ }
inductive kC where
 |h3 (s0:TS) (i5:Int) (lh_0:LF)
 |h11 (s0:TS) (i5:Int) (i6:Int) (i7:Int) (z1:zq [CP.d zI]) (lh_0:LF)
 |h15 (s0:TS) (i5:Int) (i6:Int) (i7:Int) (z1:zq [CP.d zI]) (lh_0:LF)
 |h20 (s0:TS) (i5:Int) (z1:zq [CP.d zI]) (lh_0:LF)
abbrev zxY:kC->Nat×St
 |.h3 s i l=>(3,⟨tm 131 [(0,X s),(4,AV.vec 0),(5,J i)],[AO.vec zI l]⟩)
 |.h11 s i h x z l=>(11,⟨tm 131 [(0,X s),(4,AV.vec 0),(5,J i),(6,AV.int IntKind.u8 h),(7,J x),(8,Qf 1 0)],[AO.vec zI l,Qa (bm [] [CP.d zI] z)]⟩)
 |.h15 s i h x z l=>(15,⟨tm 131 [(0,X s),(4,AV.vec 0),(5,J i),(6,AV.int IntKind.u8 h),(7,J x),(8,Qf 1 0)],[AO.vec zI l,Qa (bm [] [CP.d zI] z)]⟩)
 |.h20 s i z l=>(20,⟨tm 131 [(0,X s),(4,AV.vec 0),(5,J i),(8,Qf 1 0)],[AO.vec zI l,Qa (bm [] [CP.d zI] z)]⟩)
def zzh(x:TS):Tr (kC⊕ay):=
 Q9 (kC.h3 x 0 [])
def iE:kC->Tr (kC⊕ay)
 | .h3 s i l=>
  let h:=(↑(T s i.toNat 0).toNat:Int)
  let x:=Γ Δ (i+1)
  let b:=Qg (x.toNat-i.toNat) (Qh i.toNat s)
  let a:=((4,b),())
  let d:=(4,b)
  let g:=[d]
  br (K (i<(N s:Int)))
  (I (zK i (N s)) (br (cond (h==32) Z (h==10)) (Q9 (kC.h3 s x l)) (I (K (0<=i)&&K (i<=x)&&K (x<=(N s:Int))) (I (pk h) (br (sC h) (Q9 (kC.h11 s x h i a l)) (I (kP h) (br (lK h) (Q9 (kC.h15 s x h i a l))
  (br (h==39) (Q9 (kC.h20 s x ((3,[]),()) l)) (I (oe d) (br (!vo d) (re (Qe [Qb,kb M]) []) (I (K (N l+N g<=1073741824)) (Q9 (kC.h3 s x (l++g))))))))))))))
  (re (Qe [AV.vec 0,AV.bool (K ((N l:Int)<=400))]) [AO.vec zI l])
 | .h11 s i e c z l=>
  let h:=K (i<(N s:Int))
  let x:=(↑(T s i.toNat 0).toNat:Int)
  let b:=Qg (i.toNat-c.toNat) (Qh c.toNat s)
  let a:=(1,b)
  let d:=[a]
  I (cond h (zK i (N s)&&yi x) Z)
  (br (cond h (GC x) M) (Q9 (kC.h11 s (Γ Δ (i+1)) e c z l)) (I (K (0<=c)&&K (c<=i)&&K (i<=(N s:Int))) (I (kP e) (br (lK e) (Q9 (kC.h15 s i e c ((1,b),()) l)) (br (e==39) (Q9 (kC.h20 s i ((3,[]),()) l)) (I (oe a)
  (br (!vo a) (re (Qe [Qb,kb M]) []) (I (K (N l+N d<=1073741824)) (Q9 (kC.h3 s i (l++d)))))))))))
 | .h15 s i e c z l=>
  let h:=K (i<(N s:Int))
  let x:=(↑(T s i.toNat 0).toNat:Int)
  let b:=(2,Qg (i.toNat-c.toNat) (Qh c.toNat s))
  let a:=[b]
  I (cond h (zK i (N s)&&kP x) Z)
  (br (cond h (lK x) M) (Q9 (kC.h15 s (Γ Δ (i+1)) e c z l)) (I (K (0<=c)&&K (c<=i)&&K (i<=(N s:Int))) (br (e==39) (Q9 (kC.h20 s i ((3,[]),()) l)) (I (oe b) (br (!vo b) (re (Qe [Qb,kb M]) [])
  (I (K (N l+N a<=1073741824)) (Q9 (kC.h3 s i (l++a)))))))))
 | .h20 s i z l=>
  let h:=K (i<(N s:Int))
  let x:=(↑(T s i.toNat 0).toNat:Int)
  let b:=x !=39
  let a:=Γ Δ (i+1)
  let d:=K (a<(N s:Int))
  let g:=Qg (a.toNat-i.toNat) (Qh i.toNat s)
  let j:=((z.1.1,z.1.2++g),())
  I (cond h (zK i (N s)&&bif b then Z else bif d then zK a (N s)else Z) Z)
  (br (cond h (cond b Z (cond d ((↑(T s a.toNat 0).toNat:Int)==39) M)) M) (I (K (0<=i)&&K (i<=a)&&K (a<=(N s:Int))) (I (K (N z.1.2+N g<=1099511627776))
  (I (zK i (N s)) (br (x==39) (Q9 (kC.h20 s (Γ Δ (a+1)) j l)) (Q9 (kC.h20 s a j l)))))) (br (K (i>=(N s:Int))) (re (Qe [Qb,kb M]) []) (I (oe z.1) (br (!vo z.1) (re (Qe [Qb,kb M]) [])
  (I (K (N l+[z.1].length<=1073741824)) (Q9 (kC.h3 s a (l++[z.1]))))))))
def Md(x:TS):=am [zI.sl,Q7] iE 100000000 (zzh x)
def Mc(x:TS):=(Md x).isSome
def Cg(x:TS):=o2 (Md x)
def zqV:=FT [Q6] [zI.sl,Q7] λx=>Md x.1
theorem zlH:FK 67 zqV:=th.T1 (f:=f67) (keep:=zu2) (e:=zxY)
def Ox(x:L Q5)(h:TS):Tr (Empty⊕ay):=
 let a:=h++zem
 let b:=a++sr (zw x)
 br (zg.op x==[])
 (I (gW (zw x) (zg.mk [] (0,0,[]) [] [])) (re (Qe [X [],AV.bool (fH (zw x) (zg.mk [] (0,0,[]) [] []))]) []))
 (I (ws (zw x))
  (br (!Gk (zw x)) (re (Qe [X [],kb M]) []) (br (h==nc) (I (tW (zw x)) (I (K (N zep+N (sr (zw x))<=1099511627776)) (re (Qe [X (zep++sr (zw x)),kb Z]) [])))
  (I (K (N h+N zem<=1099511627776)) (I (tW (zw x)) (I (K (N a+N (sr (zw x))<=1099511627776)) (I (K (N b+N jm<=1099511627776)) (re (Qe [X (b++jm),kb Z]) []))))))))
def Dw(x:L Q5)(h:TS):=am [Q6,Q7] t0 100000000 (Ox x h)
def qx(x:L Q5)(h:TS):=(Dw x h).isSome
def ww(x:L Q5)(h:TS):=o2 (Dw x h)
def zhb:=FT [Q5,Q6] [Q6,Q7] λx=>Dw x.1 x.2.1
theorem zc9:FK 186 zhb:=th.T1 (f:=f186) (keep:=k0) (e:=e0)
abbrev znT:=kr [(3,[0,4,5])]
inductive DS where
 |h3 (l0:LS) (s4:List UInt8) (i5:Int)
abbrev zs3:DS->Nat×St
 |.h3 l s i=>(3,⟨tm 37 [(0,O Q6 l),(4,X s),(5,J i)],[]⟩)
def ztK(x:L Sh.str.sl):Tr (DS⊕ay):=
 Q9 (DS.h3 x [] 0)
def He:DS->Tr (DS⊕ay)
 | .h3 l s i=>
  let a:=l.getD i.toNat (Q Q6)
  let h:=s++fO
  let x:=Γ Δ (i+1)
  let b:=K (1<=(N l:Int))
  br (K (i<(N l:Int)))
  (I (zK i (N l))
   (I (eD a) (br (!cg a) (re (Qe [X [],kb M]) []) (br (K (i>0)) (I (K (N s+N fO<=1099511627776)) (I (zK i (N l)) (I (K (N h+N a<=1099511627776)) (Q9 (DS.h3 l (h++a) x)))))
   (I (zK i (N l)) (I (K (N s+N a<=1099511627776)) (Q9 (DS.h3 l (s++a) x))))))))
  (re (Qe [X (cond b s s),AV.bool (cond b (K ((N l:Int)<=8)) M)]) [])
def ym(x:L Sh.str.sl):=am [Q6,Q7] He 100000000 (ztK x)
def GJ(x:L Sh.str.sl):=(ym x).isSome
def Mj(x:L Sh.str.sl):=o2 (ym x)
def zhf:=FT [Sh.str.sl] [Q6,Q7] λx=>ym x.1
theorem zdd:FK 190 zhf:=th.T1 (f:=f190) (keep:=znT) (e:=zs3)
def ziE:=ziD.addL [(67,zqV),(186,zhb),(190,zhf)]
theorem oP:zx ziE:=th.addL<|fc zlH<|fc zc9<|fc zdd iP
abbrev znQ:=kr [(4,[1,4,5,6]),(15,[1,4,5,8]),(20,[1,4,5,9])]
inductive rm where
 |h4 (b4:Bool) (s5:zN) (i6:Int) (z0:zq [CP.d aB])
 |h15 (b4:Bool) (s5:zN) (i8:Int) (z0:zq [CP.d aB])
 |h20 (b4:Bool) (s5:zN) (i9:Int) (z0:zq [CP.d aB])
abbrev zs1:rm->Nat×St
 |.h4 b s i z=>(4,⟨tm 174 [(1,Qf 0 0),(4,AV.bool b),(5,X s),(6,J i)],[Qa (bm [] [CP.d aB] z)]⟩)
 |.h15 b s h z=>(15,⟨tm 174 [(1,Qf 0 0),(4,AV.bool b),(5,X s),(8,J h)],[Qa (bm [] [CP.d aB] z)]⟩)
 |.h20 b s x z=>(20,⟨tm 174 [(1,Qf 0 0),(4,AV.bool b),(5,X s),(9,J x)],[Qa (bm [] [CP.d aB] z)]⟩)
def ZQ(x:zS):Tr (rm⊕ay):=
 let a:=zeq++x.2.1
 let h:=(N x.t.1:Int)
 let b:=(N x.v.1:Int)
 let c:=(N x.w.1:Int)
 I (eD x.u.1)
 (I (K (N zeq+N x.2.1<=1099511627776))
  (I (K (N a+N Cy<=1099511627776)) (Q9 (rm.h4 (cond (cg x.u.1) (cond (K (1<=h)) (cond (K (h<=8)) (cond (K (b<=8)) (K (c<=8)) M) M) M) M) (a++Cy) 0 (x,())))))
def gy:rm->Tr (rm⊕ay)
 | .h4 b s n z=>
  let i:=(N z.1.t.1:Int)
  let a:=T z.1.t.1 n.toNat (Q zp)
  let h:=a.1++[32]
  let c:=[[],Eg,Eh,Ee].getD (W a.2.1) (Q Q6)
  let d:=h++c
  let e:=s++d
  let k:=e++zmA
  let l:=Γ Δ (n+1)
  let g:=zmD++z.1.u.1
  let m:=g++jm
  br (K (n<i))
  (I (zK n (N z.1.t.1))
   (I (eD a.1) (br (cond (!cg a.1) Z (cond (K (a.2.1<1)) Z (K (a.2.1>3)))) (re (Qe [X [],kb M]) []) (I (K (N a.1+[32].length<=1099511627776)) (I (zK a.2.1 [[],Eg,Eh,Ee].length) (I (K (N h+N c<=1099511627776))
   (I (K (N s+N d<=1099511627776)) (br a.q (I (K (N e+N zmA<=1099511627776)) (I (K (N k+N fO<=1099511627776)) (Q9 (rm.h4 b (k++fO) l z))))
   (I (K (N e+N fO<=1099511627776)) (Q9 (rm.h4 b (e++fO) l z)))))))))))
  (I (K (N zmD+N z.1.u.1<=1099511627776))
   (I (K (N g+N jm<=1099511627776)) (I (K (N s+N m<=1099511627776)) (Q9 (rm.h15 b (s++m) 0 z)))))
 | .h15 b s o z=>
  let i:=(N z.1.v.1:Int)
  let a:=zK o (N z.1.v.1)
  let h:=T z.1.v.1 o.toNat (Q Q6)
  let c:=zmy++h
  let d:=c++jm
  br (K (o<i))
  (I (cond b (a&&eD h) Z)
   (I a (I (K (N zmy+N h<=1099511627776)) (I (K (N c+N jm<=1099511627776)) (I (K (N s+N d<=1099511627776)) (Q9 (rm.h15 (cond b (cg h) M) (s++d) (Γ Δ (o+1)) z)))))))
  (Q9 (rm.h20 b s 0 z))
 | .h20 b s p z=>
  let i:=(N z.1.w.1:Int)
  let a:=zK p (N z.1.w.1)
  let h:=T z.1.w.1 p.toNat (Q jM)
  let c:=cg h.1
  let d:=zmx++h.1
  let e:=d++zmw
  let k:=e++h.2
  let l:=zw z.1.x.1
  let g:=ww l [32,44]
  let m:=s++g.1
  let j:=m++jm
  br (K (p<i))
  (I (cond b (a&&(eD h.1&&bif c then a&&eD h.2 else Z)) Z)
   (I a (I (K (N zmx+N h.1<=1099511627776)) (I (K (N d+N zmw<=1099511627776)) (I a (I (K (N e+N h.2<=1099511627776)) (I (K (N s+N k<=1099511627776))
   (Q9 (rm.h20 (cond b (cond c (cg h.2) M) M) (s++k) (Γ Δ (p+1)) z)))))))))
  (I (qx l [32,44])
   (I (K (N s+N g.1<=1099511627776)&&K (N m+N jm<=1099511627776)) (re (Qe [X (cond b j j),AV.bool (cond b g.2 M)]) [])))
def pf(x:zS):=am [Q6,Q7] gy 100000000 (ZQ x)
def tZ(x:zS):=(pf x).isSome
def su(x:zS):=o2 (pf x)
def zhc:=FT [aB] [Q6,Q7] λx=>pf x.1
theorem zda:FK 187 zhc:=oP.T1 (f:=f187) (keep:=znQ) (e:=zs1)
abbrev zuJ:=kr [(2,[0,1,5]),(5,[0,1,5,6])]
inductive Nj where
 |h2 (l0:zT) (l1:List (L Q6)) (i5:Int)
 |h5 (l0:zT) (l1:List (L Q6)) (i5:Int) (i6:Int)
abbrev zxJ:Nj->Nat×St
 |.h2 l h i=>(2,⟨tm 47 [(0,O zl l),(1,O Q6 h),(5,J i)],[]⟩)
 |.h5 l h i x=>(5,⟨tm 47 [(0,O zl l),(1,O Q6 h),(5,J i),(6,J x)],[]⟩)
def zzd(x:L zl.sl)(h:L Sh.str.sl):Tr (Nj⊕ay):=
 Q9 (Nj.h2 x h 0)
def sM:Nj->Tr (Nj⊕ay)
 | .h2 l h i=>
  br (K (i<(N l:Int))) (Q9 (Nj.h5 l h i 0)) (re (kb M) [])
 | .h5 l h i x=>
  let a:=l.getD i.toNat (Q zl)
  let d:=(N a.1.t.1:Int)
  let b:=!PJ h a.1.1
  let c:=T a.1.t.1 x.toNat (Q zI)
  I (zK i (N l))
  (br (K (x<d))
   (I (zK i (N l)&&(Ci h a.1.1&&bif b then zK i (N l)&&(zK x (N a.1.t.1)&&Ci h c.2)else Z)) (br (cond b (PJ h c.2) M) (re (kb Z) []) (Q9 (Nj.h5 l h i (Γ Δ (x+1))))))
   (Q9 (Nj.h2 l h (Γ Δ (i+1)))))
def qf(x:L zl.sl)(h:L Sh.str.sl):=am [Q7] sM 100000000 (zzd x h)
def wn(x:L zl.sl)(h:L Sh.str.sl):=(qf x h).isSome
def A8(x:L zl.sl)(h:L Sh.str.sl):=o1 (qf x h)
def zqu:=FT [zl.sl,Sh.str.sl] [Q7] λx=>qf x.1 x.2.1
theorem zld:FK 62 zqu:=oP.T1 (f:=f62) (keep:=zuJ) (e:=zxJ)
abbrev zuL:=kr [(3,[0,1,6,7]),(10,[6,9]),(13,[6,9,10])]
inductive rp where
 |h3 (l0:aZ) (l1:List (L Q6)) (i7:Int)
 |h3b (l0:aZ) (l1:List (L Q6)) (i7:Int) (lh_0:ea)
 |h10 (i9:Int)
 |h10b (i9:Int) (lh_0:ea)
 |h13 (i9:Int) (i10:Int)
 |h13b (i9:Int) (i10:Int) (lh_0:ea)
abbrev zxL:rp->Nat×St
 |.h3 a b x=>(3,⟨tm 50 [(0,O zp a),(1,O Q6 b),(6,Qb),(7,J x)],[]⟩)
 |.h3b a b x l=>(3,⟨tm 50 [(0,O zp a),(1,O Q6 b),(6,AV.vec 0),(7,J x)],[AO.vec zk l]⟩)
 |.h10 h=>(10,⟨tm 50 [(6,Qb),(9,J h)],[]⟩)
 |.h10b h l=>(10,⟨tm 50 [(6,AV.vec 0),(9,J h)],[AO.vec zk l]⟩)
 |.h13 h i=>(13,⟨tm 50 [(6,Qb),(9,J h),(10,J i)],[]⟩)
 |.h13b h i l=>(13,⟨tm 50 [(6,AV.vec 0),(9,J h),(10,J i)],[AO.vec zk l]⟩)
def zt3(x:L zp.sl)(h:L Sh.str.sl):Tr (rp⊕ay):=
 Q9 (rp.h3 x h 0)
def kT:rp->Tr (rp⊕ay)
 | .h3 b a x=>
  let c:=a.getD x.toNat (Q Q6)
  let d:=gZ b c
  let e:=[d]
  br (K (x<(N a:Int)))
  (I (zK x (N a))
   (I (fq b c) (br (K (d<0)) (re (Qe [Qb,J 4]) []) (I (K (N e<=1073741824)) (Q9 (rp.h3b b a (Γ Δ (x+1)) e))))))
  (Q9 (rp.h10 0))
 | .h3b b a x l=>
  let c:=a.getD x.toNat (Q Q6)
  let d:=gZ b c
  let e:=[d]
  br (K (x<(N a:Int)))
  (I (zK x (N a))
   (I (fq b c) (br (K (d<0)) (re (Qe [Qb,J 4]) []) (I (K (N l+N e<=1073741824)) (Q9 (rp.h3b b a (Γ Δ (x+1)) (l++e)))))))
  (Q9 (rp.h10b 0 l))
 | .h10 h=>
  br (K (h<0)) (Q9 (rp.h13 h 0)) (re (Qe [Qb,J 0]) [])
 | .h10b h l=>
  br (K (h<(N l:Int))) (Q9 (rp.h13b h 0 l)) (re (Qe [AV.vec 0,J 0]) [AO.vec zk l])
 | .h13 h i=>
  br (K (i<h)) Tr.err (Q9 (rp.h10 (Γ Δ (h+1))))
 | .h13b h i l=>
  br (K (i<h))
  (I (zK h (N l))
   (I (K (h.toNat<N l)) (I (zK i (N l)) (I (K (i.toNat<N l)) (br (l.getD h.toNat (Q zk)==l.getD i.toNat (Q zk)) (re (Qe [Qb,J 7]) []) (Q9 (rp.h13b h (Γ Δ (i+1)) l)))))))
  (Q9 (rp.h10b (Γ Δ (h+1)) l))
def qe(x:L zp.sl)(h:L Sh.str.sl):=am [zk.sl,zk] kT 100000000 (zt3 x h)
def qd(x:L zp.sl)(h:L Sh.str.sl):=(qe x h).isSome
def tK(x:L zp.sl)(h:L Sh.str.sl):=o2 (qe x h)
def zqw:=FT [zp.sl,Sh.str.sl] [zk.sl,zk] λx=>qe x.1 x.2.1
theorem zle:FK 63 zqw:=oP.T1 (f:=f63) (keep:=zuL) (e:=zxL)
def zfm(x:L Q5)(h:L zp.sl):Tr (Empty⊕ay):=
 br (zg.op x==[]) (re (J 0) [])
 (I (ws (zw x))
  (br (!Gk (zw x)) (re (J 1) []) (I (qn (zw x) h) (br (cond ((jw (zw x) h).2==0) (cond ((jw (zw x) h).1!=0) ((jw (zw x) h).1!=3) M) M) (re (J 5) []) (re (J (jw (zw x) h).2) [])))))
def Dn(x:L Q5)(h:L zp.sl):=am [zk] t0 100000000 (zfm x h)
def qt(x:L Q5)(h:L zp.sl):=(Dn x h).isSome
def sx(x:L Q5)(h:L zp.sl):=o1 (Dn x h)
def zqy:=FT [Q5,zp.sl] [zk] λx=>Dn x.1 x.2.1
theorem zlg:FK 65 zqy:=oP.T1 (f:=f65) (keep:=k0) (e:=e0)
def Y3:=ziE.addL [(187,zhc),(62,zqu),(63,zqw),(65,zqy)]
theorem EE:zx Y3:=oP.addL<|fc zda<|fc zld<|fc zle<|fc zlg iP
abbrev YD:List CP:=[.d .str,.d .str,.d .str,.nil,.nil,.d .str,.nil,.nil,.d .str,.d zk,.d zk,.d .str,.d .str,.nil,.d (.sl R),.nil,.d .str,.d zk,.d zk,.d .str,.d .str,.nil,.d .str]
abbrev Rc:List CP:=[.d .str,.d .str,.d .str,.nil,.nil,.d .str,.nil,.nil,.d .str,.d zk,.d zk,.d .str,.d .str,.nil,.nil,.d (.sl jb),.d .expr,.d .str]
abbrev zvb:=kr [(15,[1,3,5,12,13]),(27,[1,3,5,8,9,14,15])]
inductive DU where
 |h15 (s12:List UInt8) (i13:Int) (z0:zq rl) (z1:zq jR) (z2:zq YD)
 |h27 (s8:TS) (b9:L Q7) (s14:List UInt8) (i15:Int) (z0:zq rl) (z1:zq jR) (z2:zq Rc)
abbrev zx4:DU->Nat×St
 |.h15 s i z a b=>(15,⟨tm 430 [(1,Qf 0 0),(3,Qf 1 0),(5,Qf 2 0),(12,X s),(13,J i)],[Qa (bm [] rl z),Qa (bm [] jR a),Qa (bm [] YD b)]⟩)
 |.h27 d c x h z a b=>(27,⟨tm 430 [(1,Qf 0 0),(3,Qf 1 0),(5,Qf 2 0),(8,X d),(9,AV.bool c),(14,X x),(15,J h)],[Qa (bm [] rl z),Qa (bm [] jR a),Qa (bm [] Rc b)]⟩)
def pT(h:zS):Tr (DU⊕ay):=
 let a0:=zw h.x.1
 let a1:=zw h.s.1
 let a2:=(h.1,h.2.1,h.q.1,h.r.1,h.t.1,h.u.1,h.v.1,h.w.1,a0,h.y.1,h.z.1,a1,h.p)
 let a3:=su a2
 let k:=ww a1 nc
 let a5:=zes++h.2.1
 let a6:=zeB++h.2.1
 let a7:=Yr++h.2.1
 let a8:=a7++mj
 let a9:=a8++h.q.1
 let o:=a9++Cy
 let l:=Mj h.r.1
 let A:=o++l.1
 let g:=A++jm
 let a:=ww a0 []
 let m:=eD h.q.1
 let n:=cg h.q.1
 let B:=zmF++h.2.1
 let C:=B++mj
 let D:=C++h.q.1
 let E:=D++fO
 let F:=E++h.p
 let G:=F++Cz
 let b:=G++h.u.1
 let c:=eD h.p
 let d:=cg h.p
 let H:=zmE++h.2.1
 let P:=H++mj
 let U:=P++h.q.1
 let h0:=zK 0 (N h.r.1)
 let h1:=U++VP
 let i:=T h.r.1 (W 0) (Q Q6)
 let h2:=h1++i
 let h3:=zK 1 (N h.r.1)
 let h4:=h2++VQ
 let j:=T h.r.1 (W 1) (Q Q6)
 let e:=h4++j
 let h5:=zsL++h.2.1
 let h6:=h5++QV
 let h7:=zsM++h.2.1
 let h8:=h7++QV
 let h9:=zsO++h.2.1
 let x1:=h9++mj
 let x2:=zsP++h.2.1
 let x3:=x2++mj
 I (qx a0 [])
 (I (qx a1 nc)
  (br (h.1==QW) (I (tZ a2) (re (Qe [X a3.1,aS h.1 h.2.1 [] Qb (O zp h.t.1) h.u.1 (O Q6 h.v.1) (O (Sh.str.pr Q6) h.w.1) (xE h.x.1) Qb Qb zE [],AV.bool a3.2]) [])) (br (h.1==bl1)
  (I (K (N zeu+N h.2.1<=1099511627776)) (re (Qe [X (zeu++h.2.1),aR h [],kb Z]) [])) (br (h.1==bl3) (Q9 (DU.h15 [] 0 (h,()) ([],[],[],[],[],0,0,[],[],[],0,0,[],[],[],())
  (h.1,h.2.1,[],[],[],0,0,[],[],h.y.1,[],0,0,[],[],[],()))) (br (h.1==ND) (Q9 (DU.h27 k.1 k.2 [] 0 (h,()) ([],[],[],[],[],0,0,[],[],[],0,0,[],[],[],()) (h.1,h.2.1,[],[],[],0,0,[],[],h.z.1,h.s.1,[],()))) (br (h.1==bl0)
  (I (K (N zes+N h.2.1<=1099511627776)) (I (K (N a5+N k.1<=1099511627776)) (re (Qe [X (a5++k.1),aW h,AV.bool k.2]) [])))
  (br (h.1==KJ) (I (K (N zeB+N h.2.1<=1099511627776)) (I (K (N a6+N k.1<=1099511627776)) (re (Qe [X (a6++k.1),aW h,AV.bool k.2]) [])))
  (br (h.1==dp) (I (GJ h.r.1) (I (K (N Yr+N h.2.1<=1099511627776)) (I (K (N a7+N mj<=1099511627776)) (I (K (N a8+N h.q.1<=1099511627776))
  (I (K (N a9+N Cy<=1099511627776)) (I (K (N o+N l.1<=1099511627776)) (I (K (N A+N jm<=1099511627776)) (I (K (N g+N a.1<=1099511627776)) (br l.2 (br a.2 (I m (re (Qe [X (g++a.1),aM h (O Q6 h.r.1) [] [],AV.bool n]) [])) (re (Qe [X (g++a.1),aM h (O Q6 h.r.1) [] [],kb M]) [])) (re (Qe [X (g++a.1),aM h (O Q6 h.r.1) [] [],kb M]) [])))))))))) (br (h.1==fD) (I (K (N zmF+N h.2.1<=1099511627776))
  (I (K (N B+N mj<=1099511627776)) (I (K (N C+N h.q.1<=1099511627776)) (I (K (N D+N fO<=1099511627776)) (I (K (N E+N h.p<=1099511627776))
  (I (K (N F+N Cz<=1099511627776)) (I (K (N G+N h.u.1<=1099511627776)) (I (K (N b+N a.1<=1099511627776)) (br a.2 (I m (br n (I c (br d (I (eD h.u.1) (re (Qe [X (b++a.1),aM h Qb h.u.1 h.p,AV.bool (cg h.u.1)]) [])) (re (Qe [X (b++a.1),aM h Qb h.u.1 h.p,kb M]) []))) (re (Qe [X (b++a.1),aM h Qb h.u.1 h.p,kb M]) []))) (re (Qe [X (b++a.1),aM h Qb h.u.1 h.p,kb M]) [])))))))))) (br (h.1==na)
  (br ((N h.r.1:Int)!=2) (re (Qe [X [],aM h (O Q6 h.r.1) [] [],kb M]) []) (I (K (N zmE+N h.2.1<=1099511627776))
  (I (K (N H+N mj<=1099511627776)) (I (K (N P+N h.q.1<=1099511627776)) (I (K (N U+N VP<=1099511627776)) (I h0 (I (K (N h1+N i<=1099511627776))
  (I (K (N h2+N VQ<=1099511627776)) (I h3 (I (K (N h4+N j<=1099511627776)) (I (K (N e+N a.1<=1099511627776)) (br a.2 (I m (br n (I h0 (I (eD i) (br (cg i) (I h3 (I (eD j) (re (Qe [X (e++a.1),
  aM h (O Q6 h.r.1) [] [],AV.bool (cg j)]) []))) (re (Qe [X (e++a.1),aM h (O Q6 h.r.1) [] [],kb M]) [])))) (re (Qe [X (e++a.1),aM h (O Q6 h.r.1) [] [],kb M]) []))) (re (Qe [X (e++a.1),aM h (O Q6 h.r.1) [] [],kb M]) []))))))))))))) (br (h.1==bl9)
  (I (K (N zsL+N h.2.1<=1099511627776)) (I (K (N h5+N QV<=1099511627776)) (I (K (N h6+N h.p<=1099511627776)) (I c (re (Qe [X (h6++h.p),aR h h.p,AV.bool d]) []))))) (br (h.1==QS)
  (I (K (N zsM+N h.2.1<=1099511627776)) (I (K (N h7+N QV<=1099511627776)) (I (K (N h8+N h.p<=1099511627776)) (I c (re (Qe [X (h8++h.p),aR h h.p,AV.bool d]) []))))) (br (h.1==QQ)
  (I (K (N zsO+N h.2.1<=1099511627776)) (I (K (N h9+N mj<=1099511627776)) (I (K (N x1+N h.p<=1099511627776)) (I c (re (Qe [X (x1++h.p),aR h h.p,AV.bool d]) []))))) (br (h.1==QR) (I
  (K (N zsP+N h.2.1<=1099511627776)) (I (K (N x2+N mj<=1099511627776)) (I (K (N x3+N h.p<=1099511627776)) (I c (re (Qe [X (x3++h.p),aR h h.p,AV.bool d]) []))))) (re (Qe [X [],aR h [],kb M]) [])))))))))))))))
def pu:DU->Tr (DU⊕ay)
 | .h15 s i h B a=>
  let j:=(N h.1.y.1:Int)
  let c:=zK i (N h.1.y.1)
  let d:=T h.1.y.1 i.toNat (Q R)
  let u:=lJ d
  let k:=s++fO
  let l:=qk d
  let v:=Γ Δ (i+1)
  let w:=Yq++h.1.2.1
  let A:=w++zeo
  let m:=A++s
  br (K (i<j))
  (I c
   (I (nZ d) (br (!vn d) (re (Qe [X [],Qd (bm [] YD a),kb M]) []) (br (K (i>0)) (I (K (N s+N fO<=1099511627776))
   (I c (I u (I (K (N k+N l<=1099511627776)) (Q9 (DU.h15 (k++l) v h B a)))))) (I c (I u (I (K (N s+N l<=1099511627776)) (Q9 (DU.h15 (s++l) v h B a)))))))))
  (I (K (N Yq+N h.1.2.1<=1099511627776))
   (I (K (N w+N zeo<=1099511627776)) (I (K (N A+N s<=1099511627776)) (I (K (N m+N jm<=1099511627776)) (br (K (1<=j)) (re (Qe [X (m++jm),Qd (bm [] YD a),AV.bool (K (j<=12))]) []) (re (Qe [X (m++jm),Qd (bm [] YD a),kb M]) []))))))
 | .h27 n C x b h B a=>
  let j:=(N h.1.z.1:Int)
  let c:=zK b (N h.1.z.1)
  let d:=T h.1.z.1 b.toNat (Q jb)
  let u:=!cg d.1
  let k:=zw d.2
  let l:=K (N d.1+N zmz<=1099511627776)
  let v:=tW k
  let w:=d.1++zmz
  let A:=sr k
  let m:=K (N w+N A<=1099511627776)
  let o:=x++fO
  let e:=w++A
  let p:=Γ Δ (b+1)
  let q:=Yt++h.1.2.1
  let t:=q++zen
  let g:=t++x
  br (K (b<j))
  (I (c&&(eD d.1&&bif u then Z else c&&ws k))
   (br (cond u Z (!Gk k)) (re (Qe [X [],Qd (bm [] Rc a),kb M]) [])
   (br (K (b>0)) (I (K (N x+N fO<=1099511627776)) (I c (I l (I c (I v (I m (I (K (N o+N e<=1099511627776)) (Q9 (DU.h27 n C (o++e) p h B a))))))))) (I c (I l (I c
   (I v (I m (I (K (N x+N e<=1099511627776)) (Q9 (DU.h27 n C (x++e) p h B a)))))))))))
  (I (K (N Yt+N h.1.2.1<=1099511627776))
   (I (K (N q+N zen<=1099511627776)) (I (K (N t+N x<=1099511627776)) (I (K (N g+N n<=1099511627776)) (br C (br (K (1<=j)) (re (Qe [X (g++n),Qd (bm [] Rc a),AV.bool (K (j<=8))]) []) (re (Qe [X (g++n),Qd (bm [] Rc a),kb M]) [])) (re (Qe [X (g++n),Qd (bm [] Rc a),kb M]) []))))))
def ft(x:zS):=am [Q6,aB,Q7] pu 100000000 (pT x)
def yn(x:zS):=(ft x).isSome
def Dx(x:zS):=o3 (ft x)
def zq4:=FT [aB] [Q6,aB,Q7] λx=>ft x.1
theorem zlP:FK 123 zq4:=EE.T1 (f:=f123) (keep:=zvb) (e:=zx4)
def ziF:=Y3.add 123 zq4
theorem I2:zx ziF:=EE.add zlP
def znp(h:zS):Tr (Empty⊕ay):=
 let b:=(h.1,h.2.1,h.q.1,h.r.1,h.t.1,h.u.1,h.v.1,h.w.1,zw h.x.1,h.y.1,h.z.1,zw h.s.1,h.p)
 let a:=Dx b
 let c:=!a.q
 let d:=!cg h.2.1
 let e:=(a.2.1.1,a.2.1.2.1,a.2.1.q.1,a.2.1.r.1,a.2.1.t.1,a.2.1.u.1,a.2.1.v.1,a.2.1.w.1,zw a.2.1.x.1,a.2.1.y.1,a.2.1.z.1,zw a.2.1.s.1,a.2.1.p)
 let g:=Cg a.1
 I (yn b)
 (I (cond c Z (eD h.2.1&&bif d then Z else Dv e b))
  (br (cond c Z (cond d Z (!ir e b))) (re (Qe [X [],kb M]) []) (I (Mc a.1) (br (!g.2) (re (Qe [X [],kb M]) []) (re (Qe [X a.1,kb Z]) [])))))
def qw(x:zS):=am [Q6,Q7] t0 100000000 (znp x)
def jy(x:zS):=(qw x).isSome
def mN(x:zS):=o2 (qw x)
def zqt:=FT [aB] [Q6,Q7] λx=>qw x.1
theorem zlc:FK 58 zqt:=I2.T1 (f:=f58) (keep:=k0) (e:=e0)
def N5:=ziF.add 58 zqt
theorem I3:zx N5:=I2.add zlc
abbrev oJ:List CP:=[.d .str,.d .str,.d .str,.vec .str,.nil,.d .str,.nil,.nil,.d .expr,.nil,.nil,.d .str,.d zk,.d zk,.d .str,.d .str,.nil,.d .str]
abbrev zeL:List CP:=[.d .str,.d .str,.d .str,.vec .str,.nil,.d .str,.nil,.nil,.d .str,.d zk,.d zk,.d .str,.d .str,.nil,.nil,.nil,.d .str,.d zk,.d zk,.d .str,.d .str,.nil,.d .str]
abbrev RU:Nat->aY:=λj=>if j=14 then{slots:=[0,1,4],prom:=[(1,Y 3,.str)]}else if j=1000000 then{prom:=[(1,Y 3,.str)]}else{ }
inductive uM where
 |h14 (z0:zq be) (z1:zq zeL)
 |h14b (b4:L Q7) (z0:zq be) (z1:zq zeL)
abbrev NO:uM->Nat×St
 |.h14 h z=>(14,⟨tm 117 [(0,Qf 0 0),(1,Qf 1 0),(4,kb Z)],[Qa (bm [] be h),Qa (bm [2] zeL z),AO.vec Q6 z.r.1]⟩)
 |.h14b b h z=>(14,⟨tm 117 [(0,Qf 0 0),(1,Qf 1 0),(4,AV.bool b)],[Qa (bm [] be h),Qa (bm [2] zeL z),AO.vec Q6 z.r.1]⟩)
theorem zok:aa N5.P 77 f77 2:=cM kw
def ZP(y:zq be)(z:zq jR):Tr (uM⊕ay):=
 let a0:=(y.1,y.2.1,y.q.1,())
 let a1:=gg a0 VR
 let a2:=(a1.2.1,a1.q.1,a1.r.1,())
 let a3:=cJ a2
 let a4:=(a3.2.1,a3.q.1,a3.r.1,())
 let a5:=ch a4 wR
 let a6:=(a5.1,a5.2.1,a5.q.1,())
 let a7:=cJ a6
 let a8:=(a7.2.1,a7.q.1,a7.r.1,())
 let a9:=([],z.r)
 let x3:=ch a8 [44]
 let j2:=(x3.1,x3.2.1,x3.q.1,())
 let v:=cJ j2
 let j3:=(v.2.1,v.q.1,v.r.1,())
 let x4:=ch j3 HI
 let j4:=(x4.1,x4.2.1,x4.q.1,())
 let w:=cJ j4
 let j5:=(w.2.1,w.q.1,w.r.1,())
 let j6:=fI j5 je
 let x5:=ch a8 HG
 let j7:=(x5.1,x5.2.1,x5.q.1,())
 let A:=cJ j7
 let x6:=[A.1]
 let j8:=(A.2.1,A.q.1,A.r.1,())
 let x7:=ch j8 HJ
 let j9:=(x7.1,x7.2.1,x7.q.1,())
 let B:=cJ j9
 let k1:=[B.1]
 let k2:=(B.2.1,B.q.1,B.r.1,())
 let k3:=fI k2 je
 let k4:=fI a8 je
 let C:=gg a2 VT
 let D:=(C.2.1,C.q.1,C.r.1,())
 let b:=cJ D
 let k5:=(b.2.1,b.q.1,b.r.1,())
 let x8:=ch k5 wR
 let k6:=(x8.1,x8.2.1,x8.q.1,())
 let c:=cJ k6
 let a:=(c.2.1,c.q.1,c.r.1,())
 let x9:=ch a [44]
 let k7:=(x9.1,x9.2.1,x9.q.1,())
 let E:=cJ k7
 let k8:=(E.2.1,E.q.1,E.r.1,())
 let i0:=ch k8 HI
 let k9:=(i0.1,i0.2.1,i0.q.1,())
 let F:=cJ k9
 let l0:=(F.2.1,F.q.1,F.r.1,())
 let l1:=fI l0 je
 let i1:=ch a HG
 let l2:=(i1.1,i1.2.1,i1.q.1,())
 let G:=cJ l2
 let i2:=[G.1]
 let l3:=(G.2.1,G.q.1,G.r.1,())
 let i3:=ch l3 HJ
 let l4:=(i3.1,i3.2.1,i3.q.1,())
 let H:=cJ l4
 let l5:=[H.1]
 let l6:=(H.2.1,H.q.1,H.r.1,())
 let l7:=fI l6 je
 let l8:=fI a je
 let m:=gg D VS
 let l9:=(m.2.1,m.q.1,m.r.1,())
 let d:=cJ l9
 let m1:=(d.2.1,d.q.1,d.r.1,())
 let i4:=ch m1 wR
 let m2:=(i4.1,i4.2.1,i4.q.1,())
 let e:=cJ m2
 let h:=(e.2.1,e.q.1,e.r.1,())
 let i5:=ch h [44]
 let m3:=(i5.1,i5.2.1,i5.q.1,())
 let P:=cJ m3
 let m4:=(P.2.1,P.q.1,P.r.1,())
 let i6:=ch m4 HI
 let m6:=(i6.1,i6.2.1,i6.q.1,())
 let U:=cJ m6
 let m7:=(U.2.1,U.q.1,U.r.1,())
 let m8:=fI m7 je
 let i7:=ch h HG
 let m9:=(i7.1,i7.2.1,i7.q.1,())
 let h0:=cJ m9
 let i8:=[h0.1]
 let n1:=(h0.2.1,h0.q.1,h0.r.1,())
 let i9:=ch n1 HJ
 let n2:=(i9.1,i9.2.1,i9.q.1,())
 let h1:=cJ n2
 let n3:=[h1.1]
 let n4:=(h1.2.1,h1.q.1,h1.r.1,())
 let n5:=fI n4 je
 let n6:=fI h je
 let n7:=(m.2.1,m.q.1,M,())
 let g:=cJ n7
 let n8:=(g.2.1,g.q.1,g.r.1,())
 let j0:=ch n8 wR
 let n9:=(j0.1,j0.2.1,j0.q.1,())
 let i:=cJ n9
 let x:=(i.2.1,i.q.1,i.r.1,())
 let j1:=ch x [44]
 let a97:=(j1.1,j1.2.1,j1.q.1,())
 let h2:=cJ a97
 let a99:=(h2.2.1,h2.q.1,h2.r.1,())
 let n:=ch a99 HI
 let h3:=(n.1,n.2.1,n.q.1,())
 let j:=cJ h3
 let h4:=(j.2.1,j.q.1,j.r.1,())
 let h5:=fI h4 je
 let o:=ch x HG
 let h6:=(o.1,o.2.1,o.q.1,())
 let k:=cJ h6
 let t:=[k.1]
 let h7:=(k.2.1,k.q.1,k.r.1,())
 let u:=ch h7 HJ
 let h8:=(u.1,u.2.1,u.q.1,())
 let l:=cJ h8
 let h9:=[l.1]
 let x0:=(l.2.1,l.q.1,l.r.1,())
 let x1:=fI x0 je
 let x2:=fI x je
 I (eL a0 VR)
 (br a1.1
  (I (bS a2) (I (bw a4 wR) (I (bS a6) (br Z (I (bw a8 [40]) (Q9 (uM.h14 (ch a8 [40]) (dp,a3.1,a7.1,a9)))) (br M (I (bw a8 [44]) (I (bS j2) (I (bw j3 HI) (I (bS j4) (I (eE j5 je) (re (Qe []) (cW be oJ j6.2
  (dp,a3.1,a7.1,[],w.1,j6.1,z.y.1,z.z.1,z.s.1,z.p.1,z.p.2.1,v.1,())))))))) (br M (I (bw a8 HG) (I (bS j7) (I (K (N x6<=1073741824)) (I (bw j8 HJ) (I (bS j9)
  (I (K (N x6+N k1<=1073741824)) (I (eE k2 je) (re (Qe []) (cW be oJ k3.2 (dp,a3.1,a7.1,x6++k1,z.r.1,k3.1,z.y)))))))))) (I (eE a8 je) (re (Qe []) (cW be oJ k4.2
  (dp,a3.1,a7.1,[],z.r.1,k4.1,z.y))))))))))
  (I (eL a2 VT) (br C.1 (I (bS D) (I (bw k5 wR) (I (bS k6) (br M (I (bw a [40]) (Q9 (uM.h14 (ch a [40]) (fD,b.1,c.1,a9)))) (br Z (I (bw a [44]) (I (bS k7) (I (bw k8 HI) (I (bS k9)
  (I (eE l0 je) (re (Qe []) (cW be oJ l1.2 (fD,b.1,c.1,[],F.1,l1.1,z.y.1,z.z.1,z.s.1,z.p.1,z.p.2.1,E.1,())))))))) (br M (I (bw a HG) (I (bS l2)
  (I (K (N i2<=1073741824)) (I (bw l3 HJ) (I (bS l4) (I (K (N i2+N l5<=1073741824)) (I (eE l6 je) (re (Qe []) (cW be oJ l7.2 (fD,b.1,c.1,i2++l5,z.r.1,l7.1,z.y)))))))))) (I (eE a je)
  (re (Qe []) (cW be oJ l8.2 (fD,b.1,c.1,[],z.r.1,l8.1,z.y)))))))))) (I (eL D VS) (br m.1 (I (bS l9) (I (bw m1 wR) (I (bS m2) (br M (I (bw h [40]) (Q9 (uM.h14 (ch h [40]) (na,d.1,e.1,a9))))
  (br M (I (bw h [44]) (I (bS m3) (I (bw m4 HI) (I (bS m6) (I (eE m7 je) (re (Qe []) (cW be oJ m8.2 (na,d.1,e.1,[],U.1,m8.1,z.y.1,z.z.1,z.s.1,
  z.p.1,z.p.2.1,P.1,())))))))) (br Z (I (bw h HG) (I (bS m9) (I (K (N i8<=1073741824)) (I (bw n1 HJ) (I (bS n2) (I (K (N i8+N n3<=1073741824)) (I (eE n4 je) (re (Qe []) (cW be oJ n5.2
  (na,d.1,e.1,i8++n3,z.r.1,n5.1,z.y)))))))))) (I (eE h je) (re (Qe []) (cW be oJ n6.2 (na,d.1,e.1,[],z.r.1,n6.1,z.y)))))))))) (I (bS n7) (I (bw n8 wR) (I (bS n9)
  (br (z.1==dp) (I (bw x [40]) (Q9 (uM.h14 (ch x [40]) (z.1,g.1,i.1,a9)))) (br (z.1==fD) (I (bw x [44]) (I (bS a97) (I (bw a99 HI) (I (bS h3) (I (eE h4 je) (re (Qe []) (cW be oJ h5.2
  (z.1,g.1,i.1,[],j.1,h5.1,z.y.1,z.z.1,z.s.1,z.p.1,z.p.2.1,h2.1,())))))))) (br (z.1==na) (I (bw x HG) (I (bS h6) (I (K (N t<=1073741824)) (I (bw h7 HJ) (I (bS h8)
  (I (K (N t+N h9<=1073741824)) (I (eE x0 je) (re (Qe []) (cW be oJ x1.2 (z.1,g.1,i.1,t++h9,z.r.1,x1.1,z.y)))))))))) (I (eE x je) (re (Qe []) (cW be oJ x2.2 (z.1,g.1,i.1,[],z.r.1,x2.1,z.y)))))))))))))))
theorem zmT(y:zq be)(z:zq jR):rn N5 2 RU f77 [Qf 0 0,Qf 1 0] (cW be jR y z)=(ZP y z).map (lf f77 NO):=kw
def zcg:uM->Tr (uM⊕ay)
 | .h14 b h=>
  let a:=(b.1,b.2.1,b.q.1,())
  let x:=cJ a
  let d:=[x.1]
  let e:=(x.2.1,x.q.1,x.r.1,())
  let g:=gg e [44]
  let c:=ch a [41]
  let i:=(c.1,c.2.1,c.q.1,())
  let j:=fI i je
  br b.q.1
  (I (bS a)
   (I (K (N h.r.1+N d<=1073741824)) (I (eL e [44]) (Q9 (uM.h14b g.1 g.2 (h.1,h.2.1,h.q.1,h.r.1++d,h.t))))))
  (I (bw a [41])
   (I (eE i je) (re (Qe []) (cW be oJ j.2 (h.1,h.2.1,h.q.1,h.r.1,h.t.1,j.1,h.z)))))
 | .h14b k b h=>
  let a:=(b.1,b.2.1,b.q.1,())
  let x:=cJ a
  let d:=[x.1]
  let e:=(x.2.1,x.q.1,x.r.1,())
  let g:=gg e [44]
  let c:=ch a [41]
  let i:=(c.1,c.2.1,c.q.1,())
  let j:=fI i je
  br (cond k b.q.1 M)
  (I (bS a)
   (I (K (N h.r.1+N d<=1073741824)) (I (eL e [44]) (Q9 (uM.h14b g.1 g.2 (h.1,h.2.1,h.q.1,h.r.1++d,h.t))))))
  (I (bw a [41])
   (I (eE i je) (re (Qe []) (cW be oJ j.2 (h.1,h.2.1,h.q.1,h.r.1,h.t.1,j.1,h.z)))))
theorem zos:∀s,run N5 2 RU (Func.results f77).toList 400 (aq f77 (NO s).1) (NO s).2=(zcg s).map (lf f77 NO)
 |.h14 z h=>by kernel_rfl
 |.h14b b z h=>by kernel_rfl
def zbQ(y:zq be)(z:zq jR):Option (zH (Qi Y [])×zq be×zq oJ):=Uu [] be oJ zcg 100000000 (ZP y z)
def zbP(y:zq be)(z:zq jR):Bool:=(zbQ y z).isSome
def zjS(y:zq be)(z:zq jR):zq be×zq oJ:=(λr:zH (Qi Y [])×zq be×zq oJ=>r.2) ((zbQ y z).getD (ct [],gn be,gn oJ))
def zg3:ak:=Yu be jR [] [] be oJ (λy z _=>zbP y z) λy z _=>((),zjS y z)
theorem zc1:FK 77 zg3:=zmc (ps:=be) (qs:=jR) (ks:=[]) (outs:=[]) (keep:=RU) (gas:=400) (n:=100000000) (e:=NO) (t:=zcg) (i:=λy z x=>ZP y z) I3 zok (λy z x=>zmT y z) zos (λ_ _ _=>by kernel_rfl) (λ_ _ _=>by kernel_rfl)
def ziG:=N5.add 77 zg3
theorem I4:zx ziG:=I3.add zc1
abbrev zu0:=kr [(17,[2,4,6,7,8]),(25,[2,4,6,7,9])]
inductive Vx where
 |h17 (l4:LF) (z0:zq jR) (z1:zq be) (z2:zq jR)
 |h25 (l4:LF) (z0:zq jR) (z1:zq be) (z2:zq jR)
abbrev zxW:Vx->Nat×St
 |.h17 l z h x=>(17,⟨tm 172 [(2,Qf 0 0),(4,O zI l),(6,Qf 1 0),(7,Qf 2 0),(8,kb Z)],[Qa (bm [] jR z),Qa (bm [] be h),Qa (bm [] jR x)]⟩)
 |.h25 l z h x=>(25,⟨tm 172 [(2,Qf 0 0),(4,O zI l),(6,Qf 1 0),(7,Qf 2 0),(9,kb Z)],[Qa (bm [] jR z),Qa (bm [] be h),Qa (bm [] jR x)]⟩)
def zzg(x0:TS):Tr (Vx⊕ay):=
 let a0:=((Cg x0).1,0,Z,())
 let a1:=gg a0 zer
 let a2:=(a1.2.1,a1.q.1,a1.r.1,())
 let a3:=gg a2 zev
 let a4:=(a3.2.1,a3.q.1,a3.r.1,())
 let a5:=ch a4 zeD
 let a6:=(a5.1,a5.2.1,a5.q.1,())
 let a7:=cJ a6
 let a8:=(↑(N (Cg x0).1):Int)
 let a9:=(bl1,a7.1,[],[],[],[],[],[],zg.mk [] (0,0,[]) [] [],[],[],zg.mk [] (0,0,[]) [] [],[])
 let x5:=mN a9
 let d:=gg a4 zex
 let e:=(d.2.1,d.q.1,d.r.1,())
 let G:=ch e zey
 let h1:=(G.1,G.2.1,G.q.1,())
 let g:=cJ h1
 let h2:=(g.2.1,g.q.1,g.r.1,())
 let H:=ch h2 zeF
 let h3:=(H.1,H.2.1,H.q.1,())
 let i:=gg e zeE
 let j:=(i.2.1,i.q.1,i.r.1,())
 let k:=cJ j
 let h4:=(k.2.1,k.q.1,k.r.1,())
 let l:=gg j zet
 let m:=(l.2.1,l.q.1,l.r.1,())
 let P:=ch m wR
 let h5:=(P.1,P.2.1,P.q.1,())
 let b:=cJ h5
 let h6:=(b.2.1,b.q.1,b.r.1,())
 let n:=fI h6 nc
 let h7:=(bl0,b.1,[],[],[],[],[],[],zg.mk [] (0,0,[]) [] [],[],[],zw n.1,[])
 let x6:=mN h7
 let o:=gg m zeC
 let A:=(o.2.1,o.q.1,o.r.1,())
 let U:=ch A [42]
 let h8:=(U.1,U.2.1,U.q.1,())
 let h0:=ch h8 wR
 let h9:=(h0.1,h0.2.1,h0.q.1,())
 let c:=cJ h9
 let x1:=(c.2.1,c.q.1,c.r.1,())
 let B:=fI x1 nc
 let x2:=(KJ,c.1,[],[],[],[],[],[],zg.mk [] (0,0,[]) [] [],[],[],zw B.1,[])
 let x7:=mN x2
 let C:=gg A zew
 let D:=(C.2.1,C.q.1,C.r.1,())
 let x8:=PP D VU
 let E:=gg D zeA
 let F:=(E.2.1,E.q.1,E.r.1,())
 let x9:=PP F VU
 let h:=gg F zez
 let x3:=(h.2.1,h.q.1,h.r.1,())
 let a:=zjS x3 ([],[],[],[],[],0,0,[],[],[],0,0,[],[],[],())
 let x4:=(a.2.1,a.q.1,a.r.1,a.t.1,[],a.u.1,[],[],zw a.v.1,[],[],zg.mk a.w.1 (a.x.1,a.y.1,a.z.1) a.s.1 [],a.p.1)
 let i0:=mN x4
 I (Mc x0)
 (br (!(Cg x0).2)
  (re (Qe [nS,kb M]) [])
  (I (eL a0 zer) (br a1.1 Tr.err (I (eL a2 zev) (br a3.1 (I (bw a4 zeD) (I (bS a6) (br (cond (!a7.r.1) Z (a7.q.1!=a8)) (re (Qe [nS,kb M]) []) (I (jy a9) (br (!x5.2) (re (Qe [nS,kb M]) []) (re (Qe [aS bl1 a7.1 [] Qb Qb [] Qb Qb zE Qb Qb zE [],kb Z]) [])))))) (I (eL a4 zex) (br d.1 (I (bw e zey) (I (bS h1) (I (bw h2 zeF) (I (bw h3 [40]) (Q9
  (Vx.h17 (Cg x0).1 ([],[],[],[],[],0,0,[],[],[],0,0,[],[],[],()) (ch h3 [40]) (bl3,g.1,[],[],[],0,0,[],[],[],0,0,[],[],[],()))))))) (I (eL e zeE) (br i.1 (I (bS j) (I (bw h4 [83,69,84]) (Q9
  (Vx.h25 (Cg x0).1 ([],[],[],[],[],0,0,[],[],[],0,0,[],[],[],()) (ch h4 [83,69,84]) (ND,k.1,[],[],[],0,0,[],[],[],0,0,[],[],[],()))))) (I (eL j zet) (br l.1 (I (bw m wR) (I (bS h5) (I (eE h6 nc)
  (br (cond (!n.r.1) Z (n.q.1!=a8)) (re (Qe [nS,kb M]) []) (I (jy h7) (br (!x6.2)
  (re (Qe [nS,kb M]) []) (re (Qe [aS bl0 b.1 [] Qb Qb [] Qb Qb zE Qb Qb (xE n.1) [],
  kb Z]) []))))))) (I (eL m zeC) (br o.1 (I (bw A [42]) (I (bw h8 wR) (I (bS h9) (I (eE x1 nc) (br (cond (!B.r.1) Z (B.q.1!=a8)) (re (Qe [nS,kb M]) []) (I (jy x2) (br (!x7.2) (re (Qe [nS,kb M]) []) (re (Qe [aS KJ c.1 [] Qb Qb [] Qb Qb zE Qb Qb (xE B.1) [],
  kb Z]) [])))))))) (I (eL A zew) (br C.1 (I (Mq D VU) (br x8.1 Tr.err Tr.err)) (I (eL D zeA) (br E.1 (I (Mq F VU) (br x9.1 Tr.err Tr.err)) (I (eL F zez) (br h.1
  (I (zbP x3 ([],[],[],[],[],0,0,[],[],[],0,0,[],[],[],())) (br (cond (!a.1.q.1) Z (a.1.2.1!=a8)) (re (Qe [nS,kb M]) []) (I (jy x4) (br (!i0.2) (re (Qe [nS,kb M]) []) (re (Qe [aS a.2.1 a.q.1 a.r.1 (AV.vec 0) Qb a.u.1 Qb Qb (xE a.v.1) Qb Qb [X a.w.1,J a.x.1,J a.y.1,X a.z.1,X a.s.1,Qb] a.p.1,kb Z])
  [AO.vec Q6 a.t.1]))))) (br (cond (!h.r.1) Z (h.q.1!=a8)) (re (Qe [nS,kb M]) [])
  (I Z (br Z (re (Qe [nS,kb M]) []) (re (Qe [nS,kb Z]) [])))))))))))))))))))))))
def zzS:Vx->Tr (Vx⊕ay)
 | .h17 l _ a h=>
  let b:=(a.1,a.2.1,a.q.1,())
  let d:=ch b [41]
  let c:=(h.1,h.2.1,h.q.1,[],[],h.r.1,[],[],zg.mk h.t.1 (h.u.1,h.v.1,h.w.1) h.x.1 [],[],[],zg.mk h.y.1 (h.z.1,h.s.1,h.p.1) h.p.2.1 [],h.p.q.1)
  let e:=mN c
  br a.q.1 Tr.err
  (I (bw b [41])
   (br (cond (!d.q.1) Z (d.2.1!=(N l:Int))) (re (Qe [nS,kb M]) []) (I (jy c)
   (br (!e.2) (re (Qe [nS,kb M]) []) (re (Qe [aS h.1 h.2.1 h.q.1 Qb Qb h.r.1 Qb Qb [X h.t.1,J h.u.1,J h.v.1,X h.w.1,X h.x.1,Qb] Qb Qb [X h.y.1,J h.z.1,J h.s.1,X h.p.1,X h.p.2.1,Qb] h.p.q.1,kb Z]) [])))))
 | .h25 l _ a h=>
  let b:=(a.1,a.2.1,a.q.1,())
  let d:=cJ b
  let c:=fI b nc
  let e:=(h.1,h.2.1,h.q.1,[],[],h.r.1,[],[],zg.mk h.t.1 (h.u.1,h.v.1,h.w.1) h.x.1 [],[],[],zw c.1,h.p.q.1)
  let g:=mN e
  br a.q.1 (I (bS b) (I (bw (d.2.1,d.q.1,d.r.1,()) [61]) Tr.err))
  (I (eE b nc)
   (br (cond (!c.r.1) Z (c.q.1!=(N l:Int))) (re (Qe [nS,kb M]) []) (I (jy e)
   (br (!g.2) (re (Qe [nS,kb M]) []) (re (Qe [aS h.1 h.2.1 h.q.1 Qb Qb h.r.1 Qb Qb [X h.t.1,J h.u.1,J h.v.1,X h.w.1,X h.x.1,Qb] Qb Qb (xE c.1) h.p.q.1,kb Z]) [])))))
def GH(x:TS):=am [aB,Q7] zzS 100000000 (zzg x)
def zbL(x:TS):=(GH x).isSome
def g6(x:TS):=o2 (GH x)
def zqQ:=FT [Q6] [aB,Q7] λx=>GH x.1
theorem zlC:FK 29 zqQ:=I4.T1 (f:=f29) (keep:=zu0) (e:=zxW)
def ziH:=ziG.add 29 zqQ
theorem I5:zx ziH:=I4.add zlC
def zzc(h:TS):Tr (Empty⊕ay):=
 I (zbL h)
 (re
  (aS ((g6 h).1.1) ((g6 h).1.2.1) ((g6 h).1.q.1) (O Q6 (g6 h).1.r.1) (O zp (g6 h).1.t.1) ((g6 h).1.u.1) (O Q6 (g6 h).1.v.1) (O (Sh.str.pr Q6) (g6 h).1.w.1) (xE (g6 h).1.x.1) (O R (g6 h).1.y.1) (O (Sh.str.pr Q5) (g6 h).1.z.1) (xE (g6 h).1.s.1) ((g6 h).1.p))
  [])
def zvm(x:TS):=am [aB] t0 100000000 (zzc x)
def zqe:=FT [Q6] [aB] λx=>zvm x.1
theorem zkV:FK 9 zqe:=I5.T1 (f:=f9) (keep:=k0) (e:=e0)
def ziI:=ziH.add 9 zqe
theorem lT:zx ziI:=I5.add zkV
def zjk(x h:zo):Tr (Empty⊕ay):=
 let b:=x.1==h.1&&(x.2.1==h.2.1&&(x.q==h.q&&Z))
 let a:=bC b
 I (pb x h)
 (br (tP x h) (re (Qd [J 0,J 0,X []]) [])
  (I (mK b) (re (Qd [J a.1,J a.2.1,X a.q]) [])))
def si(x h:zo):=am [R] t0 100000000 (zjk x h)
def xO(x h:zo):=(si x h).isSome
def tM(x h:zo):=o1 (si x h)
def zhv:=FT [R,R] [R] λx=>si x.1 x.2.1
theorem zdt:FK 170 zhv:=lT.T1 (f:=f170) (keep:=k0) (e:=e0)
def zjl(x h:zo):Tr (Empty⊕ay):=
 let b:=Op.bytesLess x.q h.q
 let a:=bC b
 I (pb x h)
 (br (tP x h) (re (Qd [J 0,J 0,X []]) [])
  (br (K (x.2.1<h.2.1)) (I Z (re (Qd [J (bC Z).1,J (bC Z).2.1,X (bC Z).q]) [])) (I (mK b) (re (Qd [J a.1,J a.2.1,X a.q]) []))))
def xP(x h:zo):=am [R] t0 100000000 (zjl x h)
def Db(x h:zo):=(xP x h).isSome
def A9(x h:zo):=o1 (xP x h)
def zhx:=FT [R,R] [R] λx=>xP x.1 x.2.1
theorem zdv:FK 171 zhx:=lT.T1 (f:=f171) (keep:=k0) (e:=e0)
def zjm(h x:zo):Tr (Empty⊕ay):=
 let b:=Γ Δ (9223372036854775807-x.2.1)
 let c:=Γ Δ (-9223372036854775808-x.2.1)
 let a:=bif K (x.2.1<0)then K (h.2.1<c)else M
 I (pb h x)
 (br (cond (tP h x) Z (h.1!=1)) (re (Qd [J 0,J 0,X []]) [])
  (br (cond (K (x.2.1>0)) (cond (K (h.2.1>b)) Z a) a) (re (Qd [J 0,J 0,X []]) []) (re (Qd [J 1,J (Γ Δ (h.2.1+x.2.1)),X []]) [])))
def tO(x h:zo):=am [R] t0 100000000 (zjm x h)
def xS(x h:zo):=(tO x h).isSome
def Ba(x h:zo):=o1 (tO x h)
def zhy:=FT [R,R] [R] λx=>tO x.1 x.2.1
theorem zdw:FK 102 zhy:=lT.T1 (f:=f102) (keep:=k0) (e:=e0)
def zjn(h x:zo):Tr (Empty⊕ay):=
 let b:=Γ Δ (-9223372036854775808+x.2.1)
 let c:=Γ Δ (9223372036854775807+x.2.1)
 let a:=bif K (x.2.1<0)then K (h.2.1>c)else M
 I (pb h x)
 (br (cond (tP h x) Z (h.1!=1)) (re (Qd [J 0,J 0,X []]) [])
  (br (cond (K (x.2.1>0)) (cond (K (h.2.1<b)) Z a) a) (re (Qd [J 0,J 0,X []]) []) (re (Qd [J 1,J (Γ Δ (h.2.1-x.2.1)),X []]) [])))
def sk(x h:zo):=am [R] t0 100000000 (zjn x h)
def xQ(x h:zo):=(sk x h).isSome
def tN(x h:zo):=o1 (sk x h)
def zhz:=FT [R,R] [R] λx=>sk x.1 x.2.1
theorem zdx:FK 172 zhz:=lT.T1 (f:=f172) (keep:=k0) (e:=e0)
def zi4(x:L Q5)(h:L zp.sl):Tr (Empty⊕ay):=
 br (zg.op x==[])
 (I (gW (zw x) (zg.mk [] (0,0,[]) [] []))
  (br (!fH (zw x) (zg.mk [] (0,0,[]) [] [])) (re (J 1) []) (re (J 0) [])))
 (I (ws (zw x))
  (br (!Gk (zw x)) (re (J 1) []) (I (qn (zw x) h) (br ((jw (zw x) h).2!=0) (re (J (jw (zw x) h).2) []) (br (cond ((jw (zw x) h).1!=0) ((jw (zw x) h).1!=3) M) (re (J 5) []) (re (J 0) []))))))
def sv(x:L Q5)(h:L zp.sl):=am [zk] t0 100000000 (zi4 x h)
def Gr(x:L Q5)(h:L zp.sl):=(sv x h).isSome
def L3(x:L Q5)(h:L zp.sl):=o1 (sv x h)
def zgS:=FT [Q5,zp.sl] [zk] λx=>sv x.1 x.2.1
theorem zcP:FK 163 zgS:=lT.T1 (f:=f163) (keep:=k0) (e:=e0)
def KU:=ziI.addL [(170,zhv),(171,zhx),(102,zhy),(172,zhz),(163,zgS)]
theorem vO:zx KU:=lT.addL<|fc zdt<|fc zdv<|fc zdw<|fc zdx<|fc zcP iP
end
end Cad
