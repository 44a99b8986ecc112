/- The document's reader. -/
import Derived.Test.YtjdjldbhjmgmkaaGreatDoorM12
namespace Cad
open Go Go.Proofs
open List (getD)
open List renaming map->Qi,drop->Qh,take->Qg,length->X
open IntKind renaming wrap->Γ,i64->Δ
open AV renaming ptr->Qf,tup->Qe,agg->Qd,nils->Qb
open Tr renaming «to»->Q9,chk->R
open AO renaming box->Qa
open Sh renaming bool->Q7,str->Q6,expr->Q5
open Bool renaming true->O,false->S
open Option renaming some->M
open Decidable renaming decide->N
open Int renaming toNat->Z
open List renaming getD->Y
open Tr (chk br re)
open AV (nils agg tup ptr kb)
open AV renaming str->I,sl->T
open Cad renaming Sem->J,ai->L,zi->Q,ze->K
noncomputable section
set_option maxHeartbeats 4000000
def ziU(x:J (Sh.int IntKind.u8)):Tr (Empty⊕az):=
 R (kL x&&bif lD x then O else oZ x) (re (AV.bool (cond (lD x) O (cond (sa x) O (x==95)))) [])
def xM(x:J (Sh.int IntKind.u8)):=ar [Q7] t0 100000000 (ziU x)
def xL(x:J (Sh.int IntKind.u8)):=(xM x).isSome
def F3(x:J (Sh.int IntKind.u8)):=o1 (xM x)
def zgZ:=FT [Sh.int IntKind.u8] [Q7] λx=>xM x.1
theorem zcW:FK 132 zgZ:=mh.T1 (f:=Tryz.f132) (keep:=k0) (e:=e0)
abbrev znx:=kG [(3,[0,3,4])]
inductive HI where
 |h3 (s0:TS) (l3:LS) (i4:Int)
abbrev zsI:HI->Nat×St
 |.h3 s l i=>(3,⟨tm 18 [(0,I s),(3,T Q6 l),(4,L i)],[]⟩)
def Zv(x:TS):Tr (HI⊕az):=
 Q9
 (HI.h3 x
  [X4,[79,82],[78,79,84],[73,83],Hd,Kd,Kc,zd3,zef,[75,69,89],[85,78,73,81,85,69],zsq,jh,zd7,zd9,
  zea,zeh,zeg,[83,69,84],mQ,zd5,ww,zee,zd8,zec,Vt,[87,82,73,84,69],He,[84,79],
  zeb,Vq,Vs,Vr,Hc,Hf,DM,DN,DL]
  0)
def GI:HI->Tr (HI⊕az)
 | .h3 s l i=>
  br (N (i<(X l:Int)))
  (R (zL i (X l)) (br (l.getD i.toNat (Q Q6)==s) (re (kb O) []) (Q9 (HI.h3 s l (Γ Δ (i+1))))))
  (re (kb S) [])
def LA(x:TS):=ar [Q7] GI 100000000 (Zv x)
def F6(x:TS):=(LA x).isSome
def Pa(x:TS):=o1 (LA x)
def zgV:=FT [Q6] [Q7] λx=>LA x.1
theorem zcS:FK 135 zgV:=mh.T1 (f:=Tryz.f135) (keep:=znx) (e:=zsI)
abbrev zni:Nat->aY:=λ_=>{ }
def ziM(y:zq bd)(x:TS):Tr (Empty⊕az):=
 let h:=(y.1,y.2.1,y.q.1,())
 let a:=Pi h x
 R (LO h x)
 (br a.1 (re (kb O) (bc bd (a.2.1,Γ Δ (a.q.1+1),a.r)))
  (re (kb S) (bc bd a.2)))
def Ur(y:zq bd)(x:TS):Option (zF (Qi M [Q7])×zq bd):=kI [Q7] bd t0 100000000 (ziM y x)
def eO(y:zq bd)(x:TS):Bool:=(Ur y x).isSome
def fY(y:zq bd)(x:TS):(J Q7)×zq bd:=(λr:zF (Qi M [Q7])×zq bd=>(r.1.1,r.2)) ((Ur y x).getD (cH [Q7],gg bd))
def zgA:ah:=ro bd [Q6] [Q7] bd (λy x=>eO y x.1) λy x=>(((fY y x.1).1,()),(fY y x.1).2)
theorem zcw:FK 68 zgA:=mh.B1 (f:=Tryz.f68) (ps:=bd) (ks:=[Q6]) (outs:=[Q7]) (keep:=zni) (n:=100000000) (e:=e0) (t:=t0) (i:=λy x=>ziM y x.1)
abbrev zuJ:=kG [(6,[2,3,5]),(11,[2,3,6]),(16,[2,3,7]),(21,[2,3,8]),(26,[2,3,9]),(31,[2,3,10])]
inductive ue where
 |h6 (i5:Int) (z0:zq qS) (z1:zq qS)
 |h11 (i6:Int) (z0:zq qS) (z1:zq qS)
 |h16 (i7:Int) (z0:zq qS) (z1:zq qS)
 |h21 (i8:Int) (z0:zq qS) (z1:zq qS)
 |h26 (i9:Int) (z0:zq qS) (z1:zq qS)
 |h31 (i10:Int) (z0:zq qS) (z1:zq qS)
abbrev zxu:ue->Nat×St
 |.h6 x z h=>(6,⟨tm 238 [(2,Qf 0 0),(3,Qf 1 0),(5,L x)],[Qa (bF [] qS z),Qa (bF [] qS h)]⟩)
 |.h11 a z h=>(11,⟨tm 238 [(2,Qf 0 0),(3,Qf 1 0),(6,L a)],[Qa (bF [] qS z),Qa (bF [] qS h)]⟩)
 |.h16 b z h=>(16,⟨tm 238 [(2,Qf 0 0),(3,Qf 1 0),(7,L b)],[Qa (bF [] qS z),Qa (bF [] qS h)]⟩)
 |.h21 c z h=>(21,⟨tm 238 [(2,Qf 0 0),(3,Qf 1 0),(8,L c)],[Qa (bF [] qS z),Qa (bF [] qS h)]⟩)
 |.h26 d z h=>(26,⟨tm 238 [(2,Qf 0 0),(3,Qf 1 0),(9,L d)],[Qa (bF [] qS z),Qa (bF [] qS h)]⟩)
 |.h31 i z h=>(31,⟨tm 238 [(2,Qf 0 0),(3,Qf 1 0),(10,L i)],[Qa (bF [] qS z),Qa (bF [] qS h)]⟩)
def ze1(h a:zP):Tr (ue⊕az):=
 let b:=!h.1==a.1
 let c:=!h.2.1==a.2.1
 let d:=!h.q.1==a.q.1
 let e:=!h.u.1==a.u.1
 let g:=!h.p==a.p
 let i:=zt h.x.1
 let j:=zt a.x.1
 let k:=!fF i j
 let l:=zt h.s.1
 let m:=zt a.s.1
 R
 (bif b then O
 else bif c then O else bif d then O else bif e then O else bif g then O else gT i j&&bif k then O else gT l m)
 (br (cond b O (cond c O (cond d O (cond e O (cond g O (cond k O (!fF l m)))))))
  (re (kb S) [])
  (br (bif (X h.r.1:Int)!=(X a.r.1:Int)then O else bif (X h.t.1:Int)!=(X a.t.1:Int)then O else bif (X h.v.1:Int)!=(X a.v.1:Int)then O else bif (X h.w.1:Int)!=(X a.w.1:Int)then O
  else bif (X h.y.1:Int)!=(X a.y.1:Int)then O else(X h.z.1:Int)!=(X a.z.1:Int)) (re (kb S) []) (Q9 (ue.h6 0 (h,()) (a,())))))
def wa:ue->Tr (ue⊕az)
 | .h6 d h x=>
  let c:=(X h.1.r.1:Int)
  br (N (d<c))
  (R (zL d (X h.1.r.1))
   (R (zL d (X x.1.r.1)) (br (!getD h.1.r.1 d.toNat (Q Q6)==Y x.1.r.1 d.toNat (Q Q6)) (re (kb S) []) (Q9 (ue.h6 (Γ Δ (d+1)) h x)))))
  (Q9 (ue.h11 0 h x))
 | .h11 e h x=>
  let c:=(X h.1.t.1:Int)
  let a:=Y h.1.t.1 e.toNat (Q zn)
  let b:=Y x.1.t.1 e.toNat (Q zn)
  br (N (e<c))
  (R (zL e (X h.1.t.1))
   (R (zL e (X x.1.t.1)) (br (!(a.1==b.1&&(a.2.1==b.2.1&&(a.q==b.q&&O)))) (re (kb S) []) (Q9 (ue.h11 (Γ Δ (e+1)) h x)))))
  (Q9 (ue.h16 0 h x))
 | .h16 g h x=>
  let c:=(X h.1.v.1:Int)
  br (N (g<c))
  (R (zL g (X h.1.v.1))
   (R (zL g (X x.1.v.1)) (br (!getD h.1.v.1 g.toNat (Q Q6)==Y x.1.v.1 g.toNat (Q Q6)) (re (kb S) []) (Q9 (ue.h16 (Γ Δ (g+1)) h x)))))
  (Q9 (ue.h21 0 h x))
 | .h21 j h x=>
  let c:=(X h.1.w.1:Int)
  let a:=Y h.1.w.1 j.toNat (Q jL)
  let b:=Y x.1.w.1 j.toNat (Q jL)
  br (N (j<c))
  (R (zL j (X h.1.w.1))
   (R (zL j (X x.1.w.1)) (br (!(a.1==b.1&&(a.2==b.2&&O))) (re (kb S) []) (Q9 (ue.h21 (Γ Δ (j+1)) h x)))))
  (Q9 (ue.h26 0 h x))
 | .h26 k h x=>
  let c:=(X h.1.y.1:Int)
  let a:=Y h.1.y.1 k.toNat (Q K)
  let b:=Y x.1.y.1 k.toNat (Q K)
  br (N (k<c))
  (R (zL k (X h.1.y.1))
   (R (zL k (X x.1.y.1)) (br (!(a.1==b.1&&(a.2.1==b.2.1&&(a.q==b.q&&O)))) (re (kb S) []) (Q9 (ue.h26 (Γ Δ (k+1)) h x)))))
  (Q9 (ue.h31 0 h x))
 | .h31 i h x=>
  let c:=(X h.1.z.1:Int)
  let a:=zL i (X h.1.z.1)
  let b:=zL i (X x.1.z.1)
  let l:=Y h.1.z.1 i.toNat (Q je)
  let m:=Y x.1.z.1 i.toNat (Q je)
  let n:=!l.1==m.1
  let o:=zt l.2
  let p:=zt m.2
  br (N (i<c))
  (R (a&&(b&&bif n then O else a&&(b&&gT o p)))
   (br (cond n O (!fF o p)) (re (kb S) []) (Q9 (ue.h31 (Γ Δ (i+1)) h x))))
  (re (kb O) [])
def tN(x h:zP):=ar [Q7] wa 100000000 (ze1 x h)
def C8(x h:zP):=(tN x h).isSome
def iq(x h:zP):=o1 (tN x h)
def zqI:=FT [aB,aB] [Q7] λx=>tN x.1 x.2.1
theorem zlr:FK 125 zqI:=mh.T1 (f:=Tryz.f125) (keep:=zuJ) (e:=zxu)
def zif:=YA.addL [(132,zgZ),(135,zgV),(68,zgA),(125,zqI)]
theorem sL:zw zif:=mh.addL<|fc zcW<|fc zcS<|fc zcw<|fc zlr jb
abbrev znv:=kG [(2,[0,3])]
inductive HH where
 |h2 (s0:TS) (i3:Int)
abbrev zsH:HH->Nat×St
 |.h2 s i=>(2,⟨tm 28 [(0,I s),(3,L i)],[]⟩)
def ziS(x:TS):Tr (HH⊕az):=
 Q9 (HH.h2 x 0)
def yj:HH->Tr (HH⊕az)
 | .h2 s i=>
  let a:=(↑(Y s i.toNat 0).toNat:Int)
  let h:=N (1<=(X s:Int))
  let x:=N ((X s:Int)<=16)
  let b:=(↑(Y s (Z 0) 0).toNat:Int)
  br (N (i<(X s:Int)))
  (R (zL i (X s)) (R (xL a) (br (!F3 a) (re (kb S) []) (Q9 (HH.h2 s (Γ Δ (i+1)))))))
  (R (cond h (cond x (zL 0 (X s)&&oZ b) O) O)
   (re (AV.bool (cond h (cond x (sa b) S) S)) []))
def C7(x:TS):=ar [Q7] yj 100000000 (ziS x)
def xJ(x:TS):=(C7 x).isSome
def vV(x:TS):=o1 (C7 x)
def zgT:=FT [Q6] [Q7] λx=>C7 x.1
theorem zcQ:FK 191 zgT:=sL.T1 (f:=Tryz.f191) (keep:=znv) (e:=zsH)
abbrev znj:Nat->aY:=λ_=>{ }
def ziN(y:zq bd)(x:TS):Tr (Empty⊕az):=
 let h:=(y.1,y.2.1,y.q.1,())
 let a:=fY h x
 R (eO h x)
 (br (!a.1) (re (Qe []) [Qa [T zG a.2.1,L a.q.1,kb S]])
  (re (Qe []) (bc bd a.2)))
def Uo(y:zq bd)(x:TS):Option (zF (Qi M [])×zq bd):=kI [] bd t0 100000000 (ziN y x)
def bv(y:zq bd)(x:TS):Bool:=(Uo y x).isSome
def cg(y:zq bd)(x:TS):zq bd:=(λr:zF (Qi M [])×zq bd=>r.2) ((Uo y x).getD (cH [],gg bd))
def zgC:ah:=ro bd [Q6] [] bd (λy x=>bv y x.1) λy x=>((),cg y x.1)
theorem zcz:FK 70 zgC:=sL.B1 (f:=Tryz.f70) (ps:=bd) (ks:=[Q6]) (outs:=[]) (keep:=znj) (n:=100000000) (e:=e0) (t:=t0) (i:=λy x=>ziN y x.1)
abbrev znk:Nat->aY:=λ_=>{ }
def ziO(y:zq bd):Tr (Empty⊕az):=
 let h:=N (y.2.1<(X y.1:Int))
 let x:=zL y.2.1 (X y.1)
 let a:=Y y.1 (Z y.2.1) (Q zG)
 let b:=a.1==1
 let c:=Γ Δ (y.2.1+1)
 let d:=Γ Δ (c-1)
 let e:=Y y.1 d.toNat (Q zG)
 R (cond h (x&&bif b then x&&F6 a.2 else O) O)
 (br (cond h (cond b (!Pa a.2) S) S)
  (R (zL d (X y.1)) (re (I e.2) (bc bd (y.1,c,y.q))))
  (re (I []) [Qa [T zG y.1,L y.2.1,kb S]]))
def Uq(y:zq bd):Option (zF (Qi M [Q6])×zq bd):=kI [Q6] bd t0 100000000 (ziO y)
def bS(y:zq bd):Bool:=(Uq y).isSome
def cE(y:zq bd):(J Q6)×zq bd:=(λr:zF (Qi M [Q6])×zq bd=>(r.1.1,r.2)) ((Uq y).getD (cH [Q6],gg bd))
def zgD:ah:=ro bd [] [Q6] bd (λy _=>bS y) λy _=>(((cE y).1,()),(cE y).2)
theorem zcA:FK 71 zgD:=sL.B1 (f:=Tryz.f71) (ps:=bd) (ks:=[]) (outs:=[Q6]) (keep:=znk) (n:=100000000) (e:=e0) (t:=t0) (i:=λy x=>ziO y)
def Iw:=zif.addL [(191,zgT),(70,zgC),(71,zgD)]
theorem oC:zw Iw:=sL.addL<|fc zcQ<|fc zcz<|fc zcA jb
def ziL(x:zp):Tr (Empty⊕az):=
 R (nP x)
 (br (uR x) (re (Qd [L x.1,L x.2.1,I x.q]) [])
  (re (Qd [L 0,L 0,I []]) []))
def xB(x:zp):=ar [K] t0 100000000 (ziL x)
def tw(x:zp):=(xB x).isSome
def fX(x:zp):=o1 (xB x)
def zgz:=FT [K] [K] λx=>xB x.1
theorem zcv:FK 96 zgz:=oC.T1 (f:=Tryz.f96) (keep:=k0) (e:=e0)
def ziK(h:zp)(x:J Q7):Tr (Empty⊕az):=
 R (mA x) (re (AV.bool (h.1==(bB x).1&&(h.2.1==(bB x).2.1&&(h.q==(bB x).q&&O)))) [])
def OQ(x:zp)(h:J Q7):=ar [Q7] t0 100000000 (ziK x h)
def oQ(x:zp)(h:J Q7):=(OQ x h).isSome
def rT(x:zp)(h:J Q7):=o1 (OQ x h)
def zgx:=FT [K,Q7] [Q7] λx=>OQ x.1 x.2.1
theorem zct:FK 105 zgx:=oC.T1 (f:=Tryz.f105) (keep:=k0) (e:=e0)
def Yv(g:J Q5->zy->J Q7)(c:J Q5->zy->Bool):ct:=Iw.add 193 (ac [Q5,zk] [Q7] (λx=>c x.1 x.2.1) λx=>(g x.1 x.2.1,()))
theorem QB{g:J Q5->zy->J Q7}{c:J Q5->zy->Bool}(h:FK 193 (ac [Q5,zk] [Q7] (λx=>c x.1 x.2.1) λx=>(g x.1 x.2.1,()))):zw (Yv g c):=oC.add h
abbrev znz:Nat->aY:=λ_=>{ }
def Zw(g:J Q5->zy->J Q7)(c:J Q5->zy->Bool)(x:J Q5)(o:zy):Tr (Empty⊕az):=
 let d:=(↑(zg.l x).length:Int)==0
 let a:=(zg.v x).1==0&&((zg.v x).2.1==0&&((zg.v x).q==[]&&O))
 let e:=(↑(zg.l x).length:Int)==1
 let i:=zL 0 (zg.l x).length
 let j:=zt ((zg.l x).getD (Z 0) (Q Q5))
 let h:=Γ Δ (o-1)
 let k:=c j h
 let b:=g j h
 let m:=(↑(zg.l x).length:Int)==2
 let n:=zt ((zg.l x).getD (Z 1) (Q Q5))
 br (o==0) (re (kb S) [])
 (br (zg.op x==pt)
  (R (nP (zg.v x)) (re (AV.bool (cond (uR (zg.v x)) (cond (zg.s x==[]) d S) S)) []))
  (br (zg.op x==fh) (R (cond a (xJ (zg.s x)&&bif vV (zg.s x)then F6 (zg.s x)else O) O) (re (AV.bool (cond a (cond (vV (zg.s x)) (cond (!Pa (zg.s x)) d S) S) S)) [])) (br (cond (zg.op x==ox) O (zg.op x==qy))
  (R (cond a (cond (zg.s x==[]) (cond e (i&&k) O) O) O) (re (AV.bool (cond a (cond (zg.s x==[]) (cond e b S) S) S)) [])) (R (Lh (zg.op x)) (br (Ui (zg.op x)) (R
  (cond a (cond (zg.s x==[]) (cond m (i&&(k&&bif b then zL 1 (zg.l x).length&&c n h else O)) O) O) O) (re (AV.bool (cond a (cond (zg.s x==[]) (cond m (cond b (g n h) S) S) S) S)) [])) (re (kb S) []))))))
def qa(o:Option (zF (Qi M [Q7]))):J Q7:=(λr:zF (Qi M [Q7])=>r.1) (o.getD (cH [Q7]))
def Lg(g:J Q5->zy->J Q7)(c:J Q5->zy->Bool)(x:J Q5)(h:zy):Option (zF (Qi M [Q7])):=ar [Q7] t0 100000000 (Zw g c x h)
def gW:Nat->J Q5->zy->Option (zF (Qi M [Q7]))
 |0=>λ_ _=>none
 |n+1=>Lg (λx h=>qa (gW n x h)) λx h=>(gW n x h).isSome
theorem ZP:zZ Iw.P 193 Tryz.f193 2:=cI kw
theorem MG:∀n,FK 193 (ac [Q5,zk] [Q7] (λx=>(gW n x.1 x.2.1).isSome) λx=>(qa (gW n x.1 x.2.1),()))
 |0=>fb ⟨Tryz.f193,ZP.1,ZP.2.1,ZP.q.1⟩ (λ_=>rfl)
 |n+1=>(QB (MG n)).TT (f:=Tryz.f193) (E:=Yv (λh a=>qa (gW n h a)) (λh a=>(gW n h a).isSome)) (ks:=[Q5,zk]) (outs:=[Q7]) (keep:=znz) (n:=100000000) (e:=e0) (t:=t0) (i:=λx=>Zw (λh a=>qa (gW n h a)) (λh a=>(gW n h a).isSome) x.1 x.2.1)
def Lf(x:J Q5)(h:zy):Option (zF (Qi M [Q7])):=gW 16 x h
def CW(x:J Q5)(h:zy):Bool:=(Lf x h).isSome
def Le(x:J Q5)(h:zy):J Q7:=qa (Lf x h)
def zg2:ah:=ac [Q5,zk] [Q7] (λx=>CW x.1 x.2.1) λx=>(Le x.1 x.2.1,())
theorem zcZ:FK 193 zg2:=MG 16
def zhV(g:J Q5->cr->zy×zy)(c:J Q5->cr->Bool):ct:=Iw.add 130 (ac [Q5,Sh.sl zn] [zk,zk] (λx=>c x.1 x.2.1) λx=>((g x.1 x.2.1).1,(g x.1 x.2.1).2,()))
theorem VO{g:J Q5->cr->zy×zy}{c:J Q5->cr->Bool}(h:FK 130 (ac [Q5,Sh.sl zn] [zk,zk] (λx=>c x.1 x.2.1) λx=>((g x.1 x.2.1).1,(g x.1 x.2.1).2,()))):zw (zhV g c):=oC.add h
abbrev zuL:Nat->aY:=λj=>if j=5 then{slots:=[1,2,6]}else{ }
inductive Va where
 |h5 (l1:LC) (i6:Int) (z0:zq [CP.d Q5])
abbrev zxw:Va->Nat×St
 |.h5 l i z=>(5,⟨tm 116 [(1,T zn l),(2,Qf 0 0),(6,L i)],[Qa (bF [] [CP.d Q5] z)]⟩)
def Hp(g:J Q5->J zn.sl->zy×zy)(c:J Q5->J zn.sl->Bool)(x:J Q5)(o:J zn.sl):Tr (Va⊕az):=
 let q:=zt ((zg.l x).getD (Z 0) (Q Q5))
 let h:=g q o
 let s:=zt ((zg.l x).getD (Z 1) (Q Q5))
 let j:=g s o
 let t:=zg.op x==qy
 let u:=zg.op x==[61]
 let a:=h.1!=0
 let p:=j.1!=0
 let w:=zg.op x==[60]
 let y:=zg.op x==[43]
 let b:=h.1!=1
 let d:=bif p then j.1!=1 else S
 let k:=zg.op x==[45]
 let i:=h.1!=3
 let m:=bif p then j.1!=3 else S
 let e:=bif a then b else S
 let n:=bif a then i else S
 br (zg.op x==pt) (re (Qe [L (zg.v x).1,L 0]) [])
 (br (zg.op x==fh) (Q9 (Va.h5 o 0 (x,())))
  (R (zL 0 (zg.l x).length) (R (c q o) (br (h.2!=0) (re (Qe [L 0,L h.2]) []) (br ((↑(zg.l x).length:Int)==2) (R (zL 1 (zg.l x).length) (R (c s o) (br (j.2!=0) (re (Qe [L 0,L j.2]) []) (br t (re (Qe [L 3,L 0]) []) (br u
  (br (cond a (cond p (h.1!=j.1) S) S) (re (Qe [L 0,L 5]) []) (re (Qe [L 3,L 0]) [])) (br w (br (cond a (cond p (h.1!=j.1) S) S) (re (Qe [L 0,L 5]) []) (re (Qe [L 3,L 0]) [])) (br y
  (br (cond a (cond b O d) d) (re (Qe [L 0,L 5]) []) (re (Qe [L 1,L 0]) [])) (br k (br (cond a (cond b O d) d) (re (Qe [L 0,L 5]) []) (re (Qe [L 1,L 0]) []))
  (br (cond a (cond i O m) m) (re (Qe [L 0,L 5]) []) (re (Qe [L 3,L 0]) [])))))))))) (br t (re (Qe [L 3,L 0]) []) (br u (br (cond a (cond a (h.1!=h.1) S) S) (re (Qe [L 0,L 5]) [])
  (re (Qe [L 3,L 0]) [])) (br w (br (cond a (cond a (h.1!=h.1) S) S) (re (Qe [L 0,L 5]) []) (re (Qe [L 3,L 0]) [])) (br y (br (cond a (cond b O e) e) (re (Qe [L 0,L 5]) [])
  (re (Qe [L 1,L 0]) [])) (br k (br (cond a (cond b O e) e) (re (Qe [L 0,L 5]) []) (re (Qe [L 1,L 0]) [])) (br (cond a (cond i O n) n) (re (Qe [L 0,L 5]) []) (re (Qe [L 3,L 0]) []))))))))))))
def Sq(_:J Q5->J zn.sl->zy×zy)(_:J Q5->J zn.sl->Bool):Va->Tr (Va⊕az)
 | .h5 l i z=>
  let a:=l.getD i.toNat (Q zn)
  br (N (i<(X l:Int)))
  (R (zL i (X l))
   (br (a.1==zg.s z.1) (R (zL i (X l)) (re (Qe [L a.2.1,L 0]) [])) (Q9 (Va.h5 l (Γ Δ (i+1)) z))))
  (re (Qe [L 0,L 4]) [])
def gV(o:Option (zF (Qi M [zk,zk]))):zy×zy:=(λr:zF (Qi M [zk,zk])=>(r.1,r.2.1)) (o.getD (cH [zk,zk]))
def Uh(g:J Q5->J zn.sl->zy×zy)(c:J Q5->J zn.sl->Bool)(x:J Q5)(h:J zn.sl):Option (zF (Qi M [zk,zk])):=ar [zk,zk] (Sq g c) 100000000 (Hp g c x h)
def cM:Nat->J Q5->J zn.sl->Option (zF (Qi M [zk,zk]))
 |0=>λ_ _=>none
 |n+1=>Uh (λx h=>gV (cM n x h)) λx h=>(cM n x h).isSome
theorem znd:zZ Iw.P 130 Tryz.f130 2:=cI kw
theorem SJ:∀n,FK 130 (ac [Q5,zn.sl] [zk,zk] (λx=>(cM n x.1 x.2.1).isSome) λx=>((gV (cM n x.1 x.2.1)).1,(gV (cM n x.1 x.2.1)).2,()))
 |0=>fb ⟨Tryz.f130,znd.1,znd.2.1,znd.q.1⟩ (λ_=>rfl)
 |n+1=>(VO (SJ n)).TT (f:=Tryz.f130) (E:=zhV (λh a=>gV (cM n h a)) (λh a=>(cM n h a).isSome)) (ks:=[Q5,zn.sl]) (outs:=[zk,zk]) (keep:=zuL) (n:=100000000) (e:=zxw) (t:=Sq (λh a=>gV (cM n h a)) (λh a=>(cM n h a).isSome)) (i:=λx=>Hp (λh a=>gV (cM n h a)) (λh a=>(cM n h a).isSome) x.1 x.2.1)
def CV(x:J Q5)(h:J zn.sl):Option (zF (Qi M [zk,zk])):=cM 16 x h
def p6(x:J Q5)(h:J zn.sl):Bool:=(CV x h).isSome
def jz(x:J Q5)(h:J zn.sl):zy×zy:=gV (CV x h)
def zqM:ah:=ac [Q5,zn.sl] [zk,zk] (λx=>p6 x.1 x.2.1) λx=>((jz x.1 x.2.1).1,(jz x.1 x.2.1).2,())
theorem zlv:FK 130 zqM:=SJ 16
def YB:=Iw.addL [(96,zgz),(105,zgx),(193,zg2),(130,zqM)]
theorem iQ:zw YB:=oC.addL<|fc zcv<|fc zct<|fc zcZ<|fc zlv jb
def ztG(x h:zp):Tr (Empty⊕az):=
 let a:=(fX x).1==(fX h).1
 let b:=(fX x).2.1==(fX h).2.1
 R (tw x)
 (R (tw h)
  (br (a&&(b&&((fX x).q==(fX h).q&&O))) (re (L 0) []) (br (cond (N ((fX x).1<(fX h).1)) O (cond a (cond (N ((fX x).2.1<(fX h).2.1)) O (cond b (Op.bytesLess (fX x).q (fX h).q) S)) S)) (re (L (-1)) []) (re (L 1) []))))
def rV(x h:zp):=ar [zk] t0 100000000 (ztG x h)
def xx(x h:zp):=(rV x h).isSome
def CN(x h:zp):=o1 (rV x h)
def zqo:=FT [K,K] [zk] λx=>rV x.1 x.2.1
theorem zk7:FK 37 zqo:=iQ.T1 (f:=Tryz.f37) (keep:=k0) (e:=e0)
def zi6(x h:zp):Tr (Empty⊕az):=
 R (tw x)
 (R (tw h)
  (re (AV.bool (cond ((fX x).1==0) O (cond ((fX h).1==0) O ((fX x).1!=(fX h).1)))) []))
def rW(x h:zp):=ar [Q7] t0 100000000 (zi6 x h)
def oR(x h:zp):=(rW x h).isSome
def tt(x h:zp):=o1 (rW x h)
def zhn:=FT [K,K] [Q7] λx=>rW x.1 x.2.1
theorem zdj:FK 165 zhn:=iQ.T1 (f:=Tryz.f165) (keep:=k0) (e:=e0)
def ziW(x h:zp):Tr (Empty⊕az):=
 R (oQ x S&&bif rT x S then O else oQ h S)
 (br (cond (rT x S) O (rT h S))
  (R O (re (Qd [L (bB S).1,L (bB S).2.1,I (bB S).q]) []))
  (R (oQ x O&&bif rT x O then oQ h O else O) (br (cond (rT x O) (rT h O) S) (R O (re (Qd [L (bB O).1,L (bB O).2.1,I (bB O).q]) [])) (re (Qd [L 0,L 0,I []]) []))))
def FE(x h:zp):=ar [K] t0 100000000 (ziW x h)
def K6(x h:zp):=(FE x h).isSome
def Jh(x h:zp):=o1 (FE x h)
def zg6:=FT [K,K] [K] λx=>FE x.1 x.2.1
theorem zc3:FK 168 zg6:=iQ.T1 (f:=Tryz.f168) (keep:=k0) (e:=e0)
def ziX(x h:zp):Tr (Empty⊕az):=
 R (oQ x O&&bif rT x O then O else oQ h O)
 (br (cond (rT x O) O (rT h O))
  (R O (re (Qd [L (bB O).1,L (bB O).2.1,I (bB O).q]) []))
  (R (oQ x S&&bif rT x S then oQ h S else O) (br (cond (rT x S) (rT h S) S) (R O (re (Qd [L (bB S).1,L (bB S).2.1,I (bB S).q]) [])) (re (Qd [L 0,L 0,I []]) []))))
def OT(x h:zp):=ar [K] t0 100000000 (ziX x h)
def Ud(x h:zp):=(OT x h).isSome
def WH(x h:zp):=o1 (OT x h)
def zg7:=FT [K,K] [K] λx=>OT x.1 x.2.1
theorem zc4:FK 169 zg7:=iQ.T1 (f:=Tryz.f169) (keep:=k0) (e:=e0)
def ziV(x:zp):Tr (Empty⊕az):=
 R (oQ x O)
 (br (rT x O)
  (R O (re (Qd [L (bB S).1,L (bB S).2.1,I (bB S).q]) []))
  (R (oQ x S) (br (rT x S) (R O (re (Qd [L (bB O).1,L (bB O).2.1,I (bB O).q]) [])) (re (Qd [L 0,L 0,I []]) []))))
def FH(x:zp):=ar [K] t0 100000000 (ziV x)
def K9(x:zp):=(FH x).isSome
def Jj(x:zp):=o1 (FH x)
def zg5:=FT [K] [K] λx=>FH x.1
theorem zc2:FK 167 zg5:=iQ.T1 (f:=Tryz.f167) (keep:=k0) (e:=e0)
def ztN(x:J Q5):Tr (Empty⊕az):=
 let a:=Le (zt x) 12
 R (CW (zt x) 12&&bif a then xD (zt x)else O) (re (AV.bool (cond a (N (CX (zt x)<=60)) S)) [])
def FO(x:J Q5):=ar [Q7] t0 100000000 (ztN x)
def vT(x:J Q5):=(FO x).isSome
def FN(x:J Q5):=o1 (FO x)
def zqL:=FT [Q5] [Q7] λx=>FO x.1
theorem zlu:FK 129 zqL:=iQ.T1 (f:=Tryz.f129) (keep:=k0) (e:=e0)
def YC:=YB.addL [(37,zqo),(165,zhn),(168,zg6),(169,zg7),(167,zg5),(129,zqL)]
theorem D6:zw YC:=iQ.addL<|fc zk7<|fc zdj<|fc zc3<|fc zc4<|fc zc2<|fc zlu jb
abbrev znG:=kG [(2,[0,3])]
inductive HL where
 |h2 (i0:zy) (s3:List UInt8)
abbrev zsO:HL->Nat×St
 |.h2 i s=>(2,⟨tm 21 [(0,L i),(3,I s)],[]⟩)
def zts(x:zy):Tr (HL⊕az):=
 Q9 (HL.h2 x [])
def GK:HL->Tr (HL⊕az)
 | .h2 i s=>
  let a:=nK [IntKind.u8.wrap (Γ Δ (48-Γ Δ (Int.tmod i 10)))]
  br (cond (N (i<0)) O (s==[]))
  (R O (R (N (X a+X s<=1099511627776)) (R O (Q9 (HL.h2 (Γ Δ (Int.tdiv i 10)) (a++s))))))
  (re (I s) [])
def tv(x:zy):=ar [Q6] GK 100000000 (zts x)
def lR(x:zy):=(tv x).isSome
def mB(x:zy):=o1 (tv x)
def zhl:=FT [zk] [Q6] λx=>tv x.1
theorem zdh:FK 239 zhl:=D6.T1 (f:=Tryz.f239) (keep:=znG) (e:=zsO)
def YH:=YC.add 239 zhl
theorem D8:zw YH:=D6.add zdh
abbrev zns:=kG [(13,[1,3,4])]
inductive Dt where
 |h13 (s3:List UInt8) (i4:Int) (z0:zq [CP.d K])
abbrev zsF:Dt->Nat×St
 |.h13 s i z=>(13,⟨tm 54 [(1,Qf 0 0),(3,I s),(4,L i)],[Qa (bF [] [CP.d K] z)]⟩)
def BK(x:zp):Tr (Dt⊕az):=
 let a:=Γ Δ (0-x.2.1)
 R (nP x)
 (br (!uR x) (re (I []) [])
  (br (x.1==0) (re (I Hd) []) (br (x.1==1) (br (N (x.2.1<0)) (R (lR x.2.1) (R (N ([45].length+X (mB x.2.1)<=1099511627776)) (re (I ([45]++mB x.2.1)) []))) (R (lR a) (re (I (mB a)) []))) (br (x.1==2) (Q9 (Dt.h13 [39] 0 (x,())))
  (br (x.2.1==1) (re (I Kd) []) (re (I Kc) []))))))
def yi:Dt->Tr (Dt⊕az)
 | .h13 s i z=>
  let x:=(X z.1.q:Int)
  let a:=Γ Δ (i+1)
  let b:=Qg (a.toNat-i.toNat) (Qh i.toNat z.1.q)
  let h:=s++b
  br (N (i<x))
  (R (N (0<=i)&&N (i<=a)&&N (a<=x))
   (R (N (X s+X b<=1099511627776)) (R (zL i (X z.1.q)) (br ((↑(Y z.1.q i.toNat 0).toNat:Int)==39) (R (N (X h+[39].length<=1099511627776)) (Q9 (Dt.h13 (h++[39]) a z))) (Q9 (Dt.h13 h a z))))))
  (R (N (X s+[39].length<=1099511627776)) (re (I (s++[39])) []))
def CQ(x:zp):=ar [Q6] yi 100000000 (BK x)
def lC(x:zp):=(CQ x).isSome
def pX(x:zp):=o1 (CQ x)
def zgQ:=FT [K] [Q6] λx=>CQ x.1
theorem zcN:FK 188 zgQ:=D8.T1 (f:=Tryz.f188) (keep:=zns) (e:=zsF)
def Ko:=YH.add 188 zgQ
theorem Eb:zw Ko:=D8.add zcN
def Yu(g:J Q5->J Q6)(c:J Q5->Bool):ct:=Ko.add 189 (ac [Q5] [Q6] (λx=>c x.1) λx=>(g x.1,()))
theorem QA{g:J Q5->J Q6}{c:J Q5->Bool}(h:FK 189 (ac [Q5] [Q6] (λx=>c x.1) λx=>(g x.1,()))):zw (Yu g c):=Eb.add h
abbrev znt:Nat->aY:=λ_=>{ }
def rF(g:J Q5->J Q6)(c:J Q5->Bool)(x:J Q5):Tr (Empty⊕az):=
 let b:=zL 0 (zg.l x).length
 let y:=zt ((zg.l x).getD (Z 0) (Q Q5))
 let p:=c y
 let q:=g y
 let z:=wv++q
 let t:=N ([40].length+X q<=1099511627776)
 let h:=[40]++q
 let u:=zL 1 (zg.l x).length
 let A:=zt ((zg.l x).getD (Z 1) (Q Q5))
 let w:=c A
 let d:=h++Ql
 let a:=g A
 let e:=d++a
 let i:=h++Qm
 let j:=i++a
 let k:=h++[32]
 let m:=k++zg.op x
 let n:=m++[32]
 let o:=n++a
 br (zg.op x==pt) (R (lC (zg.v x)) (re (I (pX (zg.v x))) []))
 (br (zg.op x==fh) (re (I (zg.s x)) [])
  (br (zg.op x==ox) (R b (R p (R (N (X wv+X q<=1099511627776)) (R (N (X z+[41].length<=1099511627776)) (re (I (z++[41])) []))))) (br (zg.op x==qy) (R b (R p (R t
  (R (N (X h+X DK<=1099511627776)) (re (I (h++DK)) []))))) (br (zg.op x==ji) (R b (R p (R t (R (N (X h+X Ql<=1099511627776)) (R u (R w
  (R (N (X d+X a<=1099511627776)) (R (N (X e+[41].length<=1099511627776)) (re (I (e++[41])) []))))))))) (br (zg.op x==wy) (R b (R p (R t (R (N (X h+X Qm<=1099511627776)) (R u (R w
  (R (N (X i+X a<=1099511627776)) (R (N (X j+[41].length<=1099511627776)) (re (I (j++[41])) []))))))))) (R b (R p (R t (R (N (X h+[32].length<=1099511627776)) (R (N (X k+X (zg.op x)<=1099511627776))
  (R (N (X m+[32].length<=1099511627776)) (R u (R w (R (N (X n+X a<=1099511627776)) (R (N (X o+[41].length<=1099511627776)) (re (I (o++[41])) []))))))))))))))))
def jy(o:Option (zF (Qi M [Q6]))):J Q6:=(λr:zF (Qi M [Q6])=>r.1) (o.getD (cH [Q6]))
def Ug(g:J Q5->J Q6)(c:J Q5->Bool)(x:J Q5):Option (zF (Qi M [Q6])):=ar [Q6] t0 100000000 (rF g c x)
def dn:Nat->J Q5->Option (zF (Qi M [Q6]))
 |0=>λ_=>none
 |n+1=>Ug (λx=>jy (dn n x)) λx=>(dn n x).isSome
theorem ZO:zZ Ko.P 189 Tryz.f189 1:=cI kw
theorem MF:∀n,FK 189 (ac [Q5] [Q6] (λx=>(dn n x.1).isSome) λx=>(jy (dn n x.1),()))
 |0=>fb ⟨Tryz.f189,ZO.1,ZO.2.1,ZO.q.1⟩ (λ_=>rfl)
 |n+1=>(QA (MF n)).TT (f:=Tryz.f189) (E:=Yu (λh=>jy (dn n h)) (λh=>(dn n h).isSome)) (ks:=[Q5]) (outs:=[Q6]) (keep:=znt) (n:=100000000) (e:=e0) (t:=t0) (i:=λx=>rF (λh=>jy (dn n h)) (λh=>(dn n h).isSome) x.1)
def Ld(x:J Q5):Option (zF (Qi M [Q6])):=dn 16 x
def tD(x:J Q5):Bool:=(Ld x).isSome
def rX(x:J Q5):J Q6:=jy (Ld x)
def zgR:ah:=ac [Q5] [Q6] (λx=>tD x.1) λx=>(rX x.1,())
theorem zcO:FK 189 zgR:=MF 16
def QH:=Ko.add 189 zgR
theorem pA:zw QH:=Eb.add zcO
def ztv(x:J zG.sl)(h:zy)(g:J Q6):Tr (Empty⊕az):=
 let b:=N (h<(X x:Int))
 let a:=Y x (Z h) (Q zG)
 let c:=a.1==1
 let d:=a.1==4
 let e:=a.2==g
 R
 (bif b then zL h (X x)&&bif c then zL h (X x)else zL h (X x)&&bif d then zL h (X x)else O
 else O)
 (re (AV.bool (cond b (cond c e (cond d e S)) S)) [])
def zbn(x:J zG.sl)(h:zy)(a:J Q6):=ar [Q7] t0 100000000 (ztv x h a)
def nv(x:J zG.sl)(h:zy)(a:J Q6):=(zbn x h a).isSome
def xN(x:J zG.sl)(h:zy)(a:J Q6):=o1 (zbn x h a)
def zht:=FT [zG.sl,zk,Q6] [Q7] λx=>zbn x.1 x.2.1 x.q.1
theorem zdo:FK 242 zht:=pA.T1 (f:=Tryz.f242) (keep:=k0) (e:=e0)
abbrev znK:=kG [(3,[0,2,4,5]),(10,[0,2,6,7]),(18,[0,2,6,8])]
inductive qr where
 |h3 (s0:J Q6) (l4:zr) (i5:Int) (z0:zq [CP.d K])
 |h10 (s0:J Q6) (i7:Int) (z0:zq [CP.d K]) (z1:zq [CP.d K])
 |h18 (s0:J Q6) (i8:Int) (z0:zq [CP.d K]) (z1:zq [CP.d K])
abbrev zsR:qr->Nat×St
 |.h3 s l i z=>(3,⟨tm 145 [(0,I s),(2,Qf 0 0),(4,T K l),(5,L i)],[Qa (bF [] [CP.d K] z)]⟩)
 |.h10 s x z h=>(10,⟨tm 145 [(0,I s),(2,Qf 0 0),(6,Qf 1 0),(7,L x)],[Qa (bF [] [CP.d K] z),Qa (bF [] [CP.d K] h)]⟩)
 |.h18 s a z h=>(18,⟨tm 145 [(0,I s),(2,Qf 0 0),(6,Qf 1 0),(8,L a)],[Qa (bF [] [CP.d K] z),Qa (bF [] [CP.d K] h)]⟩)
def ztx(x:J Q6):Tr (qr⊕az):=
 Q9 (qr.h3 x [(0,0,[]),(3,0,[]),(3,1,[])] 0 ((0,0,[]),()))
def zwh:qr->Tr (qr⊕az)
 | .h3 s l e b=>
  let h:=l.getD e.toNat (Q K)
  let a:=N ((X s:Int)>=2)
  let c:=(↑(Y s (Z 0) 0).toNat:Int)==39
  let x:=Γ Δ ((X s:Int)-1)
  br (N (e<(X l:Int)))
  (R (zL e (X l)) (R (lC h) (br (pX h==s) (R (zL e (X l)) (re (Qe [Qd [L h.1,L h.2.1,I h.q],kb O]) [])) (Q9 (qr.h3 s l (Γ Δ (e+1)) b)))))
  (R (cond a (zL 0 (X s)&&bif c then zL x (X s)else O) O) (br (cond a (cond c ((↑(Y s x.toNat 0).toNat:Int)==39) S) S) (Q9 (qr.h10 s 1 b ((2,0,[]),()))) (Q9 (qr.h18 s 0 b ((1,0,[]),())))))
 | .h10 s d b z=>
  let h:=Γ Δ ((X s:Int)-1)
  let a:=Γ Δ (d+1)
  let c:=Qg (a.toNat-d.toNat) (Qh d.toNat s)
  let x:=((z.1.1,z.1.2.1,z.1.q++c),())
  br (N (d<h))
  (R (N (0<=d)&&N (d<=a)&&N (a<=(X s:Int))) (R (N (X z.1.q+X c<=1099511627776)) (R (zL d (X s)) (br ((↑(Y s d.toNat 0).toNat:Int)==39) (Q9 (qr.h10 s (Γ Δ (a+1)) b x)) (Q9 (qr.h10 s a b x))))))
  (R (lC z.1) (re (Qe [Qd [L z.1.1,L z.1.2.1,I z.1.q],AV.bool (pX z.1==s)]) []))
 | .h18 s i b z=>
  let h:=zL 0 (X s)
  let a:=(↑(Y s (Z 0) 0).toNat:Int)
  let c:=Γ Δ (i+1)
  let x:=(↑(Y s i.toNat 0).toNat:Int)
  let g:=N (x<48)
  let j:=N (x>57)
  let k:=N (z.1.2.1< -922337203685477580)
  let m:=z.1.2.1==-922337203685477580
  let n:=Γ Δ (0-z.1.2.1)
  let o:=(z.1.1,n,z.1.q)
  br (N (i<(X s:Int)))
  (R (cond (i==0) h O) (br (cond (i==0) (a==45) S) (Q9 (qr.h18 s c b z)) (R (zL i (X s)&&bif g then O else zL i (X s)&&bif j then O else bif k then O else bif m then zL i (X s)else O)
  (br (cond g O (cond j O (cond k O (cond m (N (x>56)) S)))) (re (Qe [Qd [L 0,L 0,I []],kb S]) []) (R (zL i (X s)) (Q9 (qr.h18 s c b ((z.1.1,Γ Δ (Γ Δ (Γ Δ (10*z.1.2.1)-Γ Δ x)+48),z.1.q),()))))))))
  (R (cond (s==[]) O h) (br (cond (s==[]) O (a !=45)) (br (z.1.2.1==-9223372036854775808) (re (Qe [Qd [L 0,L 0,I []],kb S]) []) (R (lC o) (re (Qe [Qd [L z.1.1,L n,I z.1.q],AV.bool (pX o==s)]) []))) (R (lC z.1)
  (re (Qe [Qd [L z.1.1,L z.1.2.1,I z.1.q],AV.bool (pX z.1==s)]) []))))
def FJ(x:J Q6):=ar [K,Q7] zwh 100000000 (ztx x)
def OU(x:J Q6):=(FJ x).isSome
def xy(x:J Q6):=o2 (FJ x)
def zhx:=FT [Q6] [K,Q7] λx=>FJ x.1
theorem zds:FK 278 zhx:=pA.T1 (f:=Tryz.f278) (keep:=znK) (e:=zsR)
def ziB:=QH.addL [(242,zht),(278,zhx)]
theorem IK:zw ziB:=pA.addL<|fc zdo<|fc zds<|jb
abbrev znJ:=kG [(1,[0,1,4])]
inductive HM where
 |h1 (s0:J Q6) (s1:J Q6) (z0:zq [CP.d K])
abbrev zsQ:HM->Nat×St
 |.h1 s h z=>(1,⟨tm 25 [(0,I s),(1,I h),(4,Qf 0 0)],[Qa (bF [] [CP.d K] z)]⟩)
def ztw(x h:J Q6):Tr (HM⊕az):=
 Q9 (HM.h1 x h ((0,0,[]),()))
def zwg:HM->Tr (HM⊕az)
 | .h1 h s z=>
  let a:=N ((X s:Int)>0)
  R (cond a (zL 0 (X s)) O)
  (br (cond a ((↑(Y s (Z 0) 0).toNat:Int)==48) S) (R (N (0<=1)&&N (1<=(X s:Int))&&N ((X s:Int)<=(X s:Int))) (Q9 (HM.h1 h (Qg ((X s:Int).toNat-Z 1) (Qh (Z 1) s)) z)))
  (br (s==[]) (re (Qe [Qd [L 1,L 0,I []],kb O]) []) (R (N (X h+X s<=1099511627776)) (R (OU (h++s)) (re (Qe [Qd [L (xy (h++s)).1.1,L (xy (h++s)).1.2.1,I (xy (h++s)).1.q],AV.bool (xy (h++s)).2]) [])))))
def RW(x h:J Q6):=ar [K,Q7] zwg 100000000 (ztw x h)
def zbo(x h:J Q6):=(RW x h).isSome
def zjt(x h:J Q6):=o2 (RW x h)
def zhw:=FT [Q6,Q6] [K,Q7] λx=>RW x.1 x.2.1
theorem zdr:FK 277 zhw:=IK.T1 (f:=Tryz.f277) (keep:=znJ) (e:=zsQ)
def ziC:=ziB.add 277 zhw
theorem IL:zw ziC:=IK.add zdr
def ztu(x:J zG.sl)(h:zy):Tr (Empty⊕az):=
 let b:=Γ Δ (h+1)
 let i:=N (b>=(X x:Int))
 let j:=zL b (X x)
 let e:=Y x b.toNat (Q zG)
 let c:=zjt [45] e.2
 let a:=Y x (Z h) (Q zG)
 let d:=zjt [] a.2
 let k:=xN x h Kd
 let l:=xN x h Kc
 let g:=xy a.2
 br (N (h>=(X x:Int)))
 (re (Qe [Qd zE,L (-1)]) [])
 (R (zL h (X x))
  (R (nv x h [45]) (br (xN x h [45]) (R (cond i O j) (br (cond i O (e.1!=2)) (re (Qe [Qd zE,L (-1)]) []) (R j (R (zbo [45] e.2) (br (!c.2)
  (re (Qe [Qd zE,L (-1)]) []) (re (Qe [Qd [I pt,L c.1.1,L c.1.2.1,I c.1.q,I [],Qb],L (Γ Δ (h+2))]) [])))))) (br (a.1==2) (R (zbo [] a.2) (br (!d.2)
  (re (Qe [Qd zE,L (-1)]) []) (re (Qe [Qd [I pt,L d.1.1,L d.1.2.1,I d.1.q,I [],Qb],L b]) []))) (br (a.1==3) (re
  (Qe [Qd [I pt,L 2,L 0,I a.2,I [],Qb],L b]) []) (R (nv x h [40]) (br (xN x h [40]) Tr.err (R (nv x h Kd&&bif k then O else nv x h Kc&&bif l then O else nv x h Hd)
  (br (cond k O (cond l O (xN x h Hd))) (R (OU a.2) (re (Qe [Qd [I pt,L g.1.1,L g.1.2.1,I g.1.q,I [],Qb],L b]) [])) (br (a.1==1) (re (Qe [Qd [I fh,L 0,L 0,I [],I a.2,Qb],
  L b]) []) (re (Qe [Qd zE,L (-1)]) [])))))))))))
def LB(x:J zG.sl)(h:zy):=ar [Q5,zk] t0 100000000 (ztu x h)
def zfI(x:J zG.sl)(h:zy):=(LB x h).isSome
def zbm(x:J zG.sl)(h:zy):=o2 (LB x h)
def zhs:=FT [zG.sl,zk] [Q5,zk] λx=>LB x.1 x.2.1
theorem zdn:FK 241 zhs:=IL.T1 (f:=Tryz.f241) (keep:=k0) (e:=e0)
def Te:=ziC.add 241 zhs
theorem IM:zw Te:=IL.add zdn
def Yy(g:J zG.sl->zy->zy->J Q5×zy)(c:J zG.sl->zy->zy->Bool):ct:=Te.add 195 (ac [zG.sl,zk,zk] [Q5,zk] (λx=>c x.1 x.2.1 x.q.1) λx=>((g x.1 x.2.1 x.q.1).1,(g x.1 x.2.1 x.q.1).2,()))
theorem QD{g:J zG.sl->zy->zy->J Q5×zy}{c:J zG.sl->zy->zy->Bool}(h:FK 195 (ac [zG.sl,zk,zk] [Q5,zk] (λx=>c x.1 x.2.1 x.q.1) λx=>((g x.1 x.2.1 x.q.1).1,(g x.1 x.2.1 x.q.1).2,()))):zw (Yy g c):=IM.add h
abbrev znF:=kG [(22,[0,2,6,15,16])]
inductive og where
 |h22 (l0:dJ) (i2:zy) (i16:zy) (z1:zq [CP.d Q5]) (ja0:List UInt8) (ja1:Int) (ja2:Int) (ja3:List UInt8) (ja4:List UInt8)
abbrev zsN:og->Nat×St
 |.h22 l c i z j h x a b=>(22,⟨tm 157 [(0,T zG l),(2,L c),(6,Qf 0 0),(15,Qf 1 0),(16,L i)],[Qa [I j,L h,L x,I a,I b,Qb],Qa (bF [] [CP.d Q5] z)]⟩)
def zi4(g:J zG.sl->zy->zy->J Q5×zy)(c:J zG.sl->zy->zy->Bool)(x:J zG.sl)(h d:zy):Tr (og⊕az):=
 let e:=Γ Δ (h+1)
 let i:=g x e 2
 let a:=g x h 3
 let j:=xN x a.2 [61]
 let b:=Γ Δ (a.2+1)
 let o:=Y x (Z a.2) (Q zG)
 let k:=zt a.1
 let l:=g x b 3
 let m:=Γ Δ (d+1)
 let n:=g x h m
 br (N (h<0))
 (re (Qe [Qd zE,L (-1)]) [])
 (br (d==4)
  (R (zfI x h) (re (Qe [Qd (xE (zbm x h).1),L (zbm x h).2]) []))
  (br (d==2) (R (nv x h [78,79,84]) (br (xN x h [78,79,84]) (R (c x e 2) (re (Qe [Qd [I ox,L 0,L 0,I [],I [],T Q5 [zt i.1]],L i.2]) [])) (R (c x h 3) (br (N (a.2<0))
  (re (Qe [Qd zE,L (-1)]) []) (R (nv x a.2 [61]&&bif j then O else nv x a.2 [60]) (br (cond j O (xN x a.2 [60])) (R (zL a.2 (X x)) (R (c x b 3) (re (Qe
  [Qd [I o.2,L 0,L 0,I [],I [],T Q5 [k,zt l.1]],L l.2]) []))) (R (nv x a.2 [73,83]) (br (xN x a.2 [73,83]) (R (nv x b Hd) (br (!xN x b Hd) (re (Qe [Qd zE,L (-1)]) [])
  (re (Qe [Qd [I qy,L 0,L 0,I [],I [],T Q5 [k]],L (Γ Δ (a.2+2))]) []))) (re (Qe [Qd (xE a.1),L a.2])
  []))))))))) (R (c x h m) (Q9 (og.h22 x d n.2 (n.1,()) [] 0 0 [] [])))))
def zjx(g:J zG.sl->zy->zy->J Q5×zy)(c:J zG.sl->zy->zy->Bool):og->Tr (og⊕az)
 | .h22 l e i z j h x b d=>
  let q:=bif e==1 then nv l i X4 else O
  let s:=bif e==1 then xN l i X4 else S
  let t:=xN l i [43]
  let o:=bif e==3 then nv l i [43]&&bif t then O else nv l i [45]else O
  let p:=bif e==3 then bif t then O else xN l i [45]else S
  let m:=l.getD (Z i) (Q zG)
  let u:=Γ Δ (i+1)
  let v:=Γ Δ (e+1)
  let n:=c l u v
  let k:=g l u v
  let a:=[zt z.1,zt k.1]
  br (N (i>=0))
  (R (cond (e==0) (nv l i [79,82]) O) (br (cond (e==0) (xN l i [79,82]) S) (R q (br s (R o (br p (R (zL i (X l)) (br (m.2==[]) (re (Qe [Qd (xE z.1),L i]) []) (R n (Q9 (og.h22 l e k.2 (zg.mk m.2 (0,0,[]) [] a,()) j h x b d))))) (br S (re (Qe [Qd (xE z.1),L i]) []) (R n (Q9 (og.h22 l e k.2 (zg.mk ji (0,0,[]) [] a,()) j h x b d)))))) (R o (br p (R (zL i (X l)) (br (m.2==[]) (re (Qe [Qd (xE z.1),L i]) []) (R n (Q9 (og.h22 l e k.2 (zg.mk m.2 (0,0,[]) [] a,()) j h x b d))))) (br S (re (Qe [Qd (xE z.1),L i]) []) (R n (Q9 (og.h22 l e k.2 (zg.mk wy (0,0,[]) [] a,()) j h x b d)))))))) (R q (br s (R o (br p (R (zL i (X l))
  (br (m.2==[]) (re (Qe [Qd (xE z.1),L i]) []) (R n (Q9 (og.h22 l e k.2 (zg.mk m.2 (0,0,[]) [] a,()) j h x b d))))) (br S (re (Qe [Qd (xE z.1),L i]) []) (R n (Q9 (og.h22 l e k.2 (zg.mk ji (0,0,[]) [] a,()) j h x b d)))))) (R o (br p (R (zL i (X l)) (br (m.2==[]) (re
  (Qe [Qd (xE z.1),L i]) []) (R n (Q9 (og.h22 l e k.2 (zg.mk m.2 (0,0,[]) [] a,()) j h x b d))))) (br O (re (Qe [Qd (xE z.1),L i]) []) (R n (Q9 (og.h22 l e k.2 (zg.mk [] (0,0,[]) [] a,()) j h x b d))))))))))
  (re (Qe [Qd (xE z.1),L i]) [])
def mC(o:Option (zF (Qi M [Q5,zk]))):J Q5×zy:=(λr:zF (Qi M [Q5,zk])=>(r.1,r.2.1)) (o.getD (cH [Q5,zk]))
def zbp(g:J zG.sl->zy->zy->J Q5×zy)(c:J zG.sl->zy->zy->Bool)(x:J zG.sl)(h a:zy):Option (zF (Qi M [Q5,zk])):=ar [Q5,zk] (zjx g c) 100000000 (zi4 g c x h a)
def fP:Nat->J zG.sl->zy->zy->Option (zF (Qi M [Q5,zk]))
 |0=>λ_ _ _=>none
 |n+1=>zbp (λx h a=>mC (fP n x h a)) λx h a=>(fP n x h a).isSome
theorem ZR:zZ Te.P 195 Tryz.f195 3:=cI kw
theorem MI:∀n,FK 195 (ac [zG.sl,zk,zk] [Q5,zk] (λx=>(fP n x.1 x.2.1 x.q.1).isSome) λx=>((mC (fP n x.1 x.2.1 x.q.1)).1,(mC (fP n x.1 x.2.1 x.q.1)).2,()))
 |0=>fb ⟨Tryz.f195,ZR.1,ZR.2.1,ZR.q.1⟩ (λ_=>rfl)
 |n+1=>(QD (MI n)).TT (f:=Tryz.f195) (E:=Yy (λh a b=>mC (fP n h a b)) (λh a b=>(fP n h a b).isSome)) (ks:=[zG.sl,zk,zk]) (outs:=[Q5,zk]) (keep:=znF) (n:=100000000) (e:=zsN) (t:=zjx (λh a b=>mC (fP n h a b)) (λh a b=>(fP n h a b).isSome)) (i:=λx=>zi4 (λh a b=>mC (fP n h a b)) (λh a b=>(fP n h a b).isSome) x.1 x.2.1 x.q.1)
def Pf(x:J zG.sl)(h a:zy):Option (zF (Qi M [Q5,zk])):=fP 16 x h a
def Pe(x:J zG.sl)(h a:zy):Bool:=(Pf x h a).isSome
def LG(x:J zG.sl)(h a:zy):J Q5×zy:=mC (Pf x h a)
def zhk:ah:=ac [zG.sl,zk,zk] [Q5,zk] (λx=>Pe x.1 x.2.1 x.q.1) λx=>((LG x.1 x.2.1 x.q.1).1,(LG x.1 x.2.1 x.q.1).2,())
theorem zdg:FK 195 zhk:=MI 16
def ziD:=Te.add 195 zhk
theorem IN:zw ziD:=IM.add zdg
def ztp(b:J zG.sl):Tr (Empty⊕az):=
 let a:=LG b 0 0
 let h:=N (a.2<0)
 let x:=zt a.1
 R (Pe b 0 0)
 (R (cond h O (vT x))
  (br (cond h O (!FN x)) (re (Qe [Qd [I [],L 0,L 0,I [],I [],Qb],L 0,kb S]) []) (re (Qe [Qd [I (zg.op a.1),L (zg.v a.1).1,L (zg.v a.1).2.1,I (zg.v a.1).q,I (zg.s a.1),T Q5 (zg.l a.1)],L a.2,kb O])
  [])))
def F5(x:J zG.sl):=ar [Q5,zk,Q7] t0 100000000 (ztp x)
def zbl(x:J zG.sl):=(F5 x).isSome
def zfH(x:J zG.sl):=o3 (F5 x)
def zg9:=FT [zG.sl] [Q5,zk,Q7] λx=>F5 x.1
theorem zc6:FK 136 zg9:=IN.T1 (f:=Tryz.f136) (keep:=k0) (e:=e0)
def ziE:=ziD.add 136 zg9
theorem IP:zw ziE:=IN.add zc6
abbrev zuS:=kG []
def ztP(y:zq bd):Tr (Empty⊕az):=
 let h:=Qg ((X y.1:Int).toNat-Z y.2.1) (Qh (Z y.2.1) y.1)
 let a:=zfH h
 let x:=Γ Δ (y.2.1+a.2.1)
 R (N (0<=y.2.1)&&N (y.2.1<=(X y.1:Int))&&N ((X y.1:Int)<=(X y.1:Int)))
 (R (zbl h)
  (br (!a.q) (re (Qd [I (zg.op a.1),L (zg.v a.1).1,L (zg.v a.1).2.1,I (zg.v a.1).q,I (zg.s a.1),T Q5 (zg.l a.1)]) [Qa [T zG y.1,L x,kb S]]) (re (Qd [I (zg.op a.1),L (zg.v a.1).1,L (zg.v a.1).2.1,I (zg.v a.1).q,
  I (zg.s a.1),T Q5 (zg.l a.1)]) (bc bd (y.1,x,y.q)))))
def Un(y:zq bd):Option (zF (Qi M [Q5])×zq bd):=kI [Q5] bd t0 100000000 (ztP y)
def LN(y:zq bd):Bool:=(Un y).isSome
def LM(y:zq bd):(J Q5)×zq bd:=(λr:zF (Qi M [Q5])×zq bd=>(r.1.1,r.2)) ((Un y).getD (cH [Q5],gg bd))
def zqZ:ah:=ro bd [] [Q5] bd (λy _=>LN y) λy _=>(((LM y).1,()),(LM y).2)
theorem zlJ:FK 73 zqZ:=IP.B1 (f:=Tryz.f73) (ps:=bd) (ks:=[]) (outs:=[Q5]) (keep:=zuS) (n:=100000000) (e:=e0) (t:=t0) (i:=λy x=>ztP y)
def zsX:=ziE.add 73 zqZ
theorem Am:zw zsX:=IP.add zlJ
abbrev zny:=kG [(6,[1,3])]
inductive HJ where
 |h6 (i3:Int) (z0:zq [CP.d zG])
abbrev zsJ:HJ->Nat×St
 |.h6 i z=>(6,⟨tm 82 [(1,Qf 0 0),(3,L i)],[Qa (bF [] [CP.d zG] z)]⟩)
def N3(x:cw):Tr (HJ⊕az):=
 let a:=(2,0,x.2)
 br (x.1==1) (R (xJ x.2) (re (AV.bool (vV x.2)) []))
 (br (x.1==2) (Q9 (HJ.h6 0 (x,())))
  (br (x.1==3) (R (nP a) (re (AV.bool (uR a)) [])) (br (x.1==4) (re (AV.bool (cond (x.2==[40]) O (cond (x.2==[41]) O (cond (x.2==[44]) O (cond (x.2==[61]) O (cond (x.2==[60]) O (cond (x.2==[43]) O (cond (x.2==[45]) O (x.2==[42]))))))))) []) (re (kb S) []))))
def yk:HJ->Tr (HJ⊕az)
 | .h6 i z=>
  let a:=(X z.1.2:Int)
  let h:=(↑(Y z.1.2 i.toNat 0).toNat:Int)
  br (N (i<a))
  (R (zL i (X z.1.2))
   (R (kL h) (br (!lD h) (re (kb S) []) (Q9 (HJ.h6 (Γ Δ (i+1)) z)))))
  (re (AV.bool (cond (N (1<=a)) (N (a<=19)) S)) [])
def Lz(x:cw):=ar [Q7] yk 100000000 (N3 x)
def nQ(x:cw):=(Lz x).isSome
def uS(x:cw):=o1 (Lz x)
def zg1:=FT [zG] [Q7] λx=>Lz x.1
theorem zcY:FK 134 zg1:=Am.T1 (f:=Tryz.f134) (keep:=zny) (e:=zsJ)
abbrev znl:=kG []
def ziP(y:zq bd)(d:TS):Tr (Empty⊕az):=
 let e:=(y.1,y.2.1,y.q.1,())
 let x:=fY e d
 let b:=(x.2.1,x.q.1,x.r.1,())
 let h:=LM b
 let c:=cg b [40]
 let g:=(c.1,c.2.1,c.q.1,())
 let a:=LM g
 let i:=(a.2.1,a.q.1,a.r.1,())
 R (eO e d)
 (br (!x.1) (re (Qd [I [],L 0,L 0,I [],I [],Qb]) (bc bd x.2))
  (br (d==mQ) (R (LN b) (re (Qd [I (zg.op h.1),L (zg.v h.1).1,L (zg.v h.1).2.1,I (zg.v h.1).q,I (zg.s h.1),T Q5 (zg.l h.1)]) (bc bd h.2))) (R (bv b [40]) (R (LN g) (R (bv i [41]) (re (Qd
  [I (zg.op a.1),L (zg.v a.1).1,L (zg.v a.1).2.1,I (zg.v a.1).q,I (zg.s a.1),T Q5 (zg.l a.1)]) (bc bd (cg i [41]))))))))
def Um(y:zq bd)(x:TS):Option (zF (Qi M [Q5])×zq bd):=kI [Q5] bd t0 100000000 (ziP y x)
def eF(y:zq bd)(x:TS):Bool:=(Um y x).isSome
def fG(y:zq bd)(x:TS):(J Q5)×zq bd:=(λr:zF (Qi M [Q5])×zq bd=>(r.1.1,r.2)) ((Um y x).getD (cH [Q5],gg bd))
def zgE:ah:=ro bd [Q6] [Q5] bd (λy x=>eF y x.1) λy x=>(((fG y x.1).1,()),(fG y x.1).2)
theorem zcB:FK 74 zgE:=Am.B1 (f:=Tryz.f74) (ps:=bd) (ks:=[Q6]) (outs:=[Q5]) (keep:=znl) (n:=100000000) (e:=e0) (t:=t0) (i:=λy x=>ziP y x.1)
def ztL(x:TS):Tr (Empty⊕az):=
 R (xJ x&&bif vV x then F6 x else O) (re (AV.bool (cond (vV x) (!Pa x) S)) [])
def xO(x:TS):=ar [Q7] t0 100000000 (ztL x)
def eE(x:TS):=(xO x).isSome
def cf(x:TS):=o1 (xO x)
def zqH:=FT [Q6] [Q7] λx=>xO x.1
theorem zlq:FK 124 zqH:=Am.T1 (f:=Tryz.f124) (keep:=k0) (e:=e0)
def zig:=QH.addL [(134,zg1),(74,zgE),(124,zqH)]
theorem sM:zw zig:=pA.addL<|fc zcY<|fc zcB<|fc zlq jb
abbrev zuy:Nat->aY:=λj=>if j=3 then{slots:=[0,4,5],prom:=[(4,none,zG)]}else if j=11 then{slots:=[0,4,5,6,7,8]}else if j=15 then{slots:=[0,4,5,6,7,8]}else if j=20 then{slots:=[0,4,5,8]}else{ }
inductive ku where
 |h3 (s0:TS) (i5:Int) (lh_0:LF)
 |h11 (s0:TS) (i5:Int) (i6:Int) (i7:Int) (z1:zq [CP.d zG]) (lh_0:LF)
 |h15 (s0:TS) (i5:Int) (i6:Int) (i7:Int) (z1:zq [CP.d zG]) (lh_0:LF)
 |h20 (s0:TS) (i5:Int) (z1:zq [CP.d zG]) (lh_0:LF)
abbrev zxm:ku->Nat×St
 |.h3 s i l=>(3,⟨tm 131 [(0,I s),(4,AV.vec 0),(5,L i)],[AO.vec zG l]⟩)
 |.h11 s i h x z l=>(11,⟨tm 131 [(0,I s),(4,AV.vec 0),(5,L i),(6,AV.int IntKind.u8 h),(7,L x),(8,Qf 1 0)],[AO.vec zG l,Qa (bF [] [CP.d zG] z)]⟩)
 |.h15 s i h x z l=>(15,⟨tm 131 [(0,I s),(4,AV.vec 0),(5,L i),(6,AV.int IntKind.u8 h),(7,L x),(8,Qf 1 0)],[AO.vec zG l,Qa (bF [] [CP.d zG] z)]⟩)
 |.h20 s i z l=>(20,⟨tm 131 [(0,I s),(4,AV.vec 0),(5,L i),(8,Qf 1 0)],[AO.vec zG l,Qa (bF [] [CP.d zG] z)]⟩)
def zyG(x:TS):Tr (ku⊕az):=
 Q9 (ku.h3 x 0 [])
def iG:ku->Tr (ku⊕az)
 | .h3 s i l=>
  let h:=(↑(Y s i.toNat 0).toNat:Int)
  let x:=Γ Δ (i+1)
  let b:=Qg (x.toNat-i.toNat) (Qh i.toNat s)
  let a:=((4,b),())
  let d:=(4,b)
  let g:=[d]
  br (N (i<(X s:Int)))
  (R (zL i (X s)) (br (cond (h==32) O (h==10)) (Q9 (ku.h3 s x l)) (R (N (0<=i)&&N (i<=x)&&N (x<=(X s:Int))) (R (oZ h) (br (sa h) (Q9 (ku.h11 s x h i a l)) (R (kL h) (br (lD h) (Q9 (ku.h15 s x h i a l))
  (br (h==39) (Q9 (ku.h20 s x ((3,[]),()) l)) (R (nQ d) (br (!uS d) (re (Qe [Qb,kb S]) []) (R (N (X l+X g<=1073741824)) (Q9 (ku.h3 s x (l++g))))))))))))))
  (re (Qe [AV.vec 0,AV.bool (N ((X l:Int)<=400))]) [AO.vec zG l])
 | .h11 s i e c z l=>
  let h:=N (i<(X s:Int))
  let x:=(↑(Y s i.toNat 0).toNat:Int)
  let b:=Qg (i.toNat-c.toNat) (Qh c.toNat s)
  let a:=(1,b)
  let d:=[a]
  R (cond h (zL i (X s)&&xL x) O)
  (br (cond h (F3 x) S) (Q9 (ku.h11 s (Γ Δ (i+1)) e c z l)) (R (N (0<=c)&&N (c<=i)&&N (i<=(X s:Int))) (R (kL e) (br (lD e) (Q9 (ku.h15 s i e c ((1,b),()) l)) (br (e==39) (Q9 (ku.h20 s i ((3,[]),()) l)) (R (nQ a)
  (br (!uS a) (re (Qe [Qb,kb S]) []) (R (N (X l+X d<=1073741824)) (Q9 (ku.h3 s i (l++d)))))))))))
 | .h15 s i e c z l=>
  let h:=N (i<(X s:Int))
  let x:=(↑(Y s i.toNat 0).toNat:Int)
  let b:=(2,Qg (i.toNat-c.toNat) (Qh c.toNat s))
  let a:=[b]
  R (cond h (zL i (X s)&&kL x) O)
  (br (cond h (lD x) S) (Q9 (ku.h15 s (Γ Δ (i+1)) e c z l)) (R (N (0<=c)&&N (c<=i)&&N (i<=(X s:Int))) (br (e==39) (Q9 (ku.h20 s i ((3,[]),()) l)) (R (nQ b) (br (!uS b) (re (Qe [Qb,kb S]) [])
  (R (N (X l+X a<=1073741824)) (Q9 (ku.h3 s i (l++a)))))))))
 | .h20 s i z l=>
  let h:=N (i<(X s:Int))
  let x:=(↑(Y s i.toNat 0).toNat:Int)
  let b:=x !=39
  let a:=Γ Δ (i+1)
  let d:=N (a<(X s:Int))
  let g:=Qg (a.toNat-i.toNat) (Qh i.toNat s)
  let j:=((z.1.1,z.1.2++g),())
  R (cond h (zL i (X s)&&bif b then O else bif d then zL a (X s)else O) O)
  (br (cond h (cond b O (cond d ((↑(Y s a.toNat 0).toNat:Int)==39) S)) S) (R (N (0<=i)&&N (i<=a)&&N (a<=(X s:Int))) (R (N (X z.1.2+X g<=1099511627776))
  (R (zL i (X s)) (br (x==39) (Q9 (ku.h20 s (Γ Δ (a+1)) j l)) (Q9 (ku.h20 s a j l)))))) (br (N (i>=(X s:Int))) (re (Qe [Qb,kb S]) []) (R (nQ z.1) (br (!uS z.1) (re (Qe [Qb,kb S]) [])
  (R (N (X l+[z.1].length<=1073741824)) (Q9 (ku.h3 s a (l++[z.1]))))))))
def Ly(x:TS):=ar [zG.sl,Q7] iG 100000000 (zyG x)
def Lw(x:TS):=(Ly x).isSome
def BU(x:TS):=o2 (Ly x)
def zqw:=FT [Q6] [zG.sl,Q7] λx=>Ly x.1
theorem zlg:FK 67 zqw:=sM.T1 (f:=Tryz.f67) (keep:=zuy) (e:=zxm)
def N1(x:J Q5)(h:TS):Tr (Empty⊕az):=
 let a:=h++zdY
 let b:=a++rX (zt x)
 br (zg.op x==[])
 (R (gT (zt x) (zg.mk [] (0,0,[]) [] [])) (re (Qe [I [],AV.bool (fF (zt x) (zg.mk [] (0,0,[]) [] []))]) []))
 (R (vT (zt x))
  (br (!FN (zt x)) (re (Qe [I [],kb S]) []) (br (h==mQ) (R (tD (zt x)) (R (N (X zd1+X (rX (zt x))<=1099511627776)) (re (Qe [I (zd1++rX (zt x)),kb O]) [])))
  (R (N (X h+X zdY<=1099511627776)) (R (tD (zt x)) (R (N (X a+X (rX (zt x))<=1099511627776)) (R (N (X b+X jq<=1099511627776)) (re (Qe [I (b++jq),kb O]) []))))))))
def C9(x:J Q5)(h:TS):=ar [Q6,Q7] t0 100000000 (N1 x h)
def qi(x:J Q5)(h:TS):=(C9 x h).isSome
def vX(x:J Q5)(h:TS):=o2 (C9 x h)
def zgO:=FT [Q5,Q6] [Q6,Q7] λx=>C9 x.1 x.2.1
theorem zcL:FK 186 zgO:=sM.T1 (f:=Tryz.f186) (keep:=k0) (e:=e0)
abbrev znu:=kG [(3,[0,4,5])]
inductive Du where
 |h3 (l0:LS) (s4:List UInt8) (i5:Int)
abbrev zsG:Du->Nat×St
 |.h3 l s i=>(3,⟨tm 37 [(0,T Q6 l),(4,I s),(5,L i)],[]⟩)
def ztm(x:J Sh.str.sl):Tr (Du⊕az):=
 Q9 (Du.h3 x [] 0)
def GH:Du->Tr (Du⊕az)
 | .h3 l s i=>
  let a:=l.getD i.toNat (Q Q6)
  let h:=s++fM
  let x:=Γ Δ (i+1)
  let b:=N (1<=(X l:Int))
  br (N (i<(X l:Int)))
  (R (zL i (X l))
   (R (eE a) (br (!cf a) (re (Qe [I [],kb S]) []) (br (N (i>0)) (R (N (X s+X fM<=1099511627776)) (R (zL i (X l)) (R (N (X h+X a<=1099511627776)) (Q9 (Du.h3 l (h++a) x)))))
   (R (zL i (X l)) (R (N (X s+X a<=1099511627776)) (Q9 (Du.h3 l (s++a) x))))))))
  (re (Qe [I (cond b s s),AV.bool (cond b (N ((X l:Int)<=8)) S)]) [])
def xP(x:J Sh.str.sl):=ar [Q6,Q7] GH 100000000 (ztm x)
def Ga(x:J Sh.str.sl):=(xP x).isSome
def LH(x:J Sh.str.sl):=o2 (xP x)
def zgS:=FT [Sh.str.sl] [Q6,Q7] λx=>xP x.1
theorem zcP:FK 190 zgS:=sM.T1 (f:=Tryz.f190) (keep:=znu) (e:=zsG)
def zih:=zig.addL [(67,zqw),(186,zgO),(190,zgS)]
theorem oD:zw zih:=sM.addL<|fc zlg<|fc zcL<|fc zcP jb
abbrev znr:=kG [(4,[1,4,5,6]),(15,[1,4,5,8]),(20,[1,4,5,9])]
inductive qU where
 |h4 (b4:Bool) (s5:zK) (i6:Int) (z0:zq [CP.d aB])
 |h15 (b4:Bool) (s5:zK) (i8:Int) (z0:zq [CP.d aB])
 |h20 (b4:Bool) (s5:zK) (i9:Int) (z0:zq [CP.d aB])
abbrev zsE:qU->Nat×St
 |.h4 b s i z=>(4,⟨tm 174 [(1,Qf 0 0),(4,AV.bool b),(5,I s),(6,L i)],[Qa (bF [] [CP.d aB] z)]⟩)
 |.h15 b s h z=>(15,⟨tm 174 [(1,Qf 0 0),(4,AV.bool b),(5,I s),(8,L h)],[Qa (bF [] [CP.d aB] z)]⟩)
 |.h20 b s x z=>(20,⟨tm 174 [(1,Qf 0 0),(4,AV.bool b),(5,I s),(9,L x)],[Qa (bF [] [CP.d aB] z)]⟩)
def Zu(x:zP):Tr (qU⊕az):=
 let a:=zd2++x.2.1
 let h:=(X x.t.1:Int)
 let b:=(X x.v.1:Int)
 let c:=(X x.w.1:Int)
 R (eE x.u.1)
 (R (N (X zd2+X x.2.1<=1099511627776))
  (R (N (X a+X Ca<=1099511627776)) (Q9 (qU.h4 (cond (cf x.u.1) (cond (N (1<=h)) (cond (N (h<=8)) (cond (N (b<=8)) (N (c<=8)) S) S) S) S) (a++Ca) 0 (x,())))))
def gv:qU->Tr (qU⊕az)
 | .h4 b s n z=>
  let i:=(X z.1.t.1:Int)
  let a:=Y z.1.t.1 n.toNat (Q zn)
  let h:=a.1++[32]
  let c:=[[],DM,DN,DL].getD (Z a.2.1) (Q Q6)
  let d:=h++c
  let e:=s++d
  let k:=e++zmb
  let l:=Γ Δ (n+1)
  let g:=zme++z.1.u.1
  let m:=g++jq
  br (N (n<i))
  (R (zL n (X z.1.t.1))
   (R (eE a.1) (br (cond (!cf a.1) O (cond (N (a.2.1<1)) O (N (a.2.1>3)))) (re (Qe [I [],kb S]) []) (R (N (X a.1+[32].length<=1099511627776)) (R (zL a.2.1 [[],DM,DN,DL].length) (R (N (X h+X c<=1099511627776))
   (R (N (X s+X d<=1099511627776)) (br a.q (R (N (X e+X zmb<=1099511627776)) (R (N (X k+X fM<=1099511627776)) (Q9 (qU.h4 b (k++fM) l z))))
   (R (N (X e+X fM<=1099511627776)) (Q9 (qU.h4 b (e++fM) l z)))))))))))
  (R (N (X zme+X z.1.u.1<=1099511627776))
   (R (N (X g+X jq<=1099511627776)) (R (N (X s+X m<=1099511627776)) (Q9 (qU.h15 b (s++m) 0 z)))))
 | .h15 b s o z=>
  let i:=(X z.1.v.1:Int)
  let a:=zL o (X z.1.v.1)
  let h:=Y z.1.v.1 o.toNat (Q Q6)
  let c:=zl9++h
  let d:=c++jq
  br (N (o<i))
  (R (cond b (a&&eE h) O)
   (R a (R (N (X zl9+X h<=1099511627776)) (R (N (X c+X jq<=1099511627776)) (R (N (X s+X d<=1099511627776)) (Q9 (qU.h15 (cond b (cf h) S) (s++d) (Γ Δ (o+1)) z)))))))
  (Q9 (qU.h20 b s 0 z))
 | .h20 b s p z=>
  let i:=(X z.1.w.1:Int)
  let a:=zL p (X z.1.w.1)
  let h:=Y z.1.w.1 p.toNat (Q jL)
  let c:=cf h.1
  let d:=zl8++h.1
  let e:=d++zl7
  let k:=e++h.2
  let l:=zt z.1.x.1
  let g:=vX l [32,44]
  let m:=s++g.1
  let j:=m++jq
  br (N (p<i))
  (R (cond b (a&&(eE h.1&&bif c then a&&eE h.2 else O)) O)
   (R a (R (N (X zl8+X h.1<=1099511627776)) (R (N (X d+X zl7<=1099511627776)) (R a (R (N (X e+X h.2<=1099511627776)) (R (N (X s+X k<=1099511627776))
   (Q9 (qU.h20 (cond b (cond c (cf h.2) S) S) (s++k) (Γ Δ (p+1)) z)))))))))
  (R (qi l [32,44])
   (R (N (X s+X g.1<=1099511627776)&&N (X m+X jq<=1099511627776)) (re (Qe [I (cond b j j),AV.bool (cond b g.2 S)]) [])))
def oU(x:zP):=ar [Q6,Q7] gv 100000000 (Zu x)
def tH(x:zP):=(oU x).isSome
def rY(x:zP):=o2 (oU x)
def zgP:=FT [aB] [Q6,Q7] λx=>oU x.1
theorem zcM:FK 187 zgP:=oD.T1 (f:=Tryz.f187) (keep:=znr) (e:=zsE)
abbrev zug:=kG [(2,[0,1,5]),(5,[0,1,5,6])]
inductive MM where
 |h2 (l0:zS) (l1:List (J Q6)) (i5:Int)
 |h5 (l0:zS) (l1:List (J Q6)) (i5:Int) (i6:Int)
abbrev zw8:MM->Nat×St
 |.h2 l h i=>(2,⟨tm 47 [(0,T zl l),(1,T Q6 h),(5,L i)],[]⟩)
 |.h5 l h i x=>(5,⟨tm 47 [(0,T zl l),(1,T Q6 h),(5,L i),(6,L x)],[]⟩)
def zyC(x:J zl.sl)(h:J Sh.str.sl):Tr (MM⊕az):=
 Q9 (MM.h2 x h 0)
def su:MM->Tr (MM⊕az)
 | .h2 l h i=>
  br (N (i<(X l:Int))) (Q9 (MM.h5 l h i 0)) (re (kb S) [])
 | .h5 l h i x=>
  let a:=l.getD i.toNat (Q zl)
  let d:=(X a.1.t.1:Int)
  let b:=!Pd h a.1.1
  let c:=Y a.1.t.1 x.toNat (Q zG)
  R (zL i (X l))
  (br (N (x<d))
   (R (zL i (X l)&&(BW h a.1.1&&bif b then zL i (X l)&&(zL x (X a.1.t.1)&&BW h c.2)else O)) (br (cond b (Pd h c.2) S) (re (kb O) []) (Q9 (MM.h5 l h i (Γ Δ (x+1))))))
   (Q9 (MM.h2 l h (Γ Δ (i+1)))))
def pV(x:J zl.sl)(h:J Sh.str.sl):=ar [Q7] su 100000000 (zyC x h)
def vR(x:J zl.sl)(h:J Sh.str.sl):=(pV x h).isSome
def AN(x:J zl.sl)(h:J Sh.str.sl):=o1 (pV x h)
def zp6:=FT [zl.sl,Sh.str.sl] [Q7] λx=>pV x.1 x.2.1
theorem zkN:FK 62 zp6:=oD.T1 (f:=Tryz.f62) (keep:=zug) (e:=zw8)
abbrev zui:=kG [(3,[0,1,6,7]),(10,[6,9]),(13,[6,9,10])]
inductive qW where
 |h3 (l0:aV) (l1:List (J Q6)) (i7:Int)
 |h3b (l0:aV) (l1:List (J Q6)) (i7:Int) (lh_0:ed)
 |h10 (i9:Int)
 |h10b (i9:Int) (lh_0:ed)
 |h13 (i9:Int) (i10:Int)
 |h13b (i9:Int) (i10:Int) (lh_0:ed)
abbrev zxa:qW->Nat×St
 |.h3 a b x=>(3,⟨tm 50 [(0,T zn a),(1,T Q6 b),(6,Qb),(7,L x)],[]⟩)
 |.h3b a b x l=>(3,⟨tm 50 [(0,T zn a),(1,T Q6 b),(6,AV.vec 0),(7,L x)],[AO.vec zk l]⟩)
 |.h10 h=>(10,⟨tm 50 [(6,Qb),(9,L h)],[]⟩)
 |.h10b h l=>(10,⟨tm 50 [(6,AV.vec 0),(9,L h)],[AO.vec zk l]⟩)
 |.h13 h i=>(13,⟨tm 50 [(6,Qb),(9,L h),(10,L i)],[]⟩)
 |.h13b h i l=>(13,⟨tm 50 [(6,AV.vec 0),(9,L h),(10,L i)],[AO.vec zk l]⟩)
def ztD(x:J zn.sl)(h:J Sh.str.sl):Tr (qW⊕az):=
 Q9 (qW.h3 x h 0)
def kP:qW->Tr (qW⊕az)
 | .h3 b a x=>
  let c:=a.getD x.toNat (Q Q6)
  let d:=gX b c
  let e:=[d]
  br (N (x<(X a:Int)))
  (R (zL x (X a))
   (R (fq b c) (br (N (d<0)) (re (Qe [Qb,L 4]) []) (R (N (X e<=1073741824)) (Q9 (qW.h3b b a (Γ Δ (x+1)) e))))))
  (Q9 (qW.h10 0))
 | .h3b b a x l=>
  let c:=a.getD x.toNat (Q Q6)
  let d:=gX b c
  let e:=[d]
  br (N (x<(X a:Int)))
  (R (zL x (X a))
   (R (fq b c) (br (N (d<0)) (re (Qe [Qb,L 4]) []) (R (N (X l+X e<=1073741824)) (Q9 (qW.h3b b a (Γ Δ (x+1)) (l++e)))))))
  (Q9 (qW.h10b 0 l))
 | .h10 h=>
  br (N (h<0)) (Q9 (qW.h13 h 0)) (re (Qe [Qb,L 0]) [])
 | .h10b h l=>
  br (N (h<(X l:Int))) (Q9 (qW.h13b h 0 l)) (re (Qe [AV.vec 0,L 0]) [AO.vec zk l])
 | .h13 h i=>
  br (N (i<h)) Tr.err (Q9 (qW.h10 (Γ Δ (h+1))))
 | .h13b h i l=>
  br (N (i<h))
  (R (zL h (X l))
   (R (N (h.toNat<X l)) (R (zL i (X l)) (R (N (i.toNat<X l)) (br (l.getD h.toNat (Q zk)==l.getD i.toNat (Q zk)) (re (Qe [Qb,L 7]) []) (Q9 (qW.h13b h (Γ Δ (i+1)) l)))))))
  (Q9 (qW.h10b (Γ Δ (h+1)) l))
def pT(x:J zn.sl)(h:J Sh.str.sl):=ar [zk.sl,zk] kP 100000000 (ztD x h)
def pS(x:J zn.sl)(h:J Sh.str.sl):=(pT x h).isSome
def tp(x:J zn.sl)(h:J Sh.str.sl):=o2 (pT x h)
def zp8:=FT [zn.sl,Sh.str.sl] [zk.sl,zk] λx=>pT x.1 x.2.1
theorem zkO:FK 63 zp8:=oD.T1 (f:=Tryz.f63) (keep:=zui) (e:=zxa)
def zeW(x:J Q5)(h:J zn.sl):Tr (Empty⊕az):=
 br (zg.op x==[]) (re (L 0) [])
 (R (vT (zt x))
  (br (!FN (zt x)) (re (L 1) []) (R (p6 (zt x) h) (br (cond ((jz (zt x) h).2==0) (cond ((jz (zt x) h).1!=0) ((jz (zt x) h).1!=3) S) S) (re (L 5) []) (re (L (jz (zt x) h).2) [])))))
def C0(x:J Q5)(h:J zn.sl):=ar [zk] t0 100000000 (zeW x h)
def qd(x:J Q5)(h:J zn.sl):=(C0 x h).isSome
def r7(x:J Q5)(h:J zn.sl):=o1 (C0 x h)
def zqa:=FT [Q5,zn.sl] [zk] λx=>C0 x.1 x.2.1
theorem zkQ:FK 65 zqa:=oD.T1 (f:=Tryz.f65) (keep:=k0) (e:=e0)
def YI:=zih.addL [(187,zgP),(62,zp6),(63,zp8),(65,zqa)]
theorem D9:zw YI:=oD.addL<|fc zcM<|fc zkN<|fc zkO<|fc zkQ jb
abbrev Yj:List CP:=[.d .str,.d .str,.d .str,.nil,.nil,.d .str,.nil,.nil,.d .str,.d zk,.d zk,.d .str,.d .str,.nil,.d (.sl K),.nil,.d .str,.d zk,.d zk,.d .str,.d .str,.nil,.d .str]
abbrev Qt:List CP:=[.d .str,.d .str,.d .str,.nil,.nil,.d .str,.nil,.nil,.d .str,.d zk,.d zk,.d .str,.d .str,.nil,.nil,.d (.sl je),.d .expr,.d .str]
abbrev zuI:=kG [(15,[1,3,5,12,13]),(27,[1,3,5,8,9,14,15])]
inductive Dw where
 |h15 (s12:List UInt8) (i13:Int) (z0:zq qS) (z1:zq jO) (z2:zq Yj)
 |h27 (s8:TS) (b9:J Q7) (s14:List UInt8) (i15:Int) (z0:zq qS) (z1:zq jO) (z2:zq Qt)
abbrev zxt:Dw->Nat×St
 |.h15 s i z a b=>(15,⟨tm 430 [(1,Qf 0 0),(3,Qf 1 0),(5,Qf 2 0),(12,I s),(13,L i)],[Qa (bF [] qS z),Qa (bF [] jO a),Qa (bF [] Yj b)]⟩)
 |.h27 d c x h z a b=>(27,⟨tm 430 [(1,Qf 0 0),(3,Qf 1 0),(5,Qf 2 0),(8,I d),(9,AV.bool c),(14,I x),(15,L h)],[Qa (bF [] qS z),Qa (bF [] jO a),Qa (bF [] Qt b)]⟩)
def pJ(h:zP):Tr (Dw⊕az):=
 let a0:=zt h.x.1
 let a1:=zt h.s.1
 let a2:=(h.1,h.2.1,h.q.1,h.r.1,h.t.1,h.u.1,h.v.1,h.w.1,a0,h.y.1,h.z.1,a1,h.p)
 let a3:=rY a2
 let k:=vX a1 mQ
 let a5:=zd4++h.2.1
 let a6:=zed++h.2.1
 let a7:=X6++h.2.1
 let a8:=a7++md
 let a9:=a8++h.q.1
 let o:=a9++Ca
 let l:=LH h.r.1
 let A:=o++l.1
 let g:=A++jq
 let a:=vX a0 []
 let m:=eE h.q.1
 let n:=cf h.q.1
 let B:=zmg++h.2.1
 let C:=B++md
 let D:=C++h.q.1
 let E:=D++fM
 let F:=E++h.p
 let G:=F++Cb
 let b:=G++h.u.1
 let c:=eE h.p
 let d:=cf h.p
 let H:=zmf++h.2.1
 let P:=H++md
 let U:=P++h.q.1
 let h0:=zL 0 (X h.r.1)
 let h1:=U++Vo
 let i:=Y h.r.1 (Z 0) (Q Q6)
 let h2:=h1++i
 let h3:=zL 1 (X h.r.1)
 let h4:=h2++Vp
 let j:=Y h.r.1 (Z 1) (Q Q6)
 let e:=h4++j
 let h5:=zso++h.2.1
 let h6:=h5++Qn
 let h7:=zsp++h.2.1
 let h8:=h7++Qn
 let h9:=zsr++h.2.1
 let x1:=h9++md
 let x2:=zss++h.2.1
 let x3:=x2++md
 R (qi a0 [])
 (R (qi a1 mQ)
  (br (h.1==Qo) (R (tH a2) (re (Qe [I a3.1,aS h.1 h.2.1 [] Qb (T zn h.t.1) h.u.1 (T Q6 h.v.1) (T (Sh.str.pr Q6) h.w.1) (xE h.x.1) Qb Qb zE [],AV.bool a3.2]) [])) (br (h.1==bl1)
  (R (N (X zd6+X h.2.1<=1099511627776)) (re (Qe [I (zd6++h.2.1),aR h [],kb O]) [])) (br (h.1==bl3) (Q9 (Dw.h15 [] 0 (h,()) ([],[],[],[],[],0,0,[],[],[],0,0,[],[],[],())
  (h.1,h.2.1,[],[],[],0,0,[],[],h.y.1,[],0,0,[],[],[],()))) (br (h.1==M9) (Q9 (Dw.h27 k.1 k.2 [] 0 (h,()) ([],[],[],[],[],0,0,[],[],[],0,0,[],[],[],()) (h.1,h.2.1,[],[],[],0,0,[],[],h.z.1,h.s.1,[],()))) (br (h.1==bl0)
  (R (N (X zd4+X h.2.1<=1099511627776)) (R (N (X a5+X k.1<=1099511627776)) (re (Qe [I (a5++k.1),aW h,AV.bool k.2]) [])))
  (br (h.1==Kb) (R (N (X zed+X h.2.1<=1099511627776)) (R (N (X a6+X k.1<=1099511627776)) (re (Qe [I (a6++k.1),aW h,AV.bool k.2]) [])))
  (br (h.1==dD) (R (Ga h.r.1) (R (N (X X6+X h.2.1<=1099511627776)) (R (N (X a7+X md<=1099511627776)) (R (N (X a8+X h.q.1<=1099511627776))
  (R (N (X a9+X Ca<=1099511627776)) (R (N (X o+X l.1<=1099511627776)) (R (N (X A+X jq<=1099511627776)) (R (N (X g+X a.1<=1099511627776)) (br l.2 (br a.2 (R m (re (Qe [I (g++a.1),aM h (T Q6 h.r.1) [] [],AV.bool n]) [])) (re (Qe [I (g++a.1),aM h (T Q6 h.r.1) [] [],kb S]) [])) (re (Qe [I (g++a.1),aM h (T Q6 h.r.1) [] [],kb S]) [])))))))))) (br (h.1==gO) (R (N (X zmg+X h.2.1<=1099511627776))
  (R (N (X B+X md<=1099511627776)) (R (N (X C+X h.q.1<=1099511627776)) (R (N (X D+X fM<=1099511627776)) (R (N (X E+X h.p<=1099511627776))
  (R (N (X F+X Cb<=1099511627776)) (R (N (X G+X h.u.1<=1099511627776)) (R (N (X b+X a.1<=1099511627776)) (br a.2 (R m (br n (R c (br d (R (eE h.u.1) (re (Qe [I (b++a.1),aM h Qb h.u.1 h.p,AV.bool (cf h.u.1)]) [])) (re (Qe [I (b++a.1),aM h Qb h.u.1 h.p,kb S]) []))) (re (Qe [I (b++a.1),aM h Qb h.u.1 h.p,kb S]) []))) (re (Qe [I (b++a.1),aM h Qb h.u.1 h.p,kb S]) [])))))))))) (br (h.1==pp)
  (br ((X h.r.1:Int)!=2) (re (Qe [I [],aM h (T Q6 h.r.1) [] [],kb S]) []) (R (N (X zmf+X h.2.1<=1099511627776))
  (R (N (X H+X md<=1099511627776)) (R (N (X P+X h.q.1<=1099511627776)) (R (N (X U+X Vo<=1099511627776)) (R h0 (R (N (X h1+X i<=1099511627776))
  (R (N (X h2+X Vp<=1099511627776)) (R h3 (R (N (X h4+X j<=1099511627776)) (R (N (X e+X a.1<=1099511627776)) (br a.2 (R m (br n (R h0 (R (eE i) (br (cf i) (R h3 (R (eE j) (re (Qe [I (e++a.1),
  aM h (T Q6 h.r.1) [] [],AV.bool (cf j)]) []))) (re (Qe [I (e++a.1),aM h (T Q6 h.r.1) [] [],kb S]) [])))) (re (Qe [I (e++a.1),aM h (T Q6 h.r.1) [] [],kb S]) []))) (re (Qe [I (e++a.1),aM h (T Q6 h.r.1) [] [],kb S]) []))))))))))))) (br (h.1==bl9)
  (R (N (X zso+X h.2.1<=1099511627776)) (R (N (X h5+X Qn<=1099511627776)) (R (N (X h6+X h.p<=1099511627776)) (R c (re (Qe [I (h6++h.p),aR h h.p,AV.bool d]) []))))) (br (h.1==Qk)
  (R (N (X zsp+X h.2.1<=1099511627776)) (R (N (X h7+X Qn<=1099511627776)) (R (N (X h8+X h.p<=1099511627776)) (R c (re (Qe [I (h8++h.p),aR h h.p,AV.bool d]) []))))) (br (h.1==P9)
  (R (N (X zsr+X h.2.1<=1099511627776)) (R (N (X h9+X md<=1099511627776)) (R (N (X x1+X h.p<=1099511627776)) (R c (re (Qe [I (x1++h.p),aR h h.p,AV.bool d]) []))))) (br (h.1==Qj) (R
  (N (X zss+X h.2.1<=1099511627776)) (R (N (X x2+X md<=1099511627776)) (R (N (X x3+X h.p<=1099511627776)) (R c (re (Qe [I (x3++h.p),aR h h.p,AV.bool d]) []))))) (re (Qe [I [],aR h [],kb S]) [])))))))))))))))
def pf:Dw->Tr (Dw⊕az)
 | .h15 s i h B a=>
  let j:=(X h.1.y.1:Int)
  let c:=zL i (X h.1.y.1)
  let d:=Y h.1.y.1 i.toNat (Q K)
  let u:=lC d
  let k:=s++fM
  let l:=pX d
  let v:=Γ Δ (i+1)
  let w:=X5++h.1.2.1
  let A:=w++zd0
  let m:=A++s
  br (N (i<j))
  (R c
   (R (nP d) (br (!uR d) (re (Qe [I [],Qd (bF [] Yj a),kb S]) []) (br (N (i>0)) (R (N (X s+X fM<=1099511627776))
   (R c (R u (R (N (X k+X l<=1099511627776)) (Q9 (Dw.h15 (k++l) v h B a)))))) (R c (R u (R (N (X s+X l<=1099511627776)) (Q9 (Dw.h15 (s++l) v h B a)))))))))
  (R (N (X X5+X h.1.2.1<=1099511627776))
   (R (N (X w+X zd0<=1099511627776)) (R (N (X A+X s<=1099511627776)) (R (N (X m+X jq<=1099511627776)) (br (N (1<=j)) (re (Qe [I (m++jq),Qd (bF [] Yj a),AV.bool (N (j<=12))]) []) (re (Qe [I (m++jq),Qd (bF [] Yj a),kb S]) []))))))
 | .h27 n C x b h B a=>
  let j:=(X h.1.z.1:Int)
  let c:=zL b (X h.1.z.1)
  let d:=Y h.1.z.1 b.toNat (Q je)
  let u:=!cf d.1
  let k:=zt d.2
  let l:=N (X d.1+X zma<=1099511627776)
  let v:=tD k
  let w:=d.1++zma
  let A:=rX k
  let m:=N (X w+X A<=1099511627776)
  let o:=x++fM
  let e:=w++A
  let p:=Γ Δ (b+1)
  let q:=X8++h.1.2.1
  let t:=q++zdZ
  let g:=t++x
  br (N (b<j))
  (R (c&&(eE d.1&&bif u then O else c&&vT k))
   (br (cond u O (!FN k)) (re (Qe [I [],Qd (bF [] Qt a),kb S]) [])
   (br (N (b>0)) (R (N (X x+X fM<=1099511627776)) (R c (R l (R c (R v (R m (R (N (X o+X e<=1099511627776)) (Q9 (Dw.h27 n C (o++e) p h B a))))))))) (R c (R l (R c
   (R v (R m (R (N (X x+X e<=1099511627776)) (Q9 (Dw.h27 n C (x++e) p h B a)))))))))))
  (R (N (X X8+X h.1.2.1<=1099511627776))
   (R (N (X q+X zdZ<=1099511627776)) (R (N (X t+X x<=1099511627776)) (R (N (X g+X n<=1099511627776)) (br C (br (N (1<=j)) (re (Qe [I (g++n),Qd (bF [] Qt a),AV.bool (N (j<=8))]) []) (re (Qe [I (g++n),Qd (bF [] Qt a),kb S]) [])) (re (Qe [I (g++n),Qd (bF [] Qt a),kb S]) []))))))
def ft(x:zP):=ar [Q6,aB,Q7] pf 100000000 (pJ x)
def xQ(x:zP):=(ft x).isSome
def Da(x:zP):=o3 (ft x)
def zqG:=FT [aB] [Q6,aB,Q7] λx=>ft x.1
theorem zlp:FK 123 zqG:=D9.T1 (f:=Tryz.f123) (keep:=zuI) (e:=zxt)
def zii:=YI.add 123 zqG
theorem Ix:zw zii:=D9.add zlp
def zm0(h:zP):Tr (Empty⊕az):=
 let b:=(h.1,h.2.1,h.q.1,h.r.1,h.t.1,h.u.1,h.v.1,h.w.1,zt h.x.1,h.y.1,h.z.1,zt h.s.1,h.p)
 let a:=Da b
 let c:=!a.q
 let d:=!cf h.2.1
 let e:=(a.2.1.1,a.2.1.2.1,a.2.1.q.1,a.2.1.r.1,a.2.1.t.1,a.2.1.u.1,a.2.1.v.1,a.2.1.w.1,zt a.2.1.x.1,a.2.1.y.1,a.2.1.z.1,zt a.2.1.s.1,a.2.1.p)
 let g:=BU a.1
 R (xQ b)
 (R (cond c O (eE h.2.1&&bif d then O else C8 e b))
  (br (cond c O (cond d O (!iq e b))) (re (Qe [I [],kb S]) []) (R (Lw a.1) (br (!g.2) (re (Qe [I [],kb S]) []) (re (Qe [I a.1,kb O]) [])))))
def qh(x:zP):=ar [Q6,Q7] t0 100000000 (zm0 x)
def jB(x:zP):=(qh x).isSome
def mD(x:zP):=o2 (qh x)
def zp5:=FT [aB] [Q6,Q7] λx=>qh x.1
theorem zkM:FK 58 zp5:=Ix.T1 (f:=Tryz.f58) (keep:=k0) (e:=e0)
def NC:=zii.add 58 zp5
theorem Iy:zw NC:=Ix.add zkM
abbrev oy:List CP:=[.d .str,.d .str,.d .str,.vec .str,.nil,.d .str,.nil,.nil,.d .expr,.nil,.nil,.d .str,.d zk,.d zk,.d .str,.d .str,.nil,.d .str]
abbrev zem:List CP:=[.d .str,.d .str,.d .str,.vec .str,.nil,.d .str,.nil,.nil,.d .str,.d zk,.d zk,.d .str,.d .str,.nil,.nil,.nil,.d .str,.d zk,.d zk,.d .str,.d .str,.nil,.d .str]
abbrev Rm:Nat->aY:=λj=>if j=14 then{slots:=[0,1,4],prom:=[(1,M 3,.str)]}else if j=1000000 then{prom:=[(1,M 3,.str)]}else{ }
inductive ux where
 |h14 (z0:zq bd) (z1:zq zem)
 |h14b (b4:J Q7) (z0:zq bd) (z1:zq zem)
abbrev Nl:ux->Nat×St
 |.h14 h z=>(14,⟨tm 117 [(0,Qf 0 0),(1,Qf 1 0),(4,kb O)],[Qa (bF [] bd h),Qa (bF [2] zem z),AO.vec Q6 z.r.1]⟩)
 |.h14b b h z=>(14,⟨tm 117 [(0,Qf 0 0),(1,Qf 1 0),(4,AV.bool b)],[Qa (bF [] bd h),Qa (bF [2] zem z),AO.vec Q6 z.r.1]⟩)
theorem znW:zZ NC.P 77 Tryz.f77 2:=cI kw
def Zt(y:zq bd)(z:zq jO):Tr (ux⊕az):=
 let a0:=(y.1,y.2.1,y.q.1,())
 let a1:=fY a0 Vq
 let a2:=(a1.2.1,a1.q.1,a1.r.1,())
 let a3:=cE a2
 let a4:=(a3.2.1,a3.q.1,a3.r.1,())
 let a5:=cg a4 ww
 let a6:=(a5.1,a5.2.1,a5.q.1,())
 let a7:=cE a6
 let a8:=(a7.2.1,a7.q.1,a7.r.1,())
 let a9:=([],z.r)
 let x3:=cg a8 [44]
 let j2:=(x3.1,x3.2.1,x3.q.1,())
 let v:=cE j2
 let j3:=(v.2.1,v.q.1,v.r.1,())
 let x4:=cg j3 He
 let j4:=(x4.1,x4.2.1,x4.q.1,())
 let w:=cE j4
 let j5:=(w.2.1,w.q.1,w.r.1,())
 let j6:=fG j5 jh
 let x5:=cg a8 Hc
 let j7:=(x5.1,x5.2.1,x5.q.1,())
 let A:=cE j7
 let x6:=[A.1]
 let j8:=(A.2.1,A.q.1,A.r.1,())
 let x7:=cg j8 Hf
 let j9:=(x7.1,x7.2.1,x7.q.1,())
 let B:=cE j9
 let k1:=[B.1]
 let k2:=(B.2.1,B.q.1,B.r.1,())
 let k3:=fG k2 jh
 let k4:=fG a8 jh
 let C:=fY a2 Vs
 let D:=(C.2.1,C.q.1,C.r.1,())
 let b:=cE D
 let k5:=(b.2.1,b.q.1,b.r.1,())
 let x8:=cg k5 ww
 let k6:=(x8.1,x8.2.1,x8.q.1,())
 let c:=cE k6
 let a:=(c.2.1,c.q.1,c.r.1,())
 let x9:=cg a [44]
 let k7:=(x9.1,x9.2.1,x9.q.1,())
 let E:=cE k7
 let k8:=(E.2.1,E.q.1,E.r.1,())
 let i0:=cg k8 He
 let k9:=(i0.1,i0.2.1,i0.q.1,())
 let F:=cE k9
 let l0:=(F.2.1,F.q.1,F.r.1,())
 let l1:=fG l0 jh
 let i1:=cg a Hc
 let l2:=(i1.1,i1.2.1,i1.q.1,())
 let G:=cE l2
 let i2:=[G.1]
 let l3:=(G.2.1,G.q.1,G.r.1,())
 let i3:=cg l3 Hf
 let l4:=(i3.1,i3.2.1,i3.q.1,())
 let H:=cE l4
 let l5:=[H.1]
 let l6:=(H.2.1,H.q.1,H.r.1,())
 let l7:=fG l6 jh
 let l8:=fG a jh
 let m:=fY D Vr
 let l9:=(m.2.1,m.q.1,m.r.1,())
 let d:=cE l9
 let m1:=(d.2.1,d.q.1,d.r.1,())
 let i4:=cg m1 ww
 let m2:=(i4.1,i4.2.1,i4.q.1,())
 let e:=cE m2
 let h:=(e.2.1,e.q.1,e.r.1,())
 let i5:=cg h [44]
 let m3:=(i5.1,i5.2.1,i5.q.1,())
 let P:=cE m3
 let m4:=(P.2.1,P.q.1,P.r.1,())
 let i6:=cg m4 He
 let m6:=(i6.1,i6.2.1,i6.q.1,())
 let U:=cE m6
 let m7:=(U.2.1,U.q.1,U.r.1,())
 let m8:=fG m7 jh
 let i7:=cg h Hc
 let m9:=(i7.1,i7.2.1,i7.q.1,())
 let h0:=cE m9
 let i8:=[h0.1]
 let n1:=(h0.2.1,h0.q.1,h0.r.1,())
 let i9:=cg n1 Hf
 let n2:=(i9.1,i9.2.1,i9.q.1,())
 let h1:=cE n2
 let n3:=[h1.1]
 let n4:=(h1.2.1,h1.q.1,h1.r.1,())
 let n5:=fG n4 jh
 let n6:=fG h jh
 let n7:=(m.2.1,m.q.1,S,())
 let g:=cE n7
 let n8:=(g.2.1,g.q.1,g.r.1,())
 let j0:=cg n8 ww
 let n9:=(j0.1,j0.2.1,j0.q.1,())
 let i:=cE n9
 let x:=(i.2.1,i.q.1,i.r.1,())
 let j1:=cg x [44]
 let a97:=(j1.1,j1.2.1,j1.q.1,())
 let h2:=cE a97
 let a99:=(h2.2.1,h2.q.1,h2.r.1,())
 let n:=cg a99 He
 let h3:=(n.1,n.2.1,n.q.1,())
 let j:=cE h3
 let h4:=(j.2.1,j.q.1,j.r.1,())
 let h5:=fG h4 jh
 let o:=cg x Hc
 let h6:=(o.1,o.2.1,o.q.1,())
 let k:=cE h6
 let t:=[k.1]
 let h7:=(k.2.1,k.q.1,k.r.1,())
 let u:=cg h7 Hf
 let h8:=(u.1,u.2.1,u.q.1,())
 let l:=cE h8
 let h9:=[l.1]
 let x0:=(l.2.1,l.q.1,l.r.1,())
 let x1:=fG x0 jh
 let x2:=fG x jh
 R (eO a0 Vq)
 (br a1.1
  (R (bS a2) (R (bv a4 ww) (R (bS a6) (br O (R (bv a8 [40]) (Q9 (ux.h14 (cg a8 [40]) (dD,a3.1,a7.1,a9)))) (br S (R (bv a8 [44]) (R (bS j2) (R (bv j3 He) (R (bS j4) (R (eF j5 jh) (re (Qe []) (cT bd oy j6.2
  (dD,a3.1,a7.1,[],w.1,j6.1,z.y.1,z.z.1,z.s.1,z.p.1,z.p.2.1,v.1,())))))))) (br S (R (bv a8 Hc) (R (bS j7) (R (N (X x6<=1073741824)) (R (bv j8 Hf) (R (bS j9)
  (R (N (X x6+X k1<=1073741824)) (R (eF k2 jh) (re (Qe []) (cT bd oy k3.2 (dD,a3.1,a7.1,x6++k1,z.r.1,k3.1,z.y)))))))))) (R (eF a8 jh) (re (Qe []) (cT bd oy k4.2
  (dD,a3.1,a7.1,[],z.r.1,k4.1,z.y))))))))))
  (R (eO a2 Vs) (br C.1 (R (bS D) (R (bv k5 ww) (R (bS k6) (br S (R (bv a [40]) (Q9 (ux.h14 (cg a [40]) (gO,b.1,c.1,a9)))) (br O (R (bv a [44]) (R (bS k7) (R (bv k8 He) (R (bS k9)
  (R (eF l0 jh) (re (Qe []) (cT bd oy l1.2 (gO,b.1,c.1,[],F.1,l1.1,z.y.1,z.z.1,z.s.1,z.p.1,z.p.2.1,E.1,())))))))) (br S (R (bv a Hc) (R (bS l2)
  (R (N (X i2<=1073741824)) (R (bv l3 Hf) (R (bS l4) (R (N (X i2+X l5<=1073741824)) (R (eF l6 jh) (re (Qe []) (cT bd oy l7.2 (gO,b.1,c.1,i2++l5,z.r.1,l7.1,z.y)))))))))) (R (eF a jh)
  (re (Qe []) (cT bd oy l8.2 (gO,b.1,c.1,[],z.r.1,l8.1,z.y)))))))))) (R (eO D Vr) (br m.1 (R (bS l9) (R (bv m1 ww) (R (bS m2) (br S (R (bv h [40]) (Q9 (ux.h14 (cg h [40]) (pp,d.1,e.1,a9))))
  (br S (R (bv h [44]) (R (bS m3) (R (bv m4 He) (R (bS m6) (R (eF m7 jh) (re (Qe []) (cT bd oy m8.2 (pp,d.1,e.1,[],U.1,m8.1,z.y.1,z.z.1,z.s.1,
  z.p.1,z.p.2.1,P.1,())))))))) (br O (R (bv h Hc) (R (bS m9) (R (N (X i8<=1073741824)) (R (bv n1 Hf) (R (bS n2) (R (N (X i8+X n3<=1073741824)) (R (eF n4 jh) (re (Qe []) (cT bd oy n5.2
  (pp,d.1,e.1,i8++n3,z.r.1,n5.1,z.y)))))))))) (R (eF h jh) (re (Qe []) (cT bd oy n6.2 (pp,d.1,e.1,[],z.r.1,n6.1,z.y)))))))))) (R (bS n7) (R (bv n8 ww) (R (bS n9)
  (br (z.1==dD) (R (bv x [40]) (Q9 (ux.h14 (cg x [40]) (z.1,g.1,i.1,a9)))) (br (z.1==gO) (R (bv x [44]) (R (bS a97) (R (bv a99 He) (R (bS h3) (R (eF h4 jh) (re (Qe []) (cT bd oy h5.2
  (z.1,g.1,i.1,[],j.1,h5.1,z.y.1,z.z.1,z.s.1,z.p.1,z.p.2.1,h2.1,())))))))) (br (z.1==pp) (R (bv x Hc) (R (bS h6) (R (N (X t<=1073741824)) (R (bv h7 Hf) (R (bS h8)
  (R (N (X t+X h9<=1073741824)) (R (eF x0 jh) (re (Qe []) (cT bd oy x1.2 (z.1,g.1,i.1,t++h9,z.r.1,x1.1,z.y)))))))))) (R (eF x jh) (re (Qe []) (cT bd oy x2.2 (z.1,g.1,i.1,[],z.r.1,x2.1,z.y)))))))))))))))
theorem zmu(y:zq bd)(z:zq jO):rn NC 2 Rm Tryz.f77 [Qf 0 0,Qf 1 0] (cT bd jO y z)=(Zt y z).map (lf Tryz.f77 Nl):=kw
def zbU:ux->Tr (ux⊕az)
 | .h14 b h=>
  let a:=(b.1,b.2.1,b.q.1,())
  let x:=cE a
  let d:=[x.1]
  let e:=(x.2.1,x.q.1,x.r.1,())
  let g:=fY e [44]
  let c:=cg a [41]
  let i:=(c.1,c.2.1,c.q.1,())
  let j:=fG i jh
  br b.q.1
  (R (bS a)
   (R (N (X h.r.1+X d<=1073741824)) (R (eO e [44]) (Q9 (ux.h14b g.1 g.2 (h.1,h.2.1,h.q.1,h.r.1++d,h.t))))))
  (R (bv a [41])
   (R (eF i jh) (re (Qe []) (cT bd oy j.2 (h.1,h.2.1,h.q.1,h.r.1,h.t.1,j.1,h.z)))))
 | .h14b k b h=>
  let a:=(b.1,b.2.1,b.q.1,())
  let x:=cE a
  let d:=[x.1]
  let e:=(x.2.1,x.q.1,x.r.1,())
  let g:=fY e [44]
  let c:=cg a [41]
  let i:=(c.1,c.2.1,c.q.1,())
  let j:=fG i jh
  br (cond k b.q.1 S)
  (R (bS a)
   (R (N (X h.r.1+X d<=1073741824)) (R (eO e [44]) (Q9 (ux.h14b g.1 g.2 (h.1,h.2.1,h.q.1,h.r.1++d,h.t))))))
  (R (bv a [41])
   (R (eF i jh) (re (Qe []) (cT bd oy j.2 (h.1,h.2.1,h.q.1,h.r.1,h.t.1,j.1,h.z)))))
theorem zn4:∀s,run NC 2 Rm (Func.results Tryz.f77).toList 400 (ap Tryz.f77 (Nl s).1) (Nl s).2=(zbU s).map (lf Tryz.f77 Nl)
 |.h14 z h=>by kernel_rfl
 |.h14b b z h=>by kernel_rfl
def zbv(y:zq bd)(z:zq jO):Option (zF (Qi M [])×zq bd×zq oy):=T3 [] bd oy zbU 100000000 (Zt y z)
def zbu(y:zq bd)(z:zq jO):Bool:=(zbv y z).isSome
def zju(y:zq bd)(z:zq jO):zq bd×zq oy:=(λr:zF (Qi M [])×zq bd×zq oy=>r.2) ((zbv y z).getD (cH [],gg bd,gg oy))
def zgG:ah:=Ya bd jO [] [] bd oy (λy z _=>zbu y z) λy z _=>((),zju y z)
theorem zcD:FK 77 zgG:=zlM (ps:=bd) (qs:=jO) (ks:=[]) (outs:=[]) (keep:=Rm) (gas:=400) (n:=100000000) (e:=Nl) (t:=zbU) (i:=λy z x=>Zt y z) Iy znW (λy z x=>zmu y z) zn4 (λ_ _ _=>by kernel_rfl) (λ_ _ _=>by kernel_rfl)
def zij:=NC.add 77 zgG
theorem Iz:zw zij:=Iy.add zcD
abbrev zuw:=kG [(17,[2,4,6,7,8]),(25,[2,4,6,7,9])]
inductive U7 where
 |h17 (l4:LF) (z0:zq jO) (z1:zq bd) (z2:zq jO)
 |h25 (l4:LF) (z0:zq jO) (z1:zq bd) (z2:zq jO)
abbrev zxk:U7->Nat×St
 |.h17 l z h x=>(17,⟨tm 172 [(2,Qf 0 0),(4,T zG l),(6,Qf 1 0),(7,Qf 2 0),(8,kb O)],[Qa (bF [] jO z),Qa (bF [] bd h),Qa (bF [] jO x)]⟩)
 |.h25 l z h x=>(25,⟨tm 172 [(2,Qf 0 0),(4,T zG l),(6,Qf 1 0),(7,Qf 2 0),(9,kb O)],[Qa (bF [] jO z),Qa (bF [] bd h),Qa (bF [] jO x)]⟩)
def zyF(x0:TS):Tr (U7⊕az):=
 let a0:=((BU x0).1,0,O,())
 let a1:=fY a0 zd3
 let a2:=(a1.2.1,a1.q.1,a1.r.1,())
 let a3:=fY a2 zd7
 let a4:=(a3.2.1,a3.q.1,a3.r.1,())
 let a5:=cg a4 zef
 let a6:=(a5.1,a5.2.1,a5.q.1,())
 let a7:=cE a6
 let a8:=(↑(X (BU x0).1):Int)
 let a9:=(bl1,a7.1,[],[],[],[],[],[],zg.mk [] (0,0,[]) [] [],[],[],zg.mk [] (0,0,[]) [] [],[])
 let x5:=mD a9
 let d:=fY a4 zd9
 let e:=(d.2.1,d.q.1,d.r.1,())
 let G:=cg e zea
 let h1:=(G.1,G.2.1,G.q.1,())
 let g:=cE h1
 let h2:=(g.2.1,g.q.1,g.r.1,())
 let H:=cg h2 zeh
 let h3:=(H.1,H.2.1,H.q.1,())
 let i:=fY e zeg
 let j:=(i.2.1,i.q.1,i.r.1,())
 let k:=cE j
 let h4:=(k.2.1,k.q.1,k.r.1,())
 let l:=fY j zd5
 let m:=(l.2.1,l.q.1,l.r.1,())
 let P:=cg m ww
 let h5:=(P.1,P.2.1,P.q.1,())
 let b:=cE h5
 let h6:=(b.2.1,b.q.1,b.r.1,())
 let n:=fG h6 mQ
 let h7:=(bl0,b.1,[],[],[],[],[],[],zg.mk [] (0,0,[]) [] [],[],[],zt n.1,[])
 let x6:=mD h7
 let o:=fY m zee
 let A:=(o.2.1,o.q.1,o.r.1,())
 let U:=cg A [42]
 let h8:=(U.1,U.2.1,U.q.1,())
 let h0:=cg h8 ww
 let h9:=(h0.1,h0.2.1,h0.q.1,())
 let c:=cE h9
 let x1:=(c.2.1,c.q.1,c.r.1,())
 let B:=fG x1 mQ
 let x2:=(Kb,c.1,[],[],[],[],[],[],zg.mk [] (0,0,[]) [] [],[],[],zt B.1,[])
 let x7:=mD x2
 let C:=fY A zd8
 let D:=(C.2.1,C.q.1,C.r.1,())
 let x8:=Pi D Vt
 let E:=fY D zec
 let F:=(E.2.1,E.q.1,E.r.1,())
 let x9:=Pi F Vt
 let h:=fY F zeb
 let x3:=(h.2.1,h.q.1,h.r.1,())
 let a:=zju x3 ([],[],[],[],[],0,0,[],[],[],0,0,[],[],[],())
 let x4:=(a.2.1,a.q.1,a.r.1,a.t.1,[],a.u.1,[],[],zt a.v.1,[],[],zg.mk a.w.1 (a.x.1,a.y.1,a.z.1) a.s.1 [],a.p.1)
 let i0:=mD x4
 R (Lw x0)
 (br (!(BU x0).2)
  (re (Qe [nS,kb S]) [])
  (R (eO a0 zd3) (br a1.1 Tr.err (R (eO a2 zd7) (br a3.1 (R (bv a4 zef) (R (bS a6) (br (cond (!a7.r.1) O (a7.q.1!=a8)) (re (Qe [nS,kb S]) []) (R (jB a9) (br (!x5.2) (re (Qe [nS,kb S]) []) (re (Qe [aS bl1 a7.1 [] Qb Qb [] Qb Qb zE Qb Qb zE [],kb O]) [])))))) (R (eO a4 zd9) (br d.1 (R (bv e zea) (R (bS h1) (R (bv h2 zeh) (R (bv h3 [40]) (Q9
  (U7.h17 (BU x0).1 ([],[],[],[],[],0,0,[],[],[],0,0,[],[],[],()) (cg h3 [40]) (bl3,g.1,[],[],[],0,0,[],[],[],0,0,[],[],[],()))))))) (R (eO e zeg) (br i.1 (R (bS j) (R (bv h4 [83,69,84]) (Q9
  (U7.h25 (BU x0).1 ([],[],[],[],[],0,0,[],[],[],0,0,[],[],[],()) (cg h4 [83,69,84]) (M9,k.1,[],[],[],0,0,[],[],[],0,0,[],[],[],()))))) (R (eO j zd5) (br l.1 (R (bv m ww) (R (bS h5) (R (eF h6 mQ)
  (br (cond (!n.r.1) O (n.q.1!=a8)) (re (Qe [nS,kb S]) []) (R (jB h7) (br (!x6.2)
  (re (Qe [nS,kb S]) []) (re (Qe [aS bl0 b.1 [] Qb Qb [] Qb Qb zE Qb Qb (xE n.1) [],
  kb O]) []))))))) (R (eO m zee) (br o.1 (R (bv A [42]) (R (bv h8 ww) (R (bS h9) (R (eF x1 mQ) (br (cond (!B.r.1) O (B.q.1!=a8)) (re (Qe [nS,kb S]) []) (R (jB x2) (br (!x7.2) (re (Qe [nS,kb S]) []) (re (Qe [aS Kb c.1 [] Qb Qb [] Qb Qb zE Qb Qb (xE B.1) [],
  kb O]) [])))))))) (R (eO A zd8) (br C.1 (R (LO D Vt) (br x8.1 Tr.err Tr.err)) (R (eO D zec) (br E.1 (R (LO F Vt) (br x9.1 Tr.err Tr.err)) (R (eO F zeb) (br h.1
  (R (zbu x3 ([],[],[],[],[],0,0,[],[],[],0,0,[],[],[],())) (br (cond (!a.1.q.1) O (a.1.2.1!=a8)) (re (Qe [nS,kb S]) []) (R (jB x4) (br (!i0.2) (re (Qe [nS,kb S]) []) (re (Qe [aS a.2.1 a.q.1 a.r.1 (AV.vec 0) Qb a.u.1 Qb Qb (xE a.v.1) Qb Qb [I a.w.1,L a.x.1,L a.y.1,I a.z.1,I a.s.1,Qb] a.p.1,kb O])
  [AO.vec Q6 a.t.1]))))) (br (cond (!h.r.1) O (h.q.1!=a8)) (re (Qe [nS,kb S]) [])
  (R O (br O (re (Qe [nS,kb S]) []) (re (Qe [nS,kb O]) [])))))))))))))))))))))))
def zzg:U7->Tr (U7⊕az)
 | .h17 l _ a h=>
  let b:=(a.1,a.2.1,a.q.1,())
  let d:=cg b [41]
  let c:=(h.1,h.2.1,h.q.1,[],[],h.r.1,[],[],zg.mk h.t.1 (h.u.1,h.v.1,h.w.1) h.x.1 [],[],[],zg.mk h.y.1 (h.z.1,h.s.1,h.p.1) h.p.2.1 [],h.p.q.1)
  let e:=mD c
  br a.q.1 Tr.err
  (R (bv b [41])
   (br (cond (!d.q.1) O (d.2.1!=(X l:Int))) (re (Qe [nS,kb S]) []) (R (jB c)
   (br (!e.2) (re (Qe [nS,kb S]) []) (re (Qe [aS h.1 h.2.1 h.q.1 Qb Qb h.r.1 Qb Qb [I h.t.1,L h.u.1,L h.v.1,I h.w.1,I h.x.1,Qb] Qb Qb [I h.y.1,L h.z.1,L h.s.1,I h.p.1,I h.p.2.1,Qb] h.p.q.1,kb O]) [])))))
 | .h25 l _ a h=>
  let b:=(a.1,a.2.1,a.q.1,())
  let d:=cE b
  let c:=fG b mQ
  let e:=(h.1,h.2.1,h.q.1,[],[],h.r.1,[],[],zg.mk h.t.1 (h.u.1,h.v.1,h.w.1) h.x.1 [],[],[],zt c.1,h.p.q.1)
  let g:=mD e
  br a.q.1 (R (bS b) (R (bv (d.2.1,d.q.1,d.r.1,()) [61]) Tr.err))
  (R (eF b mQ)
   (br (cond (!c.r.1) O (c.q.1!=(X l:Int))) (re (Qe [nS,kb S]) []) (R (jB e)
   (br (!g.2) (re (Qe [nS,kb S]) []) (re (Qe [aS h.1 h.2.1 h.q.1 Qb Qb h.r.1 Qb Qb [I h.t.1,L h.u.1,L h.v.1,I h.w.1,I h.x.1,Qb] Qb Qb (xE c.1) h.p.q.1,kb O]) [])))))
def F8(x:TS):=ar [aB,Q7] zzg 100000000 (zyF x)
def zbq(x:TS):=(F8 x).isSome
def gY(x:TS):=o2 (F8 x)
def zqr:=FT [Q6] [aB,Q7] λx=>F8 x.1
theorem zlb:FK 29 zqr:=Iz.T1 (f:=Tryz.f29) (keep:=zuw) (e:=zxk)
def zik:=zij.add 29 zqr
theorem IA:zw zik:=Iz.add zlb
def zyB(h:TS):Tr (Empty⊕az):=
 R (zbq h)
 (re
  (aS ((gY h).1.1) ((gY h).1.2.1) ((gY h).1.q.1) (T Q6 (gY h).1.r.1) (T zn (gY h).1.t.1) ((gY h).1.u.1) (T Q6 (gY h).1.v.1) (T (Sh.str.pr Q6) (gY h).1.w.1) (xE (gY h).1.x.1) (T K (gY h).1.y.1) (T (Sh.str.pr Q5) (gY h).1.z.1) (xE (gY h).1.s.1) ((gY h).1.p))
  [])
def zuT(x:TS):=ar [aB] t0 100000000 (zyB x)
def zpP:=FT [Q6] [aB] λx=>zuT x.1
theorem zku:FK 9 zpP:=IA.T1 (f:=Tryz.f9) (keep:=k0) (e:=e0)
def zil:=zik.add 9 zpP
theorem lM:zw zil:=IA.add zku
def ziY(x h:zp):Tr (Empty⊕az):=
 let b:=x.1==h.1&&(x.2.1==h.2.1&&(x.q==h.q&&O))
 let a:=bB b
 R (oR x h)
 (br (tt x h) (re (Qd [L 0,L 0,I []]) [])
  (R (mA b) (re (Qd [L a.1,L a.2.1,I a.q]) [])))
def rS(x h:zp):=ar [K] t0 100000000 (ziY x h)
def xu(x h:zp):=(rS x h).isSome
def tq(x h:zp):=o1 (rS x h)
def zg8:=FT [K,K] [K] λx=>rS x.1 x.2.1
theorem zc5:FK 170 zg8:=lM.T1 (f:=Tryz.f170) (keep:=k0) (e:=e0)
def ziZ(x h:zp):Tr (Empty⊕az):=
 let b:=Op.bytesLess x.q h.q
 let a:=bB b
 R (oR x h)
 (br (tt x h) (re (Qd [L 0,L 0,I []]) [])
  (br (N (x.2.1<h.2.1)) (R O (re (Qd [L (bB O).1,L (bB O).2.1,I (bB O).q]) [])) (R (mA b) (re (Qd [L a.1,L a.2.1,I a.q]) []))))
def xv(x h:zp):=ar [K] t0 100000000 (ziZ x h)
def CM(x h:zp):=(xv x h).isSome
def AP(x h:zp):=o1 (xv x h)
def zha:=FT [K,K] [K] λx=>xv x.1 x.2.1
theorem zc7:FK 171 zha:=lM.T1 (f:=Tryz.f171) (keep:=k0) (e:=e0)
def zi0(h x:zp):Tr (Empty⊕az):=
 let b:=Γ Δ (9223372036854775807-x.2.1)
 let c:=Γ Δ (-9223372036854775808-x.2.1)
 let a:=bif N (x.2.1<0)then N (h.2.1<c)else S
 R (oR h x)
 (br (cond (tt h x) O (h.1!=1)) (re (Qd [L 0,L 0,I []]) [])
  (br (cond (N (x.2.1>0)) (cond (N (h.2.1>b)) O a) a) (re (Qd [L 0,L 0,I []]) []) (re (Qd [L 1,L (Γ Δ (h.2.1+x.2.1)),I []]) [])))
def xz(x h:zp):=ar [K] t0 100000000 (zi0 x h)
def CO(x h:zp):=(xz x h).isSome
def AR(x h:zp):=o1 (xz x h)
def zhb:=FT [K,K] [K] λx=>xz x.1 x.2.1
theorem zc8:FK 102 zhb:=lM.T1 (f:=Tryz.f102) (keep:=k0) (e:=e0)
def zi1(h x:zp):Tr (Empty⊕az):=
 let b:=Γ Δ (-9223372036854775808+x.2.1)
 let c:=Γ Δ (9223372036854775807+x.2.1)
 let a:=bif N (x.2.1<0)then N (h.2.1>c)else S
 R (oR h x)
 (br (cond (tt h x) O (h.1!=1)) (re (Qd [L 0,L 0,I []]) [])
  (br (cond (N (x.2.1>0)) (cond (N (h.2.1<b)) O a) a) (re (Qd [L 0,L 0,I []]) []) (re (Qd [L 1,L (Γ Δ (h.2.1-x.2.1)),I []]) [])))
def rU(x h:zp):=ar [K] t0 100000000 (zi1 x h)
def xw(x h:zp):=(rU x h).isSome
def tr(x h:zp):=o1 (rU x h)
def zhc:=FT [K,K] [K] λx=>rU x.1 x.2.1
theorem zc9:FK 172 zhc:=lM.T1 (f:=Tryz.f172) (keep:=k0) (e:=e0)
def ziI(x:J Q5)(h:J zn.sl):Tr (Empty⊕az):=
 br (zg.op x==[])
 (R (gT (zt x) (zg.mk [] (0,0,[]) [] []))
  (br (!fF (zt x) (zg.mk [] (0,0,[]) [] [])) (re (L 1) []) (re (L 0) [])))
 (R (vT (zt x))
  (br (!FN (zt x)) (re (L 1) []) (R (p6 (zt x) h) (br ((jz (zt x) h).2!=0) (re (L (jz (zt x) h).2) []) (br (cond ((jz (zt x) h).1!=0) ((jz (zt x) h).1!=3) S) (re (L 5) []) (re (L 0) []))))))
def rZ(x:J Q5)(h:J zn.sl):=ar [zk] t0 100000000 (ziI x h)
def FU(x:J Q5)(h:J zn.sl):=(rZ x h).isSome
def Ll(x:J Q5)(h:J zn.sl):=o1 (rZ x h)
def zgv:=FT [Q5,zn.sl] [zk] λx=>rZ x.1 x.2.1
theorem zcr:FK 163 zgv:=lM.T1 (f:=Tryz.f163) (keep:=k0) (e:=e0)
def Km:=zil.addL [(170,zg8),(171,zha),(102,zhb),(172,zhc),(163,zgv)]
theorem vy:zw Km:=lM.addL<|fc zc5<|fc zc7<|fc zc8<|fc zc9<|fc zcr jb
end
end Cad
