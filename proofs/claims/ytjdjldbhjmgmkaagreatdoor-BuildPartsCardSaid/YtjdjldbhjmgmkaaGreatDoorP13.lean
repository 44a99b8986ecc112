/- The document's reader. -/
import Derived.Test.YtjdjldbhjmgmkaaGreatDoorP12
namespace Cad
open Go Go.Proofs
open List (getD)
open List renaming map->Qi,drop->Qh,take->Qg,length->X
open IntKind renaming wrap->Γ,i64->Δ
open AV renaming ptr->Qf,tup->Qe,agg->Qd,nils->Qb
open Tr renaming «to»->Q9,chk->K
open AO renaming box->Qa
open Sh renaming bool->Q7,str->Q6,expr->Q5
open Bool renaming true->O,false->S
open Option renaming some->M
open Decidable renaming decide->T
open Int renaming toNat->Z
open List renaming getD->Y
open Tr (chk br re)
open AV (nils agg tup ptr kb)
open AV renaming str->I,sl->N
open Cad renaming Sem->J,ai->L,zi->Q,ze->R
noncomputable section
set_option maxHeartbeats 4000000
def ziC(x:J (Sh.int IntKind.u8)):Tr (Empty⊕aw):=
 K (kM x&&bif lJ x then O else pb x) (re (AV.bool (cond (lJ x) O (cond (sf x) O (x==95)))) [])
def xL(x:J (Sh.int IntKind.u8)):=ap [Q7] t0 100000000 (ziC x)
def xK(x:J (Sh.int IntKind.u8)):=(xL x).isSome
def F4(x:J (Sh.int IntKind.u8)):=o1 (xL x)
def zgI:=FT [Sh.int IntKind.u8] [Q7] λx=>xL x.1
theorem zcJ:FK 132 zgI:=mn.T1 (f:=Tryz.f132) (keep:=k0) (e:=e0)
abbrev znc:=kS [(3,[0,3,4])]
inductive HI where
 |h3 (s0:TS) (l3:LS) (i4:Int)
abbrev zse:HI->Nat×St
 |.h3 s l i=>(3,⟨tm 18 [(0,I s),(3,N Q6 l),(4,L i)],[]⟩)
def Zl(x:TS):Tr (HI⊕aw):=
 Q9
 (HI.h3 x
  [XU,[79,82],[78,79,84],[73,83],He,Kc,Kb,zdQ,zd2,[75,69,89],[85,78,73,81,85,69],zrW,je,zdU,zdW,
  zdX,zd4,zd3,[83,69,84],mV,zdS,wz,zd1,zdV,zdZ,Vl,[87,82,73,84,69],Hf,[84,79],
  zdY,Vi,Vk,Vj,Hd,Hg,DP,DQ,DO]
  0)
def GI:HI->Tr (HI⊕aw)
 | .h3 s l i=>
  br (T (i<(X l:Int)))
  (K (zL i (X l)) (br (l.getD i.toNat (Q Q6)==s) (re (kb O) []) (Q9 (HI.h3 s l (Γ Δ (i+1))))))
  (re (kb S) [])
def Lz(x:TS):=ap [Q7] GI 100000000 (Zl x)
def F8(x:TS):=(Lz x).isSome
def Pa(x:TS):=o1 (Lz x)
def zgE:=FT [Q6] [Q7] λx=>Lz x.1
theorem zcF:FK 135 zgE:=mn.T1 (f:=Tryz.f135) (keep:=znc) (e:=zse)
abbrev zmX:Nat->aX:=λ_=>{ }
def ziu(y:zp bb)(x:TS):Tr (Empty⊕aw):=
 let h:=(y.1,y.2.1,y.q.1,())
 let a:=Pj h x
 K (LO h x)
 (br a.1 (re (kb O) (ba bb (a.2.1,Γ Δ (a.q.1+1),a.r)))
  (re (kb S) (ba bb a.2)))
def Uo(y:zp bb)(x:TS):Option (zF (Qi M [Q7])×zp bb):=kJ [Q7] bb t0 100000000 (ziu y x)
def eO(y:zp bb)(x:TS):Bool:=(Uo y x).isSome
def f7(y:zp bb)(x:TS):(J Q7)×zp bb:=(λr:zF (Qi M [Q7])×zp bb=>(r.1.1,r.2)) ((Uo y x).getD (cJ [Q7],gj bb))
def zgj:ag:=rq bb [Q6] [Q7] bb (λy x=>eO y x.1) λy x=>(((f7 y x.1).1,()),(f7 y x.1).2)
theorem zcj:FK 68 zgj:=mn.B1 (f:=Tryz.f68) (ps:=bb) (ks:=[Q6]) (outs:=[Q7]) (keep:=zmX) (n:=100000000) (e:=e0) (t:=t0) (i:=λy x=>ziu y x.1)
abbrev zuc:=kS [(6,[2,3,5]),(11,[2,3,6]),(16,[2,3,7]),(21,[2,3,8]),(26,[2,3,9]),(31,[2,3,10])]
inductive uf where
 |h6 (i5:Int) (z0:zp qW) (z1:zp qW)
 |h11 (i6:Int) (z0:zp qW) (z1:zp qW)
 |h16 (i7:Int) (z0:zp qW) (z1:zp qW)
 |h21 (i8:Int) (z0:zp qW) (z1:zp qW)
 |h26 (i9:Int) (z0:zp qW) (z1:zp qW)
 |h31 (i10:Int) (z0:zp qW) (z1:zp qW)
abbrev zwZ:uf->Nat×St
 |.h6 x z h=>(6,⟨tm 238 [(2,Qf 0 0),(3,Qf 1 0),(5,L x)],[Qa (bL [] qW z),Qa (bL [] qW h)]⟩)
 |.h11 a z h=>(11,⟨tm 238 [(2,Qf 0 0),(3,Qf 1 0),(6,L a)],[Qa (bL [] qW z),Qa (bL [] qW h)]⟩)
 |.h16 b z h=>(16,⟨tm 238 [(2,Qf 0 0),(3,Qf 1 0),(7,L b)],[Qa (bL [] qW z),Qa (bL [] qW h)]⟩)
 |.h21 c z h=>(21,⟨tm 238 [(2,Qf 0 0),(3,Qf 1 0),(8,L c)],[Qa (bL [] qW z),Qa (bL [] qW h)]⟩)
 |.h26 d z h=>(26,⟨tm 238 [(2,Qf 0 0),(3,Qf 1 0),(9,L d)],[Qa (bL [] qW z),Qa (bL [] qW h)]⟩)
 |.h31 i z h=>(31,⟨tm 238 [(2,Qf 0 0),(3,Qf 1 0),(10,L i)],[Qa (bL [] qW z),Qa (bL [] qW h)]⟩)
def zeP(h a:zO):Tr (uf⊕aw):=
 let b:=!h.1==a.1
 let c:=!h.2.1==a.2.1
 let d:=!h.q.1==a.q.1
 let e:=!h.u.1==a.u.1
 let g:=!h.p==a.p
 let i:=zt h.x.1
 let j:=zt a.x.1
 let k:=!fJ i j
 let l:=zt h.s.1
 let m:=zt a.s.1
 K
 (bif b then O
 else bif c then O else bif d then O else bif e then O else bif g then O else gV i j&&bif k then O else gV l m)
 (br (cond b O (cond c O (cond d O (cond e O (cond g O (cond k O (!fJ l m)))))))
  (re (kb S) [])
  (br (bif (X h.r.1:Int)!=(X a.r.1:Int)then O else bif (X h.t.1:Int)!=(X a.t.1:Int)then O else bif (X h.v.1:Int)!=(X a.v.1:Int)then O else bif (X h.w.1:Int)!=(X a.w.1:Int)then O
  else bif (X h.y.1:Int)!=(X a.y.1:Int)then O else(X h.z.1:Int)!=(X a.z.1:Int)) (re (kb S) []) (Q9 (uf.h6 0 (h,()) (a,())))))
def we:uf->Tr (uf⊕aw)
 | .h6 d h x=>
  let c:=(X h.1.r.1:Int)
  br (T (d<c))
  (K (zL d (X h.1.r.1))
   (K (zL d (X x.1.r.1)) (br (!getD h.1.r.1 d.toNat (Q Q6)==Y x.1.r.1 d.toNat (Q Q6)) (re (kb S) []) (Q9 (uf.h6 (Γ Δ (d+1)) h x)))))
  (Q9 (uf.h11 0 h x))
 | .h11 e h x=>
  let c:=(X h.1.t.1:Int)
  let a:=Y h.1.t.1 e.toNat (Q zn)
  let b:=Y x.1.t.1 e.toNat (Q zn)
  br (T (e<c))
  (K (zL e (X h.1.t.1))
   (K (zL e (X x.1.t.1)) (br (!(a.1==b.1&&(a.2.1==b.2.1&&(a.q==b.q&&O)))) (re (kb S) []) (Q9 (uf.h11 (Γ Δ (e+1)) h x)))))
  (Q9 (uf.h16 0 h x))
 | .h16 g h x=>
  let c:=(X h.1.v.1:Int)
  br (T (g<c))
  (K (zL g (X h.1.v.1))
   (K (zL g (X x.1.v.1)) (br (!getD h.1.v.1 g.toNat (Q Q6)==Y x.1.v.1 g.toNat (Q Q6)) (re (kb S) []) (Q9 (uf.h16 (Γ Δ (g+1)) h x)))))
  (Q9 (uf.h21 0 h x))
 | .h21 j h x=>
  let c:=(X h.1.w.1:Int)
  let a:=Y h.1.w.1 j.toNat (Q jM)
  let b:=Y x.1.w.1 j.toNat (Q jM)
  br (T (j<c))
  (K (zL j (X h.1.w.1))
   (K (zL j (X x.1.w.1)) (br (!(a.1==b.1&&(a.2==b.2&&O))) (re (kb S) []) (Q9 (uf.h21 (Γ Δ (j+1)) h x)))))
  (Q9 (uf.h26 0 h x))
 | .h26 k h x=>
  let c:=(X h.1.y.1:Int)
  let a:=Y h.1.y.1 k.toNat (Q R)
  let b:=Y x.1.y.1 k.toNat (Q R)
  br (T (k<c))
  (K (zL k (X h.1.y.1))
   (K (zL k (X x.1.y.1)) (br (!(a.1==b.1&&(a.2.1==b.2.1&&(a.q==b.q&&O)))) (re (kb S) []) (Q9 (uf.h26 (Γ Δ (k+1)) h x)))))
  (Q9 (uf.h31 0 h x))
 | .h31 i h x=>
  let c:=(X h.1.z.1:Int)
  let a:=zL i (X h.1.z.1)
  let b:=zL i (X x.1.z.1)
  let l:=Y h.1.z.1 i.toNat (Q jb)
  let m:=Y x.1.z.1 i.toNat (Q jb)
  let n:=!l.1==m.1
  let o:=zt l.2
  let p:=zt m.2
  br (T (i<c))
  (K (a&&(b&&bif n then O else a&&(b&&gV o p)))
   (br (cond n O (!fJ o p)) (re (kb S) []) (Q9 (uf.h31 (Γ Δ (i+1)) h x))))
  (re (kb O) [])
def tP(x h:zO):=ap [Q7] we 100000000 (zeP x h)
def Da(x h:zO):=(tP x h).isSome
def ir(x h:zO):=o1 (tP x h)
def zqg:=FT [ay,ay] [Q7] λx=>tP x.1 x.2.1
theorem zk4:FK 125 zqg:=mn.T1 (f:=Tryz.f125) (keep:=zuc) (e:=zwZ)
def zhX:=Yq.addL [(132,zgI),(135,zgE),(68,zgj),(125,zqg)]
theorem sP:zw zhX:=mn.addL<|fc zcJ<|fc zcF<|fc zcj<|fc zk4 jg
abbrev zna:=kS [(2,[0,3])]
inductive HH where
 |h2 (s0:TS) (i3:Int)
abbrev zsd:HH->Nat×St
 |.h2 s i=>(2,⟨tm 28 [(0,I s),(3,L i)],[]⟩)
def ziA(x:TS):Tr (HH⊕aw):=
 Q9 (HH.h2 x 0)
def yi:HH->Tr (HH⊕aw)
 | .h2 s i=>
  let a:=(↑(Y s i.toNat 0).toNat:Int)
  let h:=T (1<=(X s:Int))
  let x:=T ((X s:Int)<=16)
  let b:=(↑(Y s (Z 0) 0).toNat:Int)
  br (T (i<(X s:Int)))
  (K (zL i (X s)) (K (xK a) (br (!F4 a) (re (kb S) []) (Q9 (HH.h2 s (Γ Δ (i+1)))))))
  (K (cond h (cond x (zL 0 (X s)&&pb b) O) O)
   (re (AV.bool (cond h (cond x (sf b) S) S)) []))
def C9(x:TS):=ap [Q7] yi 100000000 (ziA x)
def xI(x:TS):=(C9 x).isSome
def vY(x:TS):=o1 (C9 x)
def zgC:=FT [Q6] [Q7] λx=>C9 x.1
theorem zcD:FK 191 zgC:=sP.T1 (f:=Tryz.f191) (keep:=zna) (e:=zsd)
abbrev zmY:Nat->aX:=λ_=>{ }
def ziv(y:zp bb)(x:TS):Tr (Empty⊕aw):=
 let h:=(y.1,y.2.1,y.q.1,())
 let a:=f7 h x
 K (eO h x)
 (br (!a.1) (re (Qe []) [Qa [N zG a.2.1,L a.q.1,kb S]])
  (re (Qe []) (ba bb a.2)))
def Um(y:zp bb)(x:TS):Option (zF (Qi M [])×zp bb):=kJ [] bb t0 100000000 (ziv y x)
def bt(y:zp bb)(x:TS):Bool:=(Um y x).isSome
def cg(y:zp bb)(x:TS):zp bb:=(λr:zF (Qi M [])×zp bb=>r.2) ((Um y x).getD (cJ [],gj bb))
def zgl:ag:=rq bb [Q6] [] bb (λy x=>bt y x.1) λy x=>((),cg y x.1)
theorem zcm:FK 70 zgl:=sP.B1 (f:=Tryz.f70) (ps:=bb) (ks:=[Q6]) (outs:=[]) (keep:=zmY) (n:=100000000) (e:=e0) (t:=t0) (i:=λy x=>ziv y x.1)
abbrev zmZ:Nat->aX:=λ_=>{ }
def ziw(y:zp bb):Tr (Empty⊕aw):=
 let h:=T (y.2.1<(X y.1:Int))
 let x:=zL y.2.1 (X y.1)
 let a:=Y y.1 (Z y.2.1) (Q zG)
 let b:=a.1==1
 let c:=Γ Δ (y.2.1+1)
 let d:=Γ Δ (c-1)
 let e:=Y y.1 d.toNat (Q zG)
 K (cond h (x&&bif b then x&&F8 a.2 else O) O)
 (br (cond h (cond b (!Pa a.2) S) S)
  (K (zL d (X y.1)) (re (I e.2) (ba bb (y.1,c,y.q))))
  (re (I []) [Qa [N zG y.1,L y.2.1,kb S]]))
def Un(y:zp bb):Option (zF (Qi M [Q6])×zp bb):=kJ [Q6] bb t0 100000000 (ziw y)
def bT(y:zp bb):Bool:=(Un y).isSome
def cG(y:zp bb):(J Q6)×zp bb:=(λr:zF (Qi M [Q6])×zp bb=>(r.1.1,r.2)) ((Un y).getD (cJ [Q6],gj bb))
def zgm:ag:=rq bb [] [Q6] bb (λy _=>bT y) λy _=>(((cG y).1,()),(cG y).2)
theorem zcn:FK 71 zgm:=sP.B1 (f:=Tryz.f71) (ps:=bb) (ks:=[]) (outs:=[Q6]) (keep:=zmZ) (n:=100000000) (e:=e0) (t:=t0) (i:=λy x=>ziw y)
def Iu:=zhX.addL [(191,zgC),(70,zgl),(71,zgm)]
theorem oI:zw Iu:=sP.addL<|fc zcD<|fc zcm<|fc zcn jg
def zit(x:zq):Tr (Empty⊕aw):=
 K (nV x)
 (br (uS x) (re (Qd [L x.1,L x.2.1,I x.q]) [])
  (re (Qd [L 0,L 0,I []]) []))
def xA(x:zq):=ap [R] t0 100000000 (zit x)
def tA(x:zq):=(xA x).isSome
def f5(x:zq):=o1 (xA x)
def zgi:=FT [R] [R] λx=>xA x.1
theorem zci:FK 96 zgi:=oI.T1 (f:=Tryz.f96) (keep:=k0) (e:=e0)
def zis(h:zq)(x:J Q7):Tr (Empty⊕aw):=
 K (mF x) (re (AV.bool (h.1==(bx x).1&&(h.2.1==(bx x).2.1&&(h.q==(bx x).q&&O)))) [])
def OQ(x:zq)(h:J Q7):=ap [Q7] t0 100000000 (zis x h)
def oV(x:zq)(h:J Q7):=(OQ x h).isSome
def rW(x:zq)(h:J Q7):=o1 (OQ x h)
def zgg:=FT [R,Q7] [Q7] λx=>OQ x.1 x.2.1
theorem zcg:FK 105 zgg:=oI.T1 (f:=Tryz.f105) (keep:=k0) (e:=e0)
def Yl(g:J Q5->zy->J Q7)(c:J Q5->zy->Bool):cu:=Iu.add 193 (ac [Q5,zk] [Q7] (λx=>c x.1 x.2.1) λx=>(g x.1 x.2.1,()))
theorem QA{g:J Q5->zy->J Q7}{c:J Q5->zy->Bool}(h:FK 193 (ac [Q5,zk] [Q7] (λx=>c x.1 x.2.1) λx=>(g x.1 x.2.1,()))):zw (Yl g c):=oI.add h
abbrev zne:Nat->aX:=λ_=>{ }
def Zm(g:J Q5->zy->J Q7)(c:J Q5->zy->Bool)(x:J Q5)(o:zy):Tr (Empty⊕aw):=
 let d:=(↑(zg.l x).length:Int)==0
 let a:=(zg.v x).1==0&&((zg.v x).2.1==0&&((zg.v x).q==[]&&O))
 let e:=(↑(zg.l x).length:Int)==1
 let i:=zL 0 (zg.l x).length
 let j:=zt ((zg.l x).getD (Z 0) (Q Q5))
 let h:=Γ Δ (o-1)
 let k:=c j h
 let b:=g j h
 let m:=(↑(zg.l x).length:Int)==2
 let n:=zt ((zg.l x).getD (Z 1) (Q Q5))
 br (o==0) (re (kb S) [])
 (br (zg.op x==pC)
  (K (nV (zg.v x)) (re (AV.bool (cond (uS (zg.v x)) (cond (zg.s x==[]) d S) S)) []))
  (br (zg.op x==fk) (K (cond a (xI (zg.s x)&&bif vY (zg.s x)then F8 (zg.s x)else O) O) (re (AV.bool (cond a (cond (vY (zg.s x)) (cond (!Pa (zg.s x)) d S) S) S)) [])) (br (cond (zg.op x==oC) O (zg.op x==qE))
  (K (cond a (cond (zg.s x==[]) (cond e (i&&k) O) O) O) (re (AV.bool (cond a (cond (zg.s x==[]) (cond e b S) S) S)) [])) (K (Lg (zg.op x)) (br (Ug (zg.op x)) (K
  (cond a (cond (zg.s x==[]) (cond m (i&&(k&&bif b then zL 1 (zg.l x).length&&c n h else O)) O) O) O) (re (AV.bool (cond a (cond (zg.s x==[]) (cond m (cond b (g n h) S) S) S) S)) [])) (re (kb S) []))))))
def qf(o:Option (zF (Qi M [Q7]))):J Q7:=(λr:zF (Qi M [Q7])=>r.1) (o.getD (cJ [Q7]))
def Lf(g:J Q5->zy->J Q7)(c:J Q5->zy->Bool)(x:J Q5)(h:zy):Option (zF (Qi M [Q7])):=ap [Q7] t0 100000000 (Zm g c x h)
def gX:Nat->J Q5->zy->Option (zF (Qi M [Q7]))
 |0=>λ_ _=>none
 |n+1=>Lf (λx h=>qf (gX n x h)) λx h=>(gX n x h).isSome
theorem ZF:zY Iu.P 193 Tryz.f193 2:=cK kw
theorem MF:∀n,FK 193 (ac [Q5,zk] [Q7] (λx=>(gX n x.1 x.2.1).isSome) λx=>(qf (gX n x.1 x.2.1),()))
 |0=>ff ⟨Tryz.f193,ZF.1,ZF.2.1,ZF.q.1⟩ (λ_=>rfl)
 |n+1=>(QA (MF n)).TT (f:=Tryz.f193) (E:=Yl (λh a=>qf (gX n h a)) (λh a=>(gX n h a).isSome)) (ks:=[Q5,zk]) (outs:=[Q7]) (keep:=zne) (n:=100000000) (e:=e0) (t:=t0) (i:=λx=>Zm (λh a=>qf (gX n h a)) (λh a=>(gX n h a).isSome) x.1 x.2.1)
def Le(x:J Q5)(h:zy):Option (zF (Qi M [Q7])):=gX 16 x h
def CY(x:J Q5)(h:zy):Bool:=(Le x h).isSome
def Ld(x:J Q5)(h:zy):J Q7:=qf (Le x h)
def zgL:ag:=ac [Q5,zk] [Q7] (λx=>CY x.1 x.2.1) λx=>(Ld x.1 x.2.1,())
theorem zcM:FK 193 zgL:=MF 16
def zhD(g:J Q5->ct->zy×zy)(c:J Q5->ct->Bool):cu:=Iu.add 130 (ac [Q5,Sh.sl zn] [zk,zk] (λx=>c x.1 x.2.1) λx=>((g x.1 x.2.1).1,(g x.1 x.2.1).2,()))
theorem VF{g:J Q5->ct->zy×zy}{c:J Q5->ct->Bool}(h:FK 130 (ac [Q5,Sh.sl zn] [zk,zk] (λx=>c x.1 x.2.1) λx=>((g x.1 x.2.1).1,(g x.1 x.2.1).2,()))):zw (zhD g c):=oI.add h
abbrev zue:Nat->aX:=λj=>if j=5 then{slots:=[1,2,6]}else{ }
inductive UY where
 |h5 (l1:LC) (i6:Int) (z0:zp [CP.d Q5])
abbrev zw1:UY->Nat×St
 |.h5 l i z=>(5,⟨tm 116 [(1,N zn l),(2,Qf 0 0),(6,L i)],[Qa (bL [] [CP.d Q5] z)]⟩)
def Hq(g:J Q5->J zn.sl->zy×zy)(c:J Q5->J zn.sl->Bool)(x:J Q5)(o:J zn.sl):Tr (UY⊕aw):=
 let q:=zt ((zg.l x).getD (Z 0) (Q Q5))
 let h:=g q o
 let s:=zt ((zg.l x).getD (Z 1) (Q Q5))
 let j:=g s o
 let t:=zg.op x==qE
 let u:=zg.op x==[61]
 let a:=h.1!=0
 let p:=j.1!=0
 let w:=zg.op x==[60]
 let y:=zg.op x==[43]
 let b:=h.1!=1
 let d:=bif p then j.1!=1 else S
 let k:=zg.op x==[45]
 let i:=h.1!=3
 let m:=bif p then j.1!=3 else S
 let e:=bif a then b else S
 let n:=bif a then i else S
 br (zg.op x==pC) (re (Qe [L (zg.v x).1,L 0]) [])
 (br (zg.op x==fk) (Q9 (UY.h5 o 0 (x,())))
  (K (zL 0 (zg.l x).length) (K (c q o) (br (h.2!=0) (re (Qe [L 0,L h.2]) []) (br ((↑(zg.l x).length:Int)==2) (K (zL 1 (zg.l x).length) (K (c s o) (br (j.2!=0) (re (Qe [L 0,L j.2]) []) (br t (re (Qe [L 3,L 0]) []) (br u
  (br (cond a (cond p (h.1!=j.1) S) S) (re (Qe [L 0,L 5]) []) (re (Qe [L 3,L 0]) [])) (br w (br (cond a (cond p (h.1!=j.1) S) S) (re (Qe [L 0,L 5]) []) (re (Qe [L 3,L 0]) [])) (br y
  (br (cond a (cond b O d) d) (re (Qe [L 0,L 5]) []) (re (Qe [L 1,L 0]) [])) (br k (br (cond a (cond b O d) d) (re (Qe [L 0,L 5]) []) (re (Qe [L 1,L 0]) []))
  (br (cond a (cond i O m) m) (re (Qe [L 0,L 5]) []) (re (Qe [L 3,L 0]) [])))))))))) (br t (re (Qe [L 3,L 0]) []) (br u (br (cond a (cond a (h.1!=h.1) S) S) (re (Qe [L 0,L 5]) [])
  (re (Qe [L 3,L 0]) [])) (br w (br (cond a (cond a (h.1!=h.1) S) S) (re (Qe [L 0,L 5]) []) (re (Qe [L 3,L 0]) [])) (br y (br (cond a (cond b O e) e) (re (Qe [L 0,L 5]) [])
  (re (Qe [L 1,L 0]) [])) (br k (br (cond a (cond b O e) e) (re (Qe [L 0,L 5]) []) (re (Qe [L 1,L 0]) [])) (br (cond a (cond i O n) n) (re (Qe [L 0,L 5]) []) (re (Qe [L 3,L 0]) []))))))))))))
def Ss(_:J Q5->J zn.sl->zy×zy)(_:J Q5->J zn.sl->Bool):UY->Tr (UY⊕aw)
 | .h5 l i z=>
  let a:=l.getD i.toNat (Q zn)
  br (T (i<(X l:Int)))
  (K (zL i (X l))
   (br (a.1==zg.s z.1) (K (zL i (X l)) (re (Qe [L a.2.1,L 0]) [])) (Q9 (UY.h5 l (Γ Δ (i+1)) z))))
  (re (Qe [L 0,L 4]) [])
def gW(o:Option (zF (Qi M [zk,zk]))):zy×zy:=(λr:zF (Qi M [zk,zk])=>(r.1,r.2.1)) (o.getD (cJ [zk,zk]))
def Uf(g:J Q5->J zn.sl->zy×zy)(c:J Q5->J zn.sl->Bool)(x:J Q5)(h:J zn.sl):Option (zF (Qi M [zk,zk])):=ap [zk,zk] (Ss g c) 100000000 (Hq g c x h)
def cN:Nat->J Q5->J zn.sl->Option (zF (Qi M [zk,zk]))
 |0=>λ_ _=>none
 |n+1=>Uf (λx h=>gW (cN n x h)) λx h=>(cN n x h).isSome
theorem zmS:zY Iu.P 130 Tryz.f130 2:=cK kw
theorem SH:∀n,FK 130 (ac [Q5,zn.sl] [zk,zk] (λx=>(cN n x.1 x.2.1).isSome) λx=>((gW (cN n x.1 x.2.1)).1,(gW (cN n x.1 x.2.1)).2,()))
 |0=>ff ⟨Tryz.f130,zmS.1,zmS.2.1,zmS.q.1⟩ (λ_=>rfl)
 |n+1=>(VF (SH n)).TT (f:=Tryz.f130) (E:=zhD (λh a=>gW (cN n h a)) (λh a=>(cN n h a).isSome)) (ks:=[Q5,zn.sl]) (outs:=[zk,zk]) (keep:=zue) (n:=100000000) (e:=zw1) (t:=Ss (λh a=>gW (cN n h a)) (λh a=>(cN n h a).isSome)) (i:=λx=>Hq (λh a=>gW (cN n h a)) (λh a=>(cN n h a).isSome) x.1 x.2.1)
def CX(x:J Q5)(h:J zn.sl):Option (zF (Qi M [zk,zk])):=cN 16 x h
def qe(x:J Q5)(h:J zn.sl):Bool:=(CX x h).isSome
def jy(x:J Q5)(h:J zn.sl):zy×zy:=gW (CX x h)
def zqk:ag:=ac [Q5,zn.sl] [zk,zk] (λx=>qe x.1 x.2.1) λx=>((jy x.1 x.2.1).1,(jy x.1 x.2.1).2,())
theorem zk8:FK 130 zqk:=SH 16
def Yr:=Iu.addL [(96,zgi),(105,zgg),(193,zgL),(130,zqk)]
theorem iQ:zw Yr:=oI.addL<|fc zci<|fc zcg<|fc zcM<|fc zk8 jg
def ztb(x h:zq):Tr (Empty⊕aw):=
 let a:=(f5 x).1==(f5 h).1
 let b:=(f5 x).2.1==(f5 h).2.1
 K (tA x)
 (K (tA h)
  (br (a&&(b&&((f5 x).q==(f5 h).q&&O))) (re (L 0) []) (br (cond (T ((f5 x).1<(f5 h).1)) O (cond a (cond (T ((f5 x).2.1<(f5 h).2.1)) O (cond b (Op.bytesLess (f5 x).q (f5 h).q) S)) S)) (re (L (-1)) []) (re (L 1) []))))
def rY(x h:zq):=ap [zk] t0 100000000 (ztb x h)
def xw(x h:zq):=(rY x h).isSome
def CQ(x h:zq):=o1 (rY x h)
def zpX:=FT [R,R] [zk] λx=>rY x.1 x.2.1
theorem zkL:FK 37 zpX:=iQ.T1 (f:=Tryz.f37) (keep:=k0) (e:=e0)
def ziO(x h:zq):Tr (Empty⊕aw):=
 K (tA x)
 (K (tA h)
  (re (AV.bool (cond ((f5 x).1==0) O (cond ((f5 h).1==0) O ((f5 x).1!=(f5 h).1)))) []))
def rZ(x h:zq):=ap [Q7] t0 100000000 (ziO x h)
def oW(x h:zq):=(rZ x h).isSome
def tv(x h:zq):=o1 (rZ x h)
def zg6:=FT [R,R] [Q7] λx=>rZ x.1 x.2.1
theorem zc6:FK 165 zg6:=iQ.T1 (f:=Tryz.f165) (keep:=k0) (e:=e0)
def ziE(x h:zq):Tr (Empty⊕aw):=
 K (oV x S&&bif rW x S then O else oV h S)
 (br (cond (rW x S) O (rW h S))
  (K O (re (Qd [L (bx S).1,L (bx S).2.1,I (bx S).q]) []))
  (K (oV x O&&bif rW x O then oV h O else O) (br (cond (rW x O) (rW h O) S) (K O (re (Qd [L (bx O).1,L (bx O).2.1,I (bx O).q]) [])) (re (Qd [L 0,L 0,I []]) []))))
def FF(x h:zq):=ap [R] t0 100000000 (ziE x h)
def K5(x h:zq):=(FF x h).isSome
def Ji(x h:zq):=o1 (FF x h)
def zgP:=FT [R,R] [R] λx=>FF x.1 x.2.1
theorem zcQ:FK 168 zgP:=iQ.T1 (f:=Tryz.f168) (keep:=k0) (e:=e0)
def ziF(x h:zq):Tr (Empty⊕aw):=
 K (oV x O&&bif rW x O then O else oV h O)
 (br (cond (rW x O) O (rW h O))
  (K O (re (Qd [L (bx O).1,L (bx O).2.1,I (bx O).q]) []))
  (K (oV x S&&bif rW x S then oV h S else O) (br (cond (rW x S) (rW h S) S) (K O (re (Qd [L (bx S).1,L (bx S).2.1,I (bx S).q]) [])) (re (Qd [L 0,L 0,I []]) []))))
def OT(x h:zq):=ap [R] t0 100000000 (ziF x h)
def Ub(x h:zq):=(OT x h).isSome
def WB(x h:zq):=o1 (OT x h)
def zgQ:=FT [R,R] [R] λx=>OT x.1 x.2.1
theorem zcR:FK 169 zgQ:=iQ.T1 (f:=Tryz.f169) (keep:=k0) (e:=e0)
def ziD(x:zq):Tr (Empty⊕aw):=
 K (oV x O)
 (br (rW x O)
  (K O (re (Qd [L (bx S).1,L (bx S).2.1,I (bx S).q]) []))
  (K (oV x S) (br (rW x S) (K O (re (Qd [L (bx O).1,L (bx O).2.1,I (bx O).q]) [])) (re (Qd [L 0,L 0,I []]) []))))
def FI(x:zq):=ap [R] t0 100000000 (ziD x)
def K8(x:zq):=(FI x).isSome
def Jk(x:zq):=o1 (FI x)
def zgO:=FT [R] [R] λx=>FI x.1
theorem zcP:FK 167 zgO:=iQ.T1 (f:=Tryz.f167) (keep:=k0) (e:=e0)
def zti(x:J Q5):Tr (Empty⊕aw):=
 let a:=Ld (zt x) 12
 K (CY (zt x) 12&&bif a then xC (zt x)else O) (re (AV.bool (cond a (T (CZ (zt x)<=60)) S)) [])
def FP(x:J Q5):=ap [Q7] t0 100000000 (zti x)
def vW(x:J Q5):=(FP x).isSome
def FO(x:J Q5):=o1 (FP x)
def zqj:=FT [Q5] [Q7] λx=>FP x.1
theorem zk7:FK 129 zqj:=iQ.T1 (f:=Tryz.f129) (keep:=k0) (e:=e0)
def Ys:=Yr.addL [(37,zpX),(165,zg6),(168,zgP),(169,zgQ),(167,zgO),(129,zqj)]
theorem Ea:zw Ys:=iQ.addL<|fc zkL<|fc zc6<|fc zcQ<|fc zcR<|fc zcP<|fc zk7 jg
abbrev znl:=kS [(2,[0,3])]
inductive HL where
 |h2 (i0:zy) (s3:List UInt8)
abbrev zsk:HL->Nat×St
 |.h2 i s=>(2,⟨tm 21 [(0,L i),(3,I s)],[]⟩)
def zsY(x:zy):Tr (HL⊕aw):=
 Q9 (HL.h2 x [])
def GK:HL->Tr (HL⊕aw)
 | .h2 i s=>
  let a:=nO [IntKind.u8.wrap (Γ Δ (48-Γ Δ (Int.tmod i 10)))]
  br (cond (T (i<0)) O (s==[]))
  (K O (K (T (X a+X s<=1099511627776)) (K O (Q9 (HL.h2 (Γ Δ (Int.tdiv i 10)) (a++s))))))
  (re (I s) [])
def tz(x:zy):=ap [Q6] GK 100000000 (zsY x)
def lV(x:zy):=(tz x).isSome
def mG(x:zy):=o1 (tz x)
def zg4:=FT [zk] [Q6] λx=>tz x.1
theorem zc4:FK 239 zg4:=Ea.T1 (f:=Tryz.f239) (keep:=znl) (e:=zsk)
def Yx:=Ys.add 239 zg4
theorem Ec:zw Yx:=Ea.add zc4
abbrev zm7:=kS [(13,[1,3,4])]
inductive Dv where
 |h13 (s3:List UInt8) (i4:Int) (z0:zp [CP.d R])
abbrev zsb:Dv->Nat×St
 |.h13 s i z=>(13,⟨tm 54 [(1,Qf 0 0),(3,I s),(4,L i)],[Qa (bL [] [CP.d R] z)]⟩)
def BL(x:zq):Tr (Dv⊕aw):=
 let a:=Γ Δ (0-x.2.1)
 K (nV x)
 (br (!uS x) (re (I []) [])
  (br (x.1==0) (re (I He) []) (br (x.1==1) (br (T (x.2.1<0)) (K (lV x.2.1) (K (T ([45].length+X (mG x.2.1)<=1099511627776)) (re (I ([45]++mG x.2.1)) []))) (K (lV a) (re (I (mG a)) []))) (br (x.1==2) (Q9 (Dv.h13 [39] 0 (x,())))
  (br (x.2.1==1) (re (I Kc) []) (re (I Kb) []))))))
def yh:Dv->Tr (Dv⊕aw)
 | .h13 s i z=>
  let x:=(X z.1.q:Int)
  let a:=Γ Δ (i+1)
  let b:=Qg (a.toNat-i.toNat) (Qh i.toNat z.1.q)
  let h:=s++b
  br (T (i<x))
  (K (T (0<=i)&&T (i<=a)&&T (a<=x))
   (K (T (X s+X b<=1099511627776)) (K (zL i (X z.1.q)) (br ((↑(Y z.1.q i.toNat 0).toNat:Int)==39) (K (T (X h+[39].length<=1099511627776)) (Q9 (Dv.h13 (h++[39]) a z))) (Q9 (Dv.h13 h a z))))))
  (K (T (X s+[39].length<=1099511627776)) (re (I (s++[39])) []))
def CS(x:zq):=ap [Q6] yh 100000000 (BL x)
def lI(x:zq):=(CS x).isSome
def qb(x:zq):=o1 (CS x)
def zgz:=FT [R] [Q6] λx=>CS x.1
theorem zcA:FK 188 zgz:=Ec.T1 (f:=Tryz.f188) (keep:=zm7) (e:=zsb)
def Ko:=Yx.add 188 zgz
theorem Eg:zw Ko:=Ec.add zcA
def Yk(g:J Q5->J Q6)(c:J Q5->Bool):cu:=Ko.add 189 (ac [Q5] [Q6] (λx=>c x.1) λx=>(g x.1,()))
theorem Qz{g:J Q5->J Q6}{c:J Q5->Bool}(h:FK 189 (ac [Q5] [Q6] (λx=>c x.1) λx=>(g x.1,()))):zw (Yk g c):=Eg.add h
abbrev zm8:Nat->aX:=λ_=>{ }
def rI(g:J Q5->J Q6)(c:J Q5->Bool)(x:J Q5):Tr (Empty⊕aw):=
 let b:=zL 0 (zg.l x).length
 let y:=zt ((zg.l x).getD (Z 0) (Q Q5))
 let p:=c y
 let q:=g y
 let z:=wy++q
 let t:=T ([40].length+X q<=1099511627776)
 let h:=[40]++q
 let u:=zL 1 (zg.l x).length
 let A:=zt ((zg.l x).getD (Z 1) (Q Q5))
 let w:=c A
 let d:=h++Qj
 let a:=g A
 let e:=d++a
 let i:=h++Qk
 let j:=i++a
 let k:=h++[32]
 let m:=k++zg.op x
 let n:=m++[32]
 let o:=n++a
 br (zg.op x==pC) (K (lI (zg.v x)) (re (I (qb (zg.v x))) []))
 (br (zg.op x==fk) (re (I (zg.s x)) [])
  (br (zg.op x==oC) (K b (K p (K (T (X wy+X q<=1099511627776)) (K (T (X z+[41].length<=1099511627776)) (re (I (z++[41])) []))))) (br (zg.op x==qE) (K b (K p (K t
  (K (T (X h+X DN<=1099511627776)) (re (I (h++DN)) []))))) (br (zg.op x==jf) (K b (K p (K t (K (T (X h+X Qj<=1099511627776)) (K u (K w
  (K (T (X d+X a<=1099511627776)) (K (T (X e+[41].length<=1099511627776)) (re (I (e++[41])) []))))))))) (br (zg.op x==wA) (K b (K p (K t (K (T (X h+X Qk<=1099511627776)) (K u (K w
  (K (T (X i+X a<=1099511627776)) (K (T (X j+[41].length<=1099511627776)) (re (I (j++[41])) []))))))))) (K b (K p (K t (K (T (X h+[32].length<=1099511627776)) (K (T (X k+X (zg.op x)<=1099511627776))
  (K (T (X m+[32].length<=1099511627776)) (K u (K w (K (T (X n+X a<=1099511627776)) (K (T (X o+[41].length<=1099511627776)) (re (I (o++[41])) []))))))))))))))))
def jx(o:Option (zF (Qi M [Q6]))):J Q6:=(λr:zF (Qi M [Q6])=>r.1) (o.getD (cJ [Q6]))
def Ue(g:J Q5->J Q6)(c:J Q5->Bool)(x:J Q5):Option (zF (Qi M [Q6])):=ap [Q6] t0 100000000 (rI g c x)
def dr:Nat->J Q5->Option (zF (Qi M [Q6]))
 |0=>λ_=>none
 |n+1=>Ue (λx=>jx (dr n x)) λx=>(dr n x).isSome
theorem ZE:zY Ko.P 189 Tryz.f189 1:=cK kw
theorem ME:∀n,FK 189 (ac [Q5] [Q6] (λx=>(dr n x.1).isSome) λx=>(jx (dr n x.1),()))
 |0=>ff ⟨Tryz.f189,ZE.1,ZE.2.1,ZE.q.1⟩ (λ_=>rfl)
 |n+1=>(Qz (ME n)).TT (f:=Tryz.f189) (E:=Yk (λh=>jx (dr n h)) (λh=>(dr n h).isSome)) (ks:=[Q5]) (outs:=[Q6]) (keep:=zm8) (n:=100000000) (e:=e0) (t:=t0) (i:=λx=>rI (λh=>jx (dr n h)) (λh=>(dr n h).isSome) x.1)
def Lc(x:J Q5):Option (zF (Qi M [Q6])):=dr 16 x
def tF(x:J Q5):Bool:=(Lc x).isSome
def r7(x:J Q5):J Q6:=jx (Lc x)
def zgA:ag:=ac [Q5] [Q6] (λx=>tF x.1) λx=>(r7 x.1,())
theorem zcB:FK 189 zgA:=ME 16
def QG:=Ko.add 189 zgA
theorem pH:zw QG:=Eg.add zcB
def zs0(x:J zG.sl)(h:zy)(g:J Q6):Tr (Empty⊕aw):=
 let b:=T (h<(X x:Int))
 let a:=Y x (Z h) (Q zG)
 let c:=a.1==1
 let d:=a.1==4
 let e:=a.2==g
 K
 (bif b then zL h (X x)&&bif c then zL h (X x)else zL h (X x)&&bif d then zL h (X x)else O
 else O)
 (re (AV.bool (cond b (cond c e (cond d e S)) S)) [])
def zbc(x:J zG.sl)(h:zy)(a:J Q6):=ap [Q7] t0 100000000 (zs0 x h a)
def nF(x:J zG.sl)(h:zy)(a:J Q6):=(zbc x h a).isSome
def xM(x:J zG.sl)(h:zy)(a:J Q6):=o1 (zbc x h a)
def zhc:=FT [zG.sl,zk,Q6] [Q7] λx=>zbc x.1 x.2.1 x.q.1
theorem zdb:FK 242 zhc:=pH.T1 (f:=Tryz.f242) (keep:=k0) (e:=e0)
abbrev znp:=kS [(3,[0,2,4,5]),(10,[0,2,6,7]),(18,[0,2,6,8])]
inductive qx where
 |h3 (s0:J Q6) (l4:zr) (i5:Int) (z0:zp [CP.d R])
 |h10 (s0:J Q6) (i7:Int) (z0:zp [CP.d R]) (z1:zp [CP.d R])
 |h18 (s0:J Q6) (i8:Int) (z0:zp [CP.d R]) (z1:zp [CP.d R])
abbrev zsn:qx->Nat×St
 |.h3 s l i z=>(3,⟨tm 145 [(0,I s),(2,Qf 0 0),(4,N R l),(5,L i)],[Qa (bL [] [CP.d R] z)]⟩)
 |.h10 s x z h=>(10,⟨tm 145 [(0,I s),(2,Qf 0 0),(6,Qf 1 0),(7,L x)],[Qa (bL [] [CP.d R] z),Qa (bL [] [CP.d R] h)]⟩)
 |.h18 s a z h=>(18,⟨tm 145 [(0,I s),(2,Qf 0 0),(6,Qf 1 0),(8,L a)],[Qa (bL [] [CP.d R] z),Qa (bL [] [CP.d R] h)]⟩)
def zs2(x:J Q6):Tr (qx⊕aw):=
 Q9 (qx.h3 x [(0,0,[]),(3,0,[]),(3,1,[])] 0 ((0,0,[]),()))
def zvK:qx->Tr (qx⊕aw)
 | .h3 s l e b=>
  let h:=l.getD e.toNat (Q R)
  let a:=T ((X s:Int)>=2)
  let c:=(↑(Y s (Z 0) 0).toNat:Int)==39
  let x:=Γ Δ ((X s:Int)-1)
  br (T (e<(X l:Int)))
  (K (zL e (X l)) (K (lI h) (br (qb h==s) (K (zL e (X l)) (re (Qe [Qd [L h.1,L h.2.1,I h.q],kb O]) [])) (Q9 (qx.h3 s l (Γ Δ (e+1)) b)))))
  (K (cond a (zL 0 (X s)&&bif c then zL x (X s)else O) O) (br (cond a (cond c ((↑(Y s x.toNat 0).toNat:Int)==39) S) S) (Q9 (qx.h10 s 1 b ((2,0,[]),()))) (Q9 (qx.h18 s 0 b ((1,0,[]),())))))
 | .h10 s d b z=>
  let h:=Γ Δ ((X s:Int)-1)
  let a:=Γ Δ (d+1)
  let c:=Qg (a.toNat-d.toNat) (Qh d.toNat s)
  let x:=((z.1.1,z.1.2.1,z.1.q++c),())
  br (T (d<h))
  (K (T (0<=d)&&T (d<=a)&&T (a<=(X s:Int))) (K (T (X z.1.q+X c<=1099511627776)) (K (zL d (X s)) (br ((↑(Y s d.toNat 0).toNat:Int)==39) (Q9 (qx.h10 s (Γ Δ (a+1)) b x)) (Q9 (qx.h10 s a b x))))))
  (K (lI z.1) (re (Qe [Qd [L z.1.1,L z.1.2.1,I z.1.q],AV.bool (qb z.1==s)]) []))
 | .h18 s i b z=>
  let h:=zL 0 (X s)
  let a:=(↑(Y s (Z 0) 0).toNat:Int)
  let c:=Γ Δ (i+1)
  let x:=(↑(Y s i.toNat 0).toNat:Int)
  let g:=T (x<48)
  let j:=T (x>57)
  let k:=T (z.1.2.1< -922337203685477580)
  let m:=z.1.2.1==-922337203685477580
  let n:=Γ Δ (0-z.1.2.1)
  let o:=(z.1.1,n,z.1.q)
  br (T (i<(X s:Int)))
  (K (cond (i==0) h O) (br (cond (i==0) (a==45) S) (Q9 (qx.h18 s c b z)) (K (zL i (X s)&&bif g then O else zL i (X s)&&bif j then O else bif k then O else bif m then zL i (X s)else O)
  (br (cond g O (cond j O (cond k O (cond m (T (x>56)) S)))) (re (Qe [Qd [L 0,L 0,I []],kb S]) []) (K (zL i (X s)) (Q9 (qx.h18 s c b ((z.1.1,Γ Δ (Γ Δ (Γ Δ (10*z.1.2.1)-Γ Δ x)+48),z.1.q),()))))))))
  (K (cond (s==[]) O h) (br (cond (s==[]) O (a !=45)) (br (z.1.2.1==-9223372036854775808) (re (Qe [Qd [L 0,L 0,I []],kb S]) []) (K (lI o) (re (Qe [Qd [L z.1.1,L n,I z.1.q],AV.bool (qb o==s)]) []))) (K (lI z.1)
  (re (Qe [Qd [L z.1.1,L z.1.2.1,I z.1.q],AV.bool (qb z.1==s)]) []))))
def FL(x:J Q6):=ap [R,Q7] zvK 100000000 (zs2 x)
def OU(x:J Q6):=(FL x).isSome
def xx(x:J Q6):=o2 (FL x)
def zhg:=FT [Q6] [R,Q7] λx=>FL x.1
theorem zdf:FK 278 zhg:=pH.T1 (f:=Tryz.f278) (keep:=znp) (e:=zsn)
def zii:=QG.addL [(242,zhc),(278,zhg)]
theorem II:zw zii:=pH.addL<|fc zdb<|fc zdf<|jg
abbrev zno:=kS [(1,[0,1,4])]
inductive HM where
 |h1 (s0:J Q6) (s1:J Q6) (z0:zp [CP.d R])
abbrev zsm:HM->Nat×St
 |.h1 s h z=>(1,⟨tm 25 [(0,I s),(1,I h),(4,Qf 0 0)],[Qa (bL [] [CP.d R] z)]⟩)
def zs1(x h:J Q6):Tr (HM⊕aw):=
 Q9 (HM.h1 x h ((0,0,[]),()))
def zvJ:HM->Tr (HM⊕aw)
 | .h1 h s z=>
  let a:=T ((X s:Int)>0)
  K (cond a (zL 0 (X s)) O)
  (br (cond a ((↑(Y s (Z 0) 0).toNat:Int)==48) S) (K (T (0<=1)&&T (1<=(X s:Int))&&T ((X s:Int)<=(X s:Int))) (Q9 (HM.h1 h (Qg ((X s:Int).toNat-Z 1) (Qh (Z 1) s)) z)))
  (br (s==[]) (re (Qe [Qd [L 1,L 0,I []],kb O]) []) (K (T (X h+X s<=1099511627776)) (K (OU (h++s)) (re (Qe [Qd [L (xx (h++s)).1.1,L (xx (h++s)).1.2.1,I (xx (h++s)).1.q],AV.bool (xx (h++s)).2]) [])))))
def RX(x h:J Q6):=ap [R,Q7] zvJ 100000000 (zs1 x h)
def zbd(x h:J Q6):=(RX x h).isSome
def zjb(x h:J Q6):=o2 (RX x h)
def zhf:=FT [Q6,Q6] [R,Q7] λx=>RX x.1 x.2.1
theorem zde:FK 277 zhf:=II.T1 (f:=Tryz.f277) (keep:=zno) (e:=zsm)
def zij:=zii.add 277 zhf
theorem IJ:zw zij:=II.add zde
def zsZ(x:J zG.sl)(h:zy):Tr (Empty⊕aw):=
 let b:=Γ Δ (h+1)
 let i:=T (b>=(X x:Int))
 let j:=zL b (X x)
 let e:=Y x b.toNat (Q zG)
 let c:=zjb [45] e.2
 let a:=Y x (Z h) (Q zG)
 let d:=zjb [] a.2
 let k:=xM x h Kc
 let l:=xM x h Kb
 let g:=xx a.2
 br (T (h>=(X x:Int)))
 (re (Qe [Qd zE,L (-1)]) [])
 (K (zL h (X x))
  (K (nF x h [45]) (br (xM x h [45]) (K (cond i O j) (br (cond i O (e.1!=2)) (re (Qe [Qd zE,L (-1)]) []) (K j (K (zbd [45] e.2) (br (!c.2)
  (re (Qe [Qd zE,L (-1)]) []) (re (Qe [Qd [I pC,L c.1.1,L c.1.2.1,I c.1.q,I [],Qb],L (Γ Δ (h+2))]) [])))))) (br (a.1==2) (K (zbd [] a.2) (br (!d.2)
  (re (Qe [Qd zE,L (-1)]) []) (re (Qe [Qd [I pC,L d.1.1,L d.1.2.1,I d.1.q,I [],Qb],L b]) []))) (br (a.1==3) (re
  (Qe [Qd [I pC,L 2,L 0,I a.2,I [],Qb],L b]) []) (K (nF x h [40]) (br (xM x h [40]) Tr.err (K (nF x h Kc&&bif k then O else nF x h Kb&&bif l then O else nF x h He)
  (br (cond k O (cond l O (xM x h He))) (K (OU a.2) (re (Qe [Qd [I pC,L g.1.1,L g.1.2.1,I g.1.q,I [],Qb],L b]) [])) (br (a.1==1) (re (Qe [Qd [I fk,L 0,L 0,I [],I a.2,Qb],
  L b]) []) (re (Qe [Qd zE,L (-1)]) [])))))))))))
def LA(x:J zG.sl)(h:zy):=ap [Q5,zk] t0 100000000 (zsZ x h)
def zfs(x:J zG.sl)(h:zy):=(LA x h).isSome
def zbb(x:J zG.sl)(h:zy):=o2 (LA x h)
def zhb:=FT [zG.sl,zk] [Q5,zk] λx=>LA x.1 x.2.1
theorem zda:FK 241 zhb:=IJ.T1 (f:=Tryz.f241) (keep:=k0) (e:=e0)
def Tc:=zij.add 241 zhb
theorem IK:zw Tc:=IJ.add zda
def Yo(g:J zG.sl->zy->zy->J Q5×zy)(c:J zG.sl->zy->zy->Bool):cu:=Tc.add 195 (ac [zG.sl,zk,zk] [Q5,zk] (λx=>c x.1 x.2.1 x.q.1) λx=>((g x.1 x.2.1 x.q.1).1,(g x.1 x.2.1 x.q.1).2,()))
theorem QC{g:J zG.sl->zy->zy->J Q5×zy}{c:J zG.sl->zy->zy->Bool}(h:FK 195 (ac [zG.sl,zk,zk] [Q5,zk] (λx=>c x.1 x.2.1 x.q.1) λx=>((g x.1 x.2.1 x.q.1).1,(g x.1 x.2.1 x.q.1).2,()))):zw (Yo g c):=IK.add h
abbrev znk:=kS [(22,[0,2,6,15,16])]
inductive oq where
 |h22 (l0:dK) (i2:zy) (i16:zy) (z1:zp [CP.d Q5]) (ja0:List UInt8) (ja1:Int) (ja2:Int) (ja3:List UInt8) (ja4:List UInt8)
abbrev zsj:oq->Nat×St
 |.h22 l c i z j h x a b=>(22,⟨tm 157 [(0,N zG l),(2,L c),(6,Qf 0 0),(15,Qf 1 0),(16,L i)],[Qa [I j,L h,L x,I a,I b,Qb],Qa (bL [] [CP.d Q5] z)]⟩)
def ziM(g:J zG.sl->zy->zy->J Q5×zy)(c:J zG.sl->zy->zy->Bool)(x:J zG.sl)(h d:zy):Tr (oq⊕aw):=
 let e:=Γ Δ (h+1)
 let i:=g x e 2
 let a:=g x h 3
 let j:=xM x a.2 [61]
 let b:=Γ Δ (a.2+1)
 let o:=Y x (Z a.2) (Q zG)
 let k:=zt a.1
 let l:=g x b 3
 let m:=Γ Δ (d+1)
 let n:=g x h m
 br (T (h<0))
 (re (Qe [Qd zE,L (-1)]) [])
 (br (d==4)
  (K (zfs x h) (re (Qe [Qd (xE (zbb x h).1),L (zbb x h).2]) []))
  (br (d==2) (K (nF x h [78,79,84]) (br (xM x h [78,79,84]) (K (c x e 2) (re (Qe [Qd [I oC,L 0,L 0,I [],I [],N Q5 [zt i.1]],L i.2]) [])) (K (c x h 3) (br (T (a.2<0))
  (re (Qe [Qd zE,L (-1)]) []) (K (nF x a.2 [61]&&bif j then O else nF x a.2 [60]) (br (cond j O (xM x a.2 [60])) (K (zL a.2 (X x)) (K (c x b 3) (re (Qe
  [Qd [I o.2,L 0,L 0,I [],I [],N Q5 [k,zt l.1]],L l.2]) []))) (K (nF x a.2 [73,83]) (br (xM x a.2 [73,83]) (K (nF x b He) (br (!xM x b He) (re (Qe [Qd zE,L (-1)]) [])
  (re (Qe [Qd [I qE,L 0,L 0,I [],I [],N Q5 [k]],L (Γ Δ (a.2+2))]) []))) (re (Qe [Qd (xE a.1),L a.2])
  []))))))))) (K (c x h m) (Q9 (oq.h22 x d n.2 (n.1,()) [] 0 0 [] [])))))
def zjf(g:J zG.sl->zy->zy->J Q5×zy)(c:J zG.sl->zy->zy->Bool):oq->Tr (oq⊕aw)
 | .h22 l e i z j h x b d=>
  let q:=bif e==1 then nF l i XU else O
  let s:=bif e==1 then xM l i XU else S
  let t:=xM l i [43]
  let o:=bif e==3 then nF l i [43]&&bif t then O else nF l i [45]else O
  let p:=bif e==3 then bif t then O else xM l i [45]else S
  let m:=l.getD (Z i) (Q zG)
  let u:=Γ Δ (i+1)
  let v:=Γ Δ (e+1)
  let n:=c l u v
  let k:=g l u v
  let a:=[zt z.1,zt k.1]
  br (T (i>=0))
  (K (cond (e==0) (nF l i [79,82]) O) (br (cond (e==0) (xM l i [79,82]) S) (K q (br s (K o (br p (K (zL i (X l)) (br (m.2==[]) (re (Qe [Qd (xE z.1),L i]) []) (K n (Q9 (oq.h22 l e k.2 (zg.mk m.2 (0,0,[]) [] a,()) j h x b d))))) (br S (re (Qe [Qd (xE z.1),L i]) []) (K n (Q9 (oq.h22 l e k.2 (zg.mk jf (0,0,[]) [] a,()) j h x b d)))))) (K o (br p (K (zL i (X l)) (br (m.2==[]) (re (Qe [Qd (xE z.1),L i]) []) (K n (Q9 (oq.h22 l e k.2 (zg.mk m.2 (0,0,[]) [] a,()) j h x b d))))) (br S (re (Qe [Qd (xE z.1),L i]) []) (K n (Q9 (oq.h22 l e k.2 (zg.mk wA (0,0,[]) [] a,()) j h x b d)))))))) (K q (br s (K o (br p (K (zL i (X l))
  (br (m.2==[]) (re (Qe [Qd (xE z.1),L i]) []) (K n (Q9 (oq.h22 l e k.2 (zg.mk m.2 (0,0,[]) [] a,()) j h x b d))))) (br S (re (Qe [Qd (xE z.1),L i]) []) (K n (Q9 (oq.h22 l e k.2 (zg.mk jf (0,0,[]) [] a,()) j h x b d)))))) (K o (br p (K (zL i (X l)) (br (m.2==[]) (re
  (Qe [Qd (xE z.1),L i]) []) (K n (Q9 (oq.h22 l e k.2 (zg.mk m.2 (0,0,[]) [] a,()) j h x b d))))) (br O (re (Qe [Qd (xE z.1),L i]) []) (K n (Q9 (oq.h22 l e k.2 (zg.mk [] (0,0,[]) [] a,()) j h x b d))))))))))
  (re (Qe [Qd (xE z.1),L i]) [])
def mH(o:Option (zF (Qi M [Q5,zk]))):J Q5×zy:=(λr:zF (Qi M [Q5,zk])=>(r.1,r.2.1)) (o.getD (cJ [Q5,zk]))
def zbe(g:J zG.sl->zy->zy->J Q5×zy)(c:J zG.sl->zy->zy->Bool)(x:J zG.sl)(h a:zy):Option (zF (Qi M [Q5,zk])):=ap [Q5,zk] (zjf g c) 100000000 (ziM g c x h a)
def fS:Nat->J zG.sl->zy->zy->Option (zF (Qi M [Q5,zk]))
 |0=>λ_ _ _=>none
 |n+1=>zbe (λx h a=>mH (fS n x h a)) λx h a=>(fS n x h a).isSome
theorem ZH:zY Tc.P 195 Tryz.f195 3:=cK kw
theorem MH:∀n,FK 195 (ac [zG.sl,zk,zk] [Q5,zk] (λx=>(fS n x.1 x.2.1 x.q.1).isSome) λx=>((mH (fS n x.1 x.2.1 x.q.1)).1,(mH (fS n x.1 x.2.1 x.q.1)).2,()))
 |0=>ff ⟨Tryz.f195,ZH.1,ZH.2.1,ZH.q.1⟩ (λ_=>rfl)
 |n+1=>(QC (MH n)).TT (f:=Tryz.f195) (E:=Yo (λh a b=>mH (fS n h a b)) (λh a b=>(fS n h a b).isSome)) (ks:=[zG.sl,zk,zk]) (outs:=[Q5,zk]) (keep:=znk) (n:=100000000) (e:=zsj) (t:=zjf (λh a b=>mH (fS n h a b)) (λh a b=>(fS n h a b).isSome)) (i:=λx=>ziM (λh a b=>mH (fS n h a b)) (λh a b=>(fS n h a b).isSome) x.1 x.2.1 x.q.1)
def Pf(x:J zG.sl)(h a:zy):Option (zF (Qi M [Q5,zk])):=fS 16 x h a
def Pe(x:J zG.sl)(h a:zy):Bool:=(Pf x h a).isSome
def LD(x:J zG.sl)(h a:zy):J Q5×zy:=mH (Pf x h a)
def zg3:ag:=ac [zG.sl,zk,zk] [Q5,zk] (λx=>Pe x.1 x.2.1 x.q.1) λx=>((LD x.1 x.2.1 x.q.1).1,(LD x.1 x.2.1 x.q.1).2,())
theorem zc3:FK 195 zg3:=MH 16
def zik:=Tc.add 195 zg3
theorem IL:zw zik:=IK.add zc3
def zsV(b:J zG.sl):Tr (Empty⊕aw):=
 let a:=LD b 0 0
 let h:=T (a.2<0)
 let x:=zt a.1
 K (Pe b 0 0)
 (K (cond h O (vW x))
  (br (cond h O (!FO x)) (re (Qe [Qd [I [],L 0,L 0,I [],I [],Qb],L 0,kb S]) []) (re (Qe [Qd [I (zg.op a.1),L (zg.v a.1).1,L (zg.v a.1).2.1,I (zg.v a.1).q,I (zg.s a.1),N Q5 (zg.l a.1)],L a.2,kb O])
  [])))
def F6(x:J zG.sl):=ap [Q5,zk,Q7] t0 100000000 (zsV x)
def zba(x:J zG.sl):=(F6 x).isSome
def zfr(x:J zG.sl):=o3 (F6 x)
def zgS:=FT [zG.sl] [Q5,zk,Q7] λx=>F6 x.1
theorem zcT:FK 136 zgS:=IL.T1 (f:=Tryz.f136) (keep:=k0) (e:=e0)
def zil:=zik.add 136 zgS
theorem IM:zw zil:=IL.add zcT
abbrev zul:=kS []
def ztk(y:zp bb):Tr (Empty⊕aw):=
 let h:=Qg ((X y.1:Int).toNat-Z y.2.1) (Qh (Z y.2.1) y.1)
 let a:=zfr h
 let x:=Γ Δ (y.2.1+a.2.1)
 K (T (0<=y.2.1)&&T (y.2.1<=(X y.1:Int))&&T ((X y.1:Int)<=(X y.1:Int)))
 (K (zba h)
  (br (!a.q) (re (Qd [I (zg.op a.1),L (zg.v a.1).1,L (zg.v a.1).2.1,I (zg.v a.1).q,I (zg.s a.1),N Q5 (zg.l a.1)]) [Qa [N zG y.1,L x,kb S]]) (re (Qd [I (zg.op a.1),L (zg.v a.1).1,L (zg.v a.1).2.1,I (zg.v a.1).q,
  I (zg.s a.1),N Q5 (zg.l a.1)]) (ba bb (y.1,x,y.q)))))
def Ul(y:zp bb):Option (zF (Qi M [Q5])×zp bb):=kJ [Q5] bb t0 100000000 (ztk y)
def LN(y:zp bb):Bool:=(Ul y).isSome
def LM(y:zp bb):(J Q5)×zp bb:=(λr:zF (Qi M [Q5])×zp bb=>(r.1.1,r.2)) ((Ul y).getD (cJ [Q5],gj bb))
def zqx:ag:=rq bb [] [Q5] bb (λy _=>LN y) λy _=>(((LM y).1,()),(LM y).2)
theorem zlm:FK 73 zqx:=IM.B1 (f:=Tryz.f73) (ps:=bb) (ks:=[]) (outs:=[Q5]) (keep:=zul) (n:=100000000) (e:=e0) (t:=t0) (i:=λy x=>ztk y)
def zst:=zil.add 73 zqx
theorem Am:zw zst:=IM.add zlm
abbrev znd:=kS [(6,[1,3])]
inductive HJ where
 |h6 (i3:Int) (z0:zp [CP.d zG])
abbrev zsf:HJ->Nat×St
 |.h6 i z=>(6,⟨tm 82 [(1,Qf 0 0),(3,L i)],[Qa (bL [] [CP.d zG] z)]⟩)
def N2(x:cy):Tr (HJ⊕aw):=
 let a:=(2,0,x.2)
 br (x.1==1) (K (xI x.2) (re (AV.bool (vY x.2)) []))
 (br (x.1==2) (Q9 (HJ.h6 0 (x,())))
  (br (x.1==3) (K (nV a) (re (AV.bool (uS a)) [])) (br (x.1==4) (re (AV.bool (cond (x.2==[40]) O (cond (x.2==[41]) O (cond (x.2==[44]) O (cond (x.2==[61]) O (cond (x.2==[60]) O (cond (x.2==[43]) O (cond (x.2==[45]) O (x.2==[42]))))))))) []) (re (kb S) []))))
def yj:HJ->Tr (HJ⊕aw)
 | .h6 i z=>
  let a:=(X z.1.2:Int)
  let h:=(↑(Y z.1.2 i.toNat 0).toNat:Int)
  br (T (i<a))
  (K (zL i (X z.1.2))
   (K (kM h) (br (!lJ h) (re (kb S) []) (Q9 (HJ.h6 (Γ Δ (i+1)) z)))))
  (re (AV.bool (cond (T (1<=a)) (T (a<=19)) S)) [])
def Ly(x:cy):=ap [Q7] yj 100000000 (N2 x)
def nW(x:cy):=(Ly x).isSome
def uT(x:cy):=o1 (Ly x)
def zgK:=FT [zG] [Q7] λx=>Ly x.1
theorem zcL:FK 134 zgK:=Am.T1 (f:=Tryz.f134) (keep:=znd) (e:=zsf)
abbrev zm0:=kS []
def zix(y:zp bb)(d:TS):Tr (Empty⊕aw):=
 let e:=(y.1,y.2.1,y.q.1,())
 let x:=f7 e d
 let b:=(x.2.1,x.q.1,x.r.1,())
 let h:=LM b
 let c:=cg b [40]
 let g:=(c.1,c.2.1,c.q.1,())
 let a:=LM g
 let i:=(a.2.1,a.q.1,a.r.1,())
 K (eO e d)
 (br (!x.1) (re (Qd [I [],L 0,L 0,I [],I [],Qb]) (ba bb x.2))
  (br (d==mV) (K (LN b) (re (Qd [I (zg.op h.1),L (zg.v h.1).1,L (zg.v h.1).2.1,I (zg.v h.1).q,I (zg.s h.1),N Q5 (zg.l h.1)]) (ba bb h.2))) (K (bt b [40]) (K (LN g) (K (bt i [41]) (re (Qd
  [I (zg.op a.1),L (zg.v a.1).1,L (zg.v a.1).2.1,I (zg.v a.1).q,I (zg.s a.1),N Q5 (zg.l a.1)]) (ba bb (cg i [41]))))))))
def Uk(y:zp bb)(x:TS):Option (zF (Qi M [Q5])×zp bb):=kJ [Q5] bb t0 100000000 (zix y x)
def eG(y:zp bb)(x:TS):Bool:=(Uk y x).isSome
def fK(y:zp bb)(x:TS):(J Q5)×zp bb:=(λr:zF (Qi M [Q5])×zp bb=>(r.1.1,r.2)) ((Uk y x).getD (cJ [Q5],gj bb))
def zgn:ag:=rq bb [Q6] [Q5] bb (λy x=>eG y x.1) λy x=>(((fK y x.1).1,()),(fK y x.1).2)
theorem zco:FK 74 zgn:=Am.B1 (f:=Tryz.f74) (ps:=bb) (ks:=[Q6]) (outs:=[Q5]) (keep:=zm0) (n:=100000000) (e:=e0) (t:=t0) (i:=λy x=>zix y x.1)
def ztg(x:TS):Tr (Empty⊕aw):=
 K (xI x&&bif vY x then F8 x else O) (re (AV.bool (cond (vY x) (!Pa x) S)) [])
def xN(x:TS):=ap [Q7] t0 100000000 (ztg x)
def eF(x:TS):=(xN x).isSome
def cf(x:TS):=o1 (xN x)
def zqf:=FT [Q6] [Q7] λx=>xN x.1
theorem zk3:FK 124 zqf:=Am.T1 (f:=Tryz.f124) (keep:=k0) (e:=e0)
def zhY:=QG.addL [(134,zgK),(74,zgn),(124,zqf)]
theorem sQ:zw zhY:=pH.addL<|fc zcL<|fc zco<|fc zk3 jg
abbrev zt2:Nat->aX:=λj=>if j=3 then{slots:=[0,4,5],prom:=[(4,none,zG)]}else if j=11 then{slots:=[0,4,5,6,7,8]}else if j=15 then{slots:=[0,4,5,6,7,8]}else if j=20 then{slots:=[0,4,5,8]}else{ }
inductive kz where
 |h3 (s0:TS) (i5:Int) (lh_0:LF)
 |h11 (s0:TS) (i5:Int) (i6:Int) (i7:Int) (z1:zp [CP.d zG]) (lh_0:LF)
 |h15 (s0:TS) (i5:Int) (i6:Int) (i7:Int) (z1:zp [CP.d zG]) (lh_0:LF)
 |h20 (s0:TS) (i5:Int) (z1:zp [CP.d zG]) (lh_0:LF)
abbrev zwS:kz->Nat×St
 |.h3 s i l=>(3,⟨tm 131 [(0,I s),(4,AV.vec 0),(5,L i)],[AO.vec zG l]⟩)
 |.h11 s i h x z l=>(11,⟨tm 131 [(0,I s),(4,AV.vec 0),(5,L i),(6,AV.int IntKind.u8 h),(7,L x),(8,Qf 1 0)],[AO.vec zG l,Qa (bL [] [CP.d zG] z)]⟩)
 |.h15 s i h x z l=>(15,⟨tm 131 [(0,I s),(4,AV.vec 0),(5,L i),(6,AV.int IntKind.u8 h),(7,L x),(8,Qf 1 0)],[AO.vec zG l,Qa (bL [] [CP.d zG] z)]⟩)
 |.h20 s i z l=>(20,⟨tm 131 [(0,I s),(4,AV.vec 0),(5,L i),(8,Qf 1 0)],[AO.vec zG l,Qa (bL [] [CP.d zG] z)]⟩)
def zyb(x:TS):Tr (kz⊕aw):=
 Q9 (kz.h3 x 0 [])
def iF:kz->Tr (kz⊕aw)
 | .h3 s i l=>
  let h:=(↑(Y s i.toNat 0).toNat:Int)
  let x:=Γ Δ (i+1)
  let b:=Qg (x.toNat-i.toNat) (Qh i.toNat s)
  let a:=((4,b),())
  let d:=(4,b)
  let g:=[d]
  br (T (i<(X s:Int)))
  (K (zL i (X s)) (br (cond (h==32) O (h==10)) (Q9 (kz.h3 s x l)) (K (T (0<=i)&&T (i<=x)&&T (x<=(X s:Int))) (K (pb h) (br (sf h) (Q9 (kz.h11 s x h i a l)) (K (kM h) (br (lJ h) (Q9 (kz.h15 s x h i a l))
  (br (h==39) (Q9 (kz.h20 s x ((3,[]),()) l)) (K (nW d) (br (!uT d) (re (Qe [Qb,kb S]) []) (K (T (X l+X g<=1073741824)) (Q9 (kz.h3 s x (l++g))))))))))))))
  (re (Qe [AV.vec 0,AV.bool (T ((X l:Int)<=400))]) [AO.vec zG l])
 | .h11 s i e c z l=>
  let h:=T (i<(X s:Int))
  let x:=(↑(Y s i.toNat 0).toNat:Int)
  let b:=Qg (i.toNat-c.toNat) (Qh c.toNat s)
  let a:=(1,b)
  let d:=[a]
  K (cond h (zL i (X s)&&xK x) O)
  (br (cond h (F4 x) S) (Q9 (kz.h11 s (Γ Δ (i+1)) e c z l)) (K (T (0<=c)&&T (c<=i)&&T (i<=(X s:Int))) (K (kM e) (br (lJ e) (Q9 (kz.h15 s i e c ((1,b),()) l)) (br (e==39) (Q9 (kz.h20 s i ((3,[]),()) l)) (K (nW a)
  (br (!uT a) (re (Qe [Qb,kb S]) []) (K (T (X l+X d<=1073741824)) (Q9 (kz.h3 s i (l++d)))))))))))
 | .h15 s i e c z l=>
  let h:=T (i<(X s:Int))
  let x:=(↑(Y s i.toNat 0).toNat:Int)
  let b:=(2,Qg (i.toNat-c.toNat) (Qh c.toNat s))
  let a:=[b]
  K (cond h (zL i (X s)&&kM x) O)
  (br (cond h (lJ x) S) (Q9 (kz.h15 s (Γ Δ (i+1)) e c z l)) (K (T (0<=c)&&T (c<=i)&&T (i<=(X s:Int))) (br (e==39) (Q9 (kz.h20 s i ((3,[]),()) l)) (K (nW b) (br (!uT b) (re (Qe [Qb,kb S]) [])
  (K (T (X l+X a<=1073741824)) (Q9 (kz.h3 s i (l++a)))))))))
 | .h20 s i z l=>
  let h:=T (i<(X s:Int))
  let x:=(↑(Y s i.toNat 0).toNat:Int)
  let b:=x !=39
  let a:=Γ Δ (i+1)
  let d:=T (a<(X s:Int))
  let g:=Qg (a.toNat-i.toNat) (Qh i.toNat s)
  let j:=((z.1.1,z.1.2++g),())
  K (cond h (zL i (X s)&&bif b then O else bif d then zL a (X s)else O) O)
  (br (cond h (cond b O (cond d ((↑(Y s a.toNat 0).toNat:Int)==39) S)) S) (K (T (0<=i)&&T (i<=a)&&T (a<=(X s:Int))) (K (T (X z.1.2+X g<=1099511627776))
  (K (zL i (X s)) (br (x==39) (Q9 (kz.h20 s (Γ Δ (a+1)) j l)) (Q9 (kz.h20 s a j l)))))) (br (T (i>=(X s:Int))) (re (Qe [Qb,kb S]) []) (K (nW z.1) (br (!uT z.1) (re (Qe [Qb,kb S]) [])
  (K (T (X l+[z.1].length<=1073741824)) (Q9 (kz.h3 s a (l++[z.1]))))))))
def Lw(x:TS):=ap [zG.sl,Q7] iF 100000000 (zyb x)
def Lv(x:TS):=(Lw x).isSome
def BV(x:TS):=o2 (Lw x)
def zp5:=FT [Q6] [zG.sl,Q7] λx=>Lw x.1
theorem zkU:FK 67 zp5:=sQ.T1 (f:=Tryz.f67) (keep:=zt2) (e:=zwS)
def N0(x:J Q5)(h:TS):Tr (Empty⊕aw):=
 let a:=h++zdL
 let b:=a++r7 (zt x)
 br (zg.op x==[])
 (K (gV (zt x) (zg.mk [] (0,0,[]) [] [])) (re (Qe [I [],AV.bool (fJ (zt x) (zg.mk [] (0,0,[]) [] []))]) []))
 (K (vW (zt x))
  (br (!FO (zt x)) (re (Qe [I [],kb S]) []) (br (h==mV) (K (tF (zt x)) (K (T (X zdO+X (r7 (zt x))<=1099511627776)) (re (Qe [I (zdO++r7 (zt x)),kb O]) [])))
  (K (T (X h+X zdL<=1099511627776)) (K (tF (zt x)) (K (T (X a+X (r7 (zt x))<=1099511627776)) (K (T (X b+X jm<=1099511627776)) (re (Qe [I (b++jm),kb O]) []))))))))
def Db(x:J Q5)(h:TS):=ap [Q6,Q7] t0 100000000 (N0 x h)
def qn(x:J Q5)(h:TS):=(Db x h).isSome
def wa(x:J Q5)(h:TS):=o2 (Db x h)
def zgx:=FT [Q5,Q6] [Q6,Q7] λx=>Db x.1 x.2.1
theorem zcy:FK 186 zgx:=sQ.T1 (f:=Tryz.f186) (keep:=k0) (e:=e0)
abbrev zm9:=kS [(3,[0,4,5])]
inductive Dw where
 |h3 (l0:LS) (s4:List UInt8) (i5:Int)
abbrev zsc:Dw->Nat×St
 |.h3 l s i=>(3,⟨tm 37 [(0,N Q6 l),(4,I s),(5,L i)],[]⟩)
def zsS(x:J Sh.str.sl):Tr (Dw⊕aw):=
 Q9 (Dw.h3 x [] 0)
def GH:Dw->Tr (Dw⊕aw)
 | .h3 l s i=>
  let a:=l.getD i.toNat (Q Q6)
  let h:=s++fP
  let x:=Γ Δ (i+1)
  let b:=T (1<=(X l:Int))
  br (T (i<(X l:Int)))
  (K (zL i (X l))
   (K (eF a) (br (!cf a) (re (Qe [I [],kb S]) []) (br (T (i>0)) (K (T (X s+X fP<=1099511627776)) (K (zL i (X l)) (K (T (X h+X a<=1099511627776)) (Q9 (Dw.h3 l (h++a) x)))))
   (K (zL i (X l)) (K (T (X s+X a<=1099511627776)) (Q9 (Dw.h3 l (s++a) x))))))))
  (re (Qe [I (cond b s s),AV.bool (cond b (T ((X l:Int)<=8)) S)]) [])
def xO(x:J Sh.str.sl):=ap [Q6,Q7] GH 100000000 (zsS x)
def Gb(x:J Sh.str.sl):=(xO x).isSome
def LG(x:J Sh.str.sl):=o2 (xO x)
def zgB:=FT [Sh.str.sl] [Q6,Q7] λx=>xO x.1
theorem zcC:FK 190 zgB:=sQ.T1 (f:=Tryz.f190) (keep:=zm9) (e:=zsc)
def zhZ:=zhY.addL [(67,zp5),(186,zgx),(190,zgB)]
theorem oJ:zw zhZ:=sQ.addL<|fc zkU<|fc zcy<|fc zcC jg
abbrev zm6:=kS [(4,[1,4,5,6]),(15,[1,4,5,8]),(20,[1,4,5,9])]
inductive qX where
 |h4 (b4:Bool) (s5:zJ) (i6:Int) (z0:zp [CP.d ay])
 |h15 (b4:Bool) (s5:zJ) (i8:Int) (z0:zp [CP.d ay])
 |h20 (b4:Bool) (s5:zJ) (i9:Int) (z0:zp [CP.d ay])
abbrev zsa:qX->Nat×St
 |.h4 b s i z=>(4,⟨tm 174 [(1,Qf 0 0),(4,AV.bool b),(5,I s),(6,L i)],[Qa (bL [] [CP.d ay] z)]⟩)
 |.h15 b s h z=>(15,⟨tm 174 [(1,Qf 0 0),(4,AV.bool b),(5,I s),(8,L h)],[Qa (bL [] [CP.d ay] z)]⟩)
 |.h20 b s x z=>(20,⟨tm 174 [(1,Qf 0 0),(4,AV.bool b),(5,I s),(9,L x)],[Qa (bL [] [CP.d ay] z)]⟩)
def Zk(x:zO):Tr (qX⊕aw):=
 let a:=zdP++x.2.1
 let h:=(X x.t.1:Int)
 let b:=(X x.v.1:Int)
 let c:=(X x.w.1:Int)
 K (eF x.u.1)
 (K (T (X zdP+X x.2.1<=1099511627776))
  (K (T (X a+X Cb<=1099511627776)) (Q9 (qX.h4 (cond (cf x.u.1) (cond (T (1<=h)) (cond (T (h<=8)) (cond (T (b<=8)) (T (c<=8)) S) S) S) S) (a++Cb) 0 (x,())))))
def gv:qX->Tr (qX⊕aw)
 | .h4 b s n z=>
  let i:=(X z.1.t.1:Int)
  let a:=Y z.1.t.1 n.toNat (Q zn)
  let h:=a.1++[32]
  let c:=[[],DP,DQ,DO].getD (Z a.2.1) (Q Q6)
  let d:=h++c
  let e:=s++d
  let k:=e++zlQ
  let l:=Γ Δ (n+1)
  let g:=zlT++z.1.u.1
  let m:=g++jm
  br (T (n<i))
  (K (zL n (X z.1.t.1))
   (K (eF a.1) (br (cond (!cf a.1) O (cond (T (a.2.1<1)) O (T (a.2.1>3)))) (re (Qe [I [],kb S]) []) (K (T (X a.1+[32].length<=1099511627776)) (K (zL a.2.1 [[],DP,DQ,DO].length) (K (T (X h+X c<=1099511627776))
   (K (T (X s+X d<=1099511627776)) (br a.q (K (T (X e+X zlQ<=1099511627776)) (K (T (X k+X fP<=1099511627776)) (Q9 (qX.h4 b (k++fP) l z))))
   (K (T (X e+X fP<=1099511627776)) (Q9 (qX.h4 b (e++fP) l z)))))))))))
  (K (T (X zlT+X z.1.u.1<=1099511627776))
   (K (T (X g+X jm<=1099511627776)) (K (T (X s+X m<=1099511627776)) (Q9 (qX.h15 b (s++m) 0 z)))))
 | .h15 b s o z=>
  let i:=(X z.1.v.1:Int)
  let a:=zL o (X z.1.v.1)
  let h:=Y z.1.v.1 o.toNat (Q Q6)
  let c:=zlO++h
  let d:=c++jm
  br (T (o<i))
  (K (cond b (a&&eF h) O)
   (K a (K (T (X zlO+X h<=1099511627776)) (K (T (X c+X jm<=1099511627776)) (K (T (X s+X d<=1099511627776)) (Q9 (qX.h15 (cond b (cf h) S) (s++d) (Γ Δ (o+1)) z)))))))
  (Q9 (qX.h20 b s 0 z))
 | .h20 b s p z=>
  let i:=(X z.1.w.1:Int)
  let a:=zL p (X z.1.w.1)
  let h:=Y z.1.w.1 p.toNat (Q jM)
  let c:=cf h.1
  let d:=zlN++h.1
  let e:=d++zlM
  let k:=e++h.2
  let l:=zt z.1.x.1
  let g:=wa l [32,44]
  let m:=s++g.1
  let j:=m++jm
  br (T (p<i))
  (K (cond b (a&&(eF h.1&&bif c then a&&eF h.2 else O)) O)
   (K a (K (T (X zlN+X h.1<=1099511627776)) (K (T (X d+X zlM<=1099511627776)) (K a (K (T (X e+X h.2<=1099511627776)) (K (T (X s+X k<=1099511627776))
   (Q9 (qX.h20 (cond b (cond c (cf h.2) S) S) (s++k) (Γ Δ (p+1)) z)))))))))
  (K (qn l [32,44])
   (K (T (X s+X g.1<=1099511627776)&&T (X m+X jm<=1099511627776)) (re (Qe [I (cond b j j),AV.bool (cond b g.2 S)]) [])))
def oZ(x:zO):=ap [Q6,Q7] gv 100000000 (Zk x)
def tK(x:zO):=(oZ x).isSome
def r8(x:zO):=o2 (oZ x)
def zgy:=FT [ay] [Q6,Q7] λx=>oZ x.1
theorem zcz:FK 187 zgy:=oJ.T1 (f:=Tryz.f187) (keep:=zm6) (e:=zsa)
abbrev ztL:=kS [(2,[0,1,5]),(5,[0,1,5,6])]
inductive ML where
 |h2 (l0:zS) (l1:List (J Q6)) (i5:Int)
 |h5 (l0:zS) (l1:List (J Q6)) (i5:Int) (i6:Int)
abbrev zwF:ML->Nat×St
 |.h2 l h i=>(2,⟨tm 47 [(0,N zl l),(1,N Q6 h),(5,L i)],[]⟩)
 |.h5 l h i x=>(5,⟨tm 47 [(0,N zl l),(1,N Q6 h),(5,L i),(6,L x)],[]⟩)
def zx7(x:J zl.sl)(h:J Sh.str.sl):Tr (ML⊕aw):=
 Q9 (ML.h2 x h 0)
def sy:ML->Tr (ML⊕aw)
 | .h2 l h i=>
  br (T (i<(X l:Int))) (Q9 (ML.h5 l h i 0)) (re (kb S) [])
 | .h5 l h i x=>
  let a:=l.getD i.toNat (Q zl)
  let d:=(X a.1.t.1:Int)
  let b:=!Pd h a.1.1
  let c:=Y a.1.t.1 x.toNat (Q zG)
  K (zL i (X l))
  (br (T (x<d))
   (K (zL i (X l)&&(BX h a.1.1&&bif b then zL i (X l)&&(zL x (X a.1.t.1)&&BX h c.2)else O)) (br (cond b (Pd h c.2) S) (re (kb O) []) (Q9 (ML.h5 l h i (Γ Δ (x+1))))))
   (Q9 (ML.h2 l h (Γ Δ (i+1)))))
def p6(x:J zl.sl)(h:J Sh.str.sl):=ap [Q7] sy 100000000 (zx7 x h)
def vU(x:J zl.sl)(h:J Sh.str.sl):=(p6 x h).isSome
def AP(x:J zl.sl)(h:J Sh.str.sl):=o1 (p6 x h)
def zpG:=FT [zl.sl,Sh.str.sl] [Q7] λx=>p6 x.1 x.2.1
theorem zks:FK 62 zpG:=oJ.T1 (f:=Tryz.f62) (keep:=ztL) (e:=zwF)
abbrev ztN:=kS [(3,[0,1,6,7]),(10,[6,9]),(13,[6,9,10])]
inductive qZ where
 |h3 (l0:aT) (l1:List (J Q6)) (i7:Int)
 |h3b (l0:aT) (l1:List (J Q6)) (i7:Int) (lh_0:ee)
 |h10 (i9:Int)
 |h10b (i9:Int) (lh_0:ee)
 |h13 (i9:Int) (i10:Int)
 |h13b (i9:Int) (i10:Int) (lh_0:ee)
abbrev zwH:qZ->Nat×St
 |.h3 a b x=>(3,⟨tm 50 [(0,N zn a),(1,N Q6 b),(6,Qb),(7,L x)],[]⟩)
 |.h3b a b x l=>(3,⟨tm 50 [(0,N zn a),(1,N Q6 b),(6,AV.vec 0),(7,L x)],[AO.vec zk l]⟩)
 |.h10 h=>(10,⟨tm 50 [(6,Qb),(9,L h)],[]⟩)
 |.h10b h l=>(10,⟨tm 50 [(6,AV.vec 0),(9,L h)],[AO.vec zk l]⟩)
 |.h13 h i=>(13,⟨tm 50 [(6,Qb),(9,L h),(10,L i)],[]⟩)
 |.h13b h i l=>(13,⟨tm 50 [(6,AV.vec 0),(9,L h),(10,L i)],[AO.vec zk l]⟩)
def zs8(x:J zn.sl)(h:J Sh.str.sl):Tr (qZ⊕aw):=
 Q9 (qZ.h3 x h 0)
def kQ:qZ->Tr (qZ⊕aw)
 | .h3 b a x=>
  let c:=a.getD x.toNat (Q Q6)
  let d:=gY b c
  let e:=[d]
  br (T (x<(X a:Int)))
  (K (zL x (X a))
   (K (fw b c) (br (T (d<0)) (re (Qe [Qb,L 4]) []) (K (T (X e<=1073741824)) (Q9 (qZ.h3b b a (Γ Δ (x+1)) e))))))
  (Q9 (qZ.h10 0))
 | .h3b b a x l=>
  let c:=a.getD x.toNat (Q Q6)
  let d:=gY b c
  let e:=[d]
  br (T (x<(X a:Int)))
  (K (zL x (X a))
   (K (fw b c) (br (T (d<0)) (re (Qe [Qb,L 4]) []) (K (T (X l+X e<=1073741824)) (Q9 (qZ.h3b b a (Γ Δ (x+1)) (l++e)))))))
  (Q9 (qZ.h10b 0 l))
 | .h10 h=>
  br (T (h<0)) (Q9 (qZ.h13 h 0)) (re (Qe [Qb,L 0]) [])
 | .h10b h l=>
  br (T (h<(X l:Int))) (Q9 (qZ.h13b h 0 l)) (re (Qe [AV.vec 0,L 0]) [AO.vec zk l])
 | .h13 h i=>
  br (T (i<h)) Tr.err (Q9 (qZ.h10 (Γ Δ (h+1))))
 | .h13b h i l=>
  br (T (i<h))
  (K (zL h (X l))
   (K (T (h.toNat<X l)) (K (zL i (X l)) (K (T (i.toNat<X l)) (br (l.getD h.toNat (Q zk)==l.getD i.toNat (Q zk)) (re (Qe [Qb,L 7]) []) (Q9 (qZ.h13b h (Γ Δ (i+1)) l)))))))
  (Q9 (qZ.h10b (Γ Δ (h+1)) l))
def pZ(x:J zn.sl)(h:J Sh.str.sl):=ap [zk.sl,zk] kQ 100000000 (zs8 x h)
def pY(x:J zn.sl)(h:J Sh.str.sl):=(pZ x h).isSome
def tr(x:J zn.sl)(h:J Sh.str.sl):=o2 (pZ x h)
def zpI:=FT [zn.sl,Sh.str.sl] [zk.sl,zk] λx=>pZ x.1 x.2.1
theorem zkt:FK 63 zpI:=oJ.T1 (f:=Tryz.f63) (keep:=ztN) (e:=zwH)
def zeK(x:J Q5)(h:J zn.sl):Tr (Empty⊕aw):=
 br (zg.op x==[]) (re (L 0) [])
 (K (vW (zt x))
  (br (!FO (zt x)) (re (L 1) []) (K (qe (zt x) h) (br (cond ((jy (zt x) h).2==0) (cond ((jy (zt x) h).1!=0) ((jy (zt x) h).1!=3) S) S) (re (L 5) []) (re (L (jy (zt x) h).2) [])))))
def C2(x:J Q5)(h:J zn.sl):=ap [zk] t0 100000000 (zeK x h)
def qj(x:J Q5)(h:J zn.sl):=(C2 x h).isSome
def sa(x:J Q5)(h:J zn.sl):=o1 (C2 x h)
def zpK:=FT [Q5,zn.sl] [zk] λx=>C2 x.1 x.2.1
theorem zkv:FK 65 zpK:=oJ.T1 (f:=Tryz.f65) (keep:=k0) (e:=e0)
def Yy:=zhZ.addL [(187,zgy),(62,zpG),(63,zpI),(65,zpK)]
theorem Ed:zw Yy:=oJ.addL<|fc zcz<|fc zks<|fc zkt<|fc zkv jg
abbrev X8:List CP:=[.d .str,.d .str,.d .str,.nil,.nil,.d .str,.nil,.nil,.d .str,.d zk,.d zk,.d .str,.d .str,.nil,.d (.sl R),.nil,.d .str,.d zk,.d zk,.d .str,.d .str,.nil,.d .str]
abbrev Qt:List CP:=[.d .str,.d .str,.d .str,.nil,.nil,.d .str,.nil,.nil,.d .str,.d zk,.d zk,.d .str,.d .str,.nil,.nil,.d (.sl jb),.d .expr,.d .str]
abbrev zub:=kS [(15,[1,3,5,12,13]),(27,[1,3,5,8,9,14,15])]
inductive Dy where
 |h15 (s12:List UInt8) (i13:Int) (z0:zp qW) (z1:zp jR) (z2:zp X8)
 |h27 (s8:TS) (b9:J Q7) (s14:List UInt8) (i15:Int) (z0:zp qW) (z1:zp jR) (z2:zp Qt)
abbrev zwY:Dy->Nat×St
 |.h15 s i z a b=>(15,⟨tm 430 [(1,Qf 0 0),(3,Qf 1 0),(5,Qf 2 0),(12,I s),(13,L i)],[Qa (bL [] qW z),Qa (bL [] jR a),Qa (bL [] X8 b)]⟩)
 |.h27 d c x h z a b=>(27,⟨tm 430 [(1,Qf 0 0),(3,Qf 1 0),(5,Qf 2 0),(8,I d),(9,AV.bool c),(14,I x),(15,L h)],[Qa (bL [] qW z),Qa (bL [] jR a),Qa (bL [] Qt b)]⟩)
def pO(h:zO):Tr (Dy⊕aw):=
 let a0:=zt h.x.1
 let a1:=zt h.s.1
 let a2:=(h.1,h.2.1,h.q.1,h.r.1,h.t.1,h.u.1,h.v.1,h.w.1,a0,h.y.1,h.z.1,a1,h.p)
 let a3:=r8 a2
 let k:=wa a1 mV
 let a5:=zdR++h.2.1
 let a6:=zd0++h.2.1
 let a7:=XW++h.2.1
 let a8:=a7++mi
 let a9:=a8++h.q.1
 let o:=a9++Cb
 let l:=LG h.r.1
 let A:=o++l.1
 let g:=A++jm
 let a:=wa a0 []
 let m:=eF h.q.1
 let n:=cf h.q.1
 let B:=zlV++h.2.1
 let C:=B++mi
 let D:=C++h.q.1
 let E:=D++fP
 let F:=E++h.p
 let G:=F++Cc
 let b:=G++h.u.1
 let c:=eF h.p
 let d:=cf h.p
 let H:=zlU++h.2.1
 let P:=H++mi
 let U:=P++h.q.1
 let h0:=zL 0 (X h.r.1)
 let h1:=U++Vg
 let i:=Y h.r.1 (Z 0) (Q Q6)
 let h2:=h1++i
 let h3:=zL 1 (X h.r.1)
 let h4:=h2++Vh
 let j:=Y h.r.1 (Z 1) (Q Q6)
 let e:=h4++j
 let h5:=zrU++h.2.1
 let h6:=h5++Ql
 let h7:=zrV++h.2.1
 let h8:=h7++Ql
 let h9:=zrX++h.2.1
 let x1:=h9++mi
 let x2:=zrY++h.2.1
 let x3:=x2++mi
 K (qn a0 [])
 (K (qn a1 mV)
  (br (h.1==Qm) (K (tK a2) (re (Qe [I a3.1,aS h.1 h.2.1 [] Qb (N zn h.t.1) h.u.1 (N Q6 h.v.1) (N (Sh.str.pr Q6) h.w.1) (xE h.x.1) Qb Qb zE [],AV.bool a3.2]) [])) (br (h.1==bl1)
  (K (T (X zdT+X h.2.1<=1099511627776)) (re (Qe [I (zdT++h.2.1),aR h [],kb O]) [])) (br (h.1==bl3) (Q9 (Dy.h15 [] 0 (h,()) ([],[],[],[],[],0,0,[],[],[],0,0,[],[],[],())
  (h.1,h.2.1,[],[],[],0,0,[],[],h.y.1,[],0,0,[],[],[],()))) (br (h.1==M8) (Q9 (Dy.h27 k.1 k.2 [] 0 (h,()) ([],[],[],[],[],0,0,[],[],[],0,0,[],[],[],()) (h.1,h.2.1,[],[],[],0,0,[],[],h.z.1,h.s.1,[],()))) (br (h.1==bl0)
  (K (T (X zdR+X h.2.1<=1099511627776)) (K (T (X a5+X k.1<=1099511627776)) (re (Qe [I (a5++k.1),aW h,AV.bool k.2]) [])))
  (br (h.1==Ka) (K (T (X zd0+X h.2.1<=1099511627776)) (K (T (X a6+X k.1<=1099511627776)) (re (Qe [I (a6++k.1),aW h,AV.bool k.2]) [])))
  (br (h.1==dI) (K (Gb h.r.1) (K (T (X XW+X h.2.1<=1099511627776)) (K (T (X a7+X mi<=1099511627776)) (K (T (X a8+X h.q.1<=1099511627776))
  (K (T (X a9+X Cb<=1099511627776)) (K (T (X o+X l.1<=1099511627776)) (K (T (X A+X jm<=1099511627776)) (K (T (X g+X a.1<=1099511627776)) (br l.2 (br a.2 (K m (re (Qe [I (g++a.1),aM h (N Q6 h.r.1) [] [],AV.bool n]) [])) (re (Qe [I (g++a.1),aM h (N Q6 h.r.1) [] [],kb S]) [])) (re (Qe [I (g++a.1),aM h (N Q6 h.r.1) [] [],kb S]) [])))))))))) (br (h.1==ic) (K (T (X zlV+X h.2.1<=1099511627776))
  (K (T (X B+X mi<=1099511627776)) (K (T (X C+X h.q.1<=1099511627776)) (K (T (X D+X fP<=1099511627776)) (K (T (X E+X h.p<=1099511627776))
  (K (T (X F+X Cc<=1099511627776)) (K (T (X G+X h.u.1<=1099511627776)) (K (T (X b+X a.1<=1099511627776)) (br a.2 (K m (br n (K c (br d (K (eF h.u.1) (re (Qe [I (b++a.1),aM h Qb h.u.1 h.p,AV.bool (cf h.u.1)]) [])) (re (Qe [I (b++a.1),aM h Qb h.u.1 h.p,kb S]) []))) (re (Qe [I (b++a.1),aM h Qb h.u.1 h.p,kb S]) []))) (re (Qe [I (b++a.1),aM h Qb h.u.1 h.p,kb S]) [])))))))))) (br (h.1==qD)
  (br ((X h.r.1:Int)!=2) (re (Qe [I [],aM h (N Q6 h.r.1) [] [],kb S]) []) (K (T (X zlU+X h.2.1<=1099511627776))
  (K (T (X H+X mi<=1099511627776)) (K (T (X P+X h.q.1<=1099511627776)) (K (T (X U+X Vg<=1099511627776)) (K h0 (K (T (X h1+X i<=1099511627776))
  (K (T (X h2+X Vh<=1099511627776)) (K h3 (K (T (X h4+X j<=1099511627776)) (K (T (X e+X a.1<=1099511627776)) (br a.2 (K m (br n (K h0 (K (eF i) (br (cf i) (K h3 (K (eF j) (re (Qe [I (e++a.1),
  aM h (N Q6 h.r.1) [] [],AV.bool (cf j)]) []))) (re (Qe [I (e++a.1),aM h (N Q6 h.r.1) [] [],kb S]) [])))) (re (Qe [I (e++a.1),aM h (N Q6 h.r.1) [] [],kb S]) []))) (re (Qe [I (e++a.1),aM h (N Q6 h.r.1) [] [],kb S]) []))))))))))))) (br (h.1==bl9)
  (K (T (X zrU+X h.2.1<=1099511627776)) (K (T (X h5+X Ql<=1099511627776)) (K (T (X h6+X h.p<=1099511627776)) (K c (re (Qe [I (h6++h.p),aR h h.p,AV.bool d]) []))))) (br (h.1==P9)
  (K (T (X zrV+X h.2.1<=1099511627776)) (K (T (X h7+X Ql<=1099511627776)) (K (T (X h8+X h.p<=1099511627776)) (K c (re (Qe [I (h8++h.p),aR h h.p,AV.bool d]) []))))) (br (h.1==P7)
  (K (T (X zrX+X h.2.1<=1099511627776)) (K (T (X h9+X mi<=1099511627776)) (K (T (X x1+X h.p<=1099511627776)) (K c (re (Qe [I (x1++h.p),aR h h.p,AV.bool d]) []))))) (br (h.1==P8) (K
  (T (X zrY+X h.2.1<=1099511627776)) (K (T (X x2+X mi<=1099511627776)) (K (T (X x3+X h.p<=1099511627776)) (K c (re (Qe [I (x3++h.p),aR h h.p,AV.bool d]) []))))) (re (Qe [I [],aR h [],kb S]) [])))))))))))))))
def pk:Dy->Tr (Dy⊕aw)
 | .h15 s i h B a=>
  let j:=(X h.1.y.1:Int)
  let c:=zL i (X h.1.y.1)
  let d:=Y h.1.y.1 i.toNat (Q R)
  let u:=lI d
  let k:=s++fP
  let l:=qb d
  let v:=Γ Δ (i+1)
  let w:=XV++h.1.2.1
  let A:=w++zdN
  let m:=A++s
  br (T (i<j))
  (K c
   (K (nV d) (br (!uS d) (re (Qe [I [],Qd (bL [] X8 a),kb S]) []) (br (T (i>0)) (K (T (X s+X fP<=1099511627776))
   (K c (K u (K (T (X k+X l<=1099511627776)) (Q9 (Dy.h15 (k++l) v h B a)))))) (K c (K u (K (T (X s+X l<=1099511627776)) (Q9 (Dy.h15 (s++l) v h B a)))))))))
  (K (T (X XV+X h.1.2.1<=1099511627776))
   (K (T (X w+X zdN<=1099511627776)) (K (T (X A+X s<=1099511627776)) (K (T (X m+X jm<=1099511627776)) (br (T (1<=j)) (re (Qe [I (m++jm),Qd (bL [] X8 a),AV.bool (T (j<=12))]) []) (re (Qe [I (m++jm),Qd (bL [] X8 a),kb S]) []))))))
 | .h27 n C x b h B a=>
  let j:=(X h.1.z.1:Int)
  let c:=zL b (X h.1.z.1)
  let d:=Y h.1.z.1 b.toNat (Q jb)
  let u:=!cf d.1
  let k:=zt d.2
  let l:=T (X d.1+X zlP<=1099511627776)
  let v:=tF k
  let w:=d.1++zlP
  let A:=r7 k
  let m:=T (X w+X A<=1099511627776)
  let o:=x++fP
  let e:=w++A
  let p:=Γ Δ (b+1)
  let q:=XY++h.1.2.1
  let t:=q++zdM
  let g:=t++x
  br (T (b<j))
  (K (c&&(eF d.1&&bif u then O else c&&vW k))
   (br (cond u O (!FO k)) (re (Qe [I [],Qd (bL [] Qt a),kb S]) [])
   (br (T (b>0)) (K (T (X x+X fP<=1099511627776)) (K c (K l (K c (K v (K m (K (T (X o+X e<=1099511627776)) (Q9 (Dy.h27 n C (o++e) p h B a))))))))) (K c (K l (K c
   (K v (K m (K (T (X x+X e<=1099511627776)) (Q9 (Dy.h27 n C (x++e) p h B a)))))))))))
  (K (T (X XY+X h.1.2.1<=1099511627776))
   (K (T (X q+X zdM<=1099511627776)) (K (T (X t+X x<=1099511627776)) (K (T (X g+X n<=1099511627776)) (br C (br (T (1<=j)) (re (Qe [I (g++n),Qd (bL [] Qt a),AV.bool (T (j<=8))]) []) (re (Qe [I (g++n),Qd (bL [] Qt a),kb S]) [])) (re (Qe [I (g++n),Qd (bL [] Qt a),kb S]) []))))))
def fx(x:zO):=ap [Q6,ay,Q7] pk 100000000 (pO x)
def xP(x:zO):=(fx x).isSome
def Dc(x:zO):=o3 (fx x)
def zqe:=FT [ay] [Q6,ay,Q7] λx=>fx x.1
theorem zk2:FK 123 zqe:=Ed.T1 (f:=Tryz.f123) (keep:=zub) (e:=zwY)
def zh0:=Yy.add 123 zqe
theorem Iv:zw zh0:=Ed.add zk2
def zmG(h:zO):Tr (Empty⊕aw):=
 let b:=(h.1,h.2.1,h.q.1,h.r.1,h.t.1,h.u.1,h.v.1,h.w.1,zt h.x.1,h.y.1,h.z.1,zt h.s.1,h.p)
 let a:=Dc b
 let c:=!a.q
 let d:=!cf h.2.1
 let e:=(a.2.1.1,a.2.1.2.1,a.2.1.q.1,a.2.1.r.1,a.2.1.t.1,a.2.1.u.1,a.2.1.v.1,a.2.1.w.1,zt a.2.1.x.1,a.2.1.y.1,a.2.1.z.1,zt a.2.1.s.1,a.2.1.p)
 let g:=BV a.1
 K (xP b)
 (K (cond c O (eF h.2.1&&bif d then O else Da e b))
  (br (cond c O (cond d O (!ir e b))) (re (Qe [I [],kb S]) []) (K (Lv a.1) (br (!g.2) (re (Qe [I [],kb S]) []) (re (Qe [I a.1,kb O]) [])))))
def qm(x:zO):=ap [Q6,Q7] t0 100000000 (zmG x)
def jA(x:zO):=(qm x).isSome
def mI(x:zO):=o2 (qm x)
def zpF:=FT [ay] [Q6,Q7] λx=>qm x.1
theorem zkr:FK 58 zpF:=Iv.T1 (f:=Tryz.f58) (keep:=k0) (e:=e0)
def NB:=zh0.add 58 zpF
theorem Iw:zw NB:=Iv.add zkr
abbrev oD:List CP:=[.d .str,.d .str,.d .str,.vec .str,.nil,.d .str,.nil,.nil,.d .expr,.nil,.nil,.d .str,.d zk,.d zk,.d .str,.d .str,.nil,.d .str]
abbrev zea:List CP:=[.d .str,.d .str,.d .str,.vec .str,.nil,.d .str,.nil,.nil,.d .str,.d zk,.d zk,.d .str,.d .str,.nil,.nil,.nil,.d .str,.d zk,.d zk,.d .str,.d .str,.nil,.d .str]
abbrev Ro:Nat->aX:=λj=>if j=14 then{slots:=[0,1,4],prom:=[(1,M 3,.str)]}else if j=1000000 then{prom:=[(1,M 3,.str)]}else{ }
inductive ux where
 |h14 (z0:zp bb) (z1:zp zea)
 |h14b (b4:J Q7) (z0:zp bb) (z1:zp zea)
abbrev Nk:ux->Nat×St
 |.h14 h z=>(14,⟨tm 117 [(0,Qf 0 0),(1,Qf 1 0),(4,kb O)],[Qa (bL [] bb h),Qa (bL [2] zea z),AO.vec Q6 z.r.1]⟩)
 |.h14b b h z=>(14,⟨tm 117 [(0,Qf 0 0),(1,Qf 1 0),(4,AV.bool b)],[Qa (bL [] bb h),Qa (bL [2] zea z),AO.vec Q6 z.r.1]⟩)
theorem znB:zY NB.P 77 Tryz.f77 2:=cK kw
def Zj(y:zp bb)(z:zp jR):Tr (ux⊕aw):=
 let a0:=(y.1,y.2.1,y.q.1,())
 let a1:=f7 a0 Vi
 let a2:=(a1.2.1,a1.q.1,a1.r.1,())
 let a3:=cG a2
 let a4:=(a3.2.1,a3.q.1,a3.r.1,())
 let a5:=cg a4 wz
 let a6:=(a5.1,a5.2.1,a5.q.1,())
 let a7:=cG a6
 let a8:=(a7.2.1,a7.q.1,a7.r.1,())
 let a9:=([],z.r)
 let x3:=cg a8 [44]
 let j2:=(x3.1,x3.2.1,x3.q.1,())
 let v:=cG j2
 let j3:=(v.2.1,v.q.1,v.r.1,())
 let x4:=cg j3 Hf
 let j4:=(x4.1,x4.2.1,x4.q.1,())
 let w:=cG j4
 let j5:=(w.2.1,w.q.1,w.r.1,())
 let j6:=fK j5 je
 let x5:=cg a8 Hd
 let j7:=(x5.1,x5.2.1,x5.q.1,())
 let A:=cG j7
 let x6:=[A.1]
 let j8:=(A.2.1,A.q.1,A.r.1,())
 let x7:=cg j8 Hg
 let j9:=(x7.1,x7.2.1,x7.q.1,())
 let B:=cG j9
 let k1:=[B.1]
 let k2:=(B.2.1,B.q.1,B.r.1,())
 let k3:=fK k2 je
 let k4:=fK a8 je
 let C:=f7 a2 Vk
 let D:=(C.2.1,C.q.1,C.r.1,())
 let b:=cG D
 let k5:=(b.2.1,b.q.1,b.r.1,())
 let x8:=cg k5 wz
 let k6:=(x8.1,x8.2.1,x8.q.1,())
 let c:=cG k6
 let a:=(c.2.1,c.q.1,c.r.1,())
 let x9:=cg a [44]
 let k7:=(x9.1,x9.2.1,x9.q.1,())
 let E:=cG k7
 let k8:=(E.2.1,E.q.1,E.r.1,())
 let i0:=cg k8 Hf
 let k9:=(i0.1,i0.2.1,i0.q.1,())
 let F:=cG k9
 let l0:=(F.2.1,F.q.1,F.r.1,())
 let l1:=fK l0 je
 let i1:=cg a Hd
 let l2:=(i1.1,i1.2.1,i1.q.1,())
 let G:=cG l2
 let i2:=[G.1]
 let l3:=(G.2.1,G.q.1,G.r.1,())
 let i3:=cg l3 Hg
 let l4:=(i3.1,i3.2.1,i3.q.1,())
 let H:=cG l4
 let l5:=[H.1]
 let l6:=(H.2.1,H.q.1,H.r.1,())
 let l7:=fK l6 je
 let l8:=fK a je
 let m:=f7 D Vj
 let l9:=(m.2.1,m.q.1,m.r.1,())
 let d:=cG l9
 let m1:=(d.2.1,d.q.1,d.r.1,())
 let i4:=cg m1 wz
 let m2:=(i4.1,i4.2.1,i4.q.1,())
 let e:=cG m2
 let h:=(e.2.1,e.q.1,e.r.1,())
 let i5:=cg h [44]
 let m3:=(i5.1,i5.2.1,i5.q.1,())
 let P:=cG m3
 let m4:=(P.2.1,P.q.1,P.r.1,())
 let i6:=cg m4 Hf
 let m6:=(i6.1,i6.2.1,i6.q.1,())
 let U:=cG m6
 let m7:=(U.2.1,U.q.1,U.r.1,())
 let m8:=fK m7 je
 let i7:=cg h Hd
 let m9:=(i7.1,i7.2.1,i7.q.1,())
 let h0:=cG m9
 let i8:=[h0.1]
 let n1:=(h0.2.1,h0.q.1,h0.r.1,())
 let i9:=cg n1 Hg
 let n2:=(i9.1,i9.2.1,i9.q.1,())
 let h1:=cG n2
 let n3:=[h1.1]
 let n4:=(h1.2.1,h1.q.1,h1.r.1,())
 let n5:=fK n4 je
 let n6:=fK h je
 let n7:=(m.2.1,m.q.1,S,())
 let g:=cG n7
 let n8:=(g.2.1,g.q.1,g.r.1,())
 let j0:=cg n8 wz
 let n9:=(j0.1,j0.2.1,j0.q.1,())
 let i:=cG n9
 let x:=(i.2.1,i.q.1,i.r.1,())
 let j1:=cg x [44]
 let a97:=(j1.1,j1.2.1,j1.q.1,())
 let h2:=cG a97
 let a99:=(h2.2.1,h2.q.1,h2.r.1,())
 let n:=cg a99 Hf
 let h3:=(n.1,n.2.1,n.q.1,())
 let j:=cG h3
 let h4:=(j.2.1,j.q.1,j.r.1,())
 let h5:=fK h4 je
 let o:=cg x Hd
 let h6:=(o.1,o.2.1,o.q.1,())
 let k:=cG h6
 let t:=[k.1]
 let h7:=(k.2.1,k.q.1,k.r.1,())
 let u:=cg h7 Hg
 let h8:=(u.1,u.2.1,u.q.1,())
 let l:=cG h8
 let h9:=[l.1]
 let x0:=(l.2.1,l.q.1,l.r.1,())
 let x1:=fK x0 je
 let x2:=fK x je
 K (eO a0 Vi)
 (br a1.1
  (K (bT a2) (K (bt a4 wz) (K (bT a6) (br O (K (bt a8 [40]) (Q9 (ux.h14 (cg a8 [40]) (dI,a3.1,a7.1,a9)))) (br S (K (bt a8 [44]) (K (bT j2) (K (bt j3 Hf) (K (bT j4) (K (eG j5 je) (re (Qe []) (cV bb oD j6.2
  (dI,a3.1,a7.1,[],w.1,j6.1,z.y.1,z.z.1,z.s.1,z.p.1,z.p.2.1,v.1,())))))))) (br S (K (bt a8 Hd) (K (bT j7) (K (T (X x6<=1073741824)) (K (bt j8 Hg) (K (bT j9)
  (K (T (X x6+X k1<=1073741824)) (K (eG k2 je) (re (Qe []) (cV bb oD k3.2 (dI,a3.1,a7.1,x6++k1,z.r.1,k3.1,z.y)))))))))) (K (eG a8 je) (re (Qe []) (cV bb oD k4.2
  (dI,a3.1,a7.1,[],z.r.1,k4.1,z.y))))))))))
  (K (eO a2 Vk) (br C.1 (K (bT D) (K (bt k5 wz) (K (bT k6) (br S (K (bt a [40]) (Q9 (ux.h14 (cg a [40]) (ic,b.1,c.1,a9)))) (br O (K (bt a [44]) (K (bT k7) (K (bt k8 Hf) (K (bT k9)
  (K (eG l0 je) (re (Qe []) (cV bb oD l1.2 (ic,b.1,c.1,[],F.1,l1.1,z.y.1,z.z.1,z.s.1,z.p.1,z.p.2.1,E.1,())))))))) (br S (K (bt a Hd) (K (bT l2)
  (K (T (X i2<=1073741824)) (K (bt l3 Hg) (K (bT l4) (K (T (X i2+X l5<=1073741824)) (K (eG l6 je) (re (Qe []) (cV bb oD l7.2 (ic,b.1,c.1,i2++l5,z.r.1,l7.1,z.y)))))))))) (K (eG a je)
  (re (Qe []) (cV bb oD l8.2 (ic,b.1,c.1,[],z.r.1,l8.1,z.y)))))))))) (K (eO D Vj) (br m.1 (K (bT l9) (K (bt m1 wz) (K (bT m2) (br S (K (bt h [40]) (Q9 (ux.h14 (cg h [40]) (qD,d.1,e.1,a9))))
  (br S (K (bt h [44]) (K (bT m3) (K (bt m4 Hf) (K (bT m6) (K (eG m7 je) (re (Qe []) (cV bb oD m8.2 (qD,d.1,e.1,[],U.1,m8.1,z.y.1,z.z.1,z.s.1,
  z.p.1,z.p.2.1,P.1,())))))))) (br O (K (bt h Hd) (K (bT m9) (K (T (X i8<=1073741824)) (K (bt n1 Hg) (K (bT n2) (K (T (X i8+X n3<=1073741824)) (K (eG n4 je) (re (Qe []) (cV bb oD n5.2
  (qD,d.1,e.1,i8++n3,z.r.1,n5.1,z.y)))))))))) (K (eG h je) (re (Qe []) (cV bb oD n6.2 (qD,d.1,e.1,[],z.r.1,n6.1,z.y)))))))))) (K (bT n7) (K (bt n8 wz) (K (bT n9)
  (br (z.1==dI) (K (bt x [40]) (Q9 (ux.h14 (cg x [40]) (z.1,g.1,i.1,a9)))) (br (z.1==ic) (K (bt x [44]) (K (bT a97) (K (bt a99 Hf) (K (bT h3) (K (eG h4 je) (re (Qe []) (cV bb oD h5.2
  (z.1,g.1,i.1,[],j.1,h5.1,z.y.1,z.z.1,z.s.1,z.p.1,z.p.2.1,h2.1,())))))))) (br (z.1==qD) (K (bt x Hd) (K (bT h6) (K (T (X t<=1073741824)) (K (bt h7 Hg) (K (bT h8)
  (K (T (X t+X h9<=1073741824)) (K (eG x0 je) (re (Qe []) (cV bb oD x1.2 (z.1,g.1,i.1,t++h9,z.r.1,x1.1,z.y)))))))))) (K (eG x je) (re (Qe []) (cV bb oD x2.2 (z.1,g.1,i.1,[],z.r.1,x2.1,z.y)))))))))))))))
theorem zma(y:zp bb)(z:zp jR):rn NB 2 Ro Tryz.f77 [Qf 0 0,Qf 1 0] (cV bb jR y z)=(Zj y z).map (lf Tryz.f77 Nk):=kw
def zbJ:ux->Tr (ux⊕aw)
 | .h14 b h=>
  let a:=(b.1,b.2.1,b.q.1,())
  let x:=cG a
  let d:=[x.1]
  let e:=(x.2.1,x.q.1,x.r.1,())
  let g:=f7 e [44]
  let c:=cg a [41]
  let i:=(c.1,c.2.1,c.q.1,())
  let j:=fK i je
  br b.q.1
  (K (bT a)
   (K (T (X h.r.1+X d<=1073741824)) (K (eO e [44]) (Q9 (ux.h14b g.1 g.2 (h.1,h.2.1,h.q.1,h.r.1++d,h.t))))))
  (K (bt a [41])
   (K (eG i je) (re (Qe []) (cV bb oD j.2 (h.1,h.2.1,h.q.1,h.r.1,h.t.1,j.1,h.z)))))
 | .h14b k b h=>
  let a:=(b.1,b.2.1,b.q.1,())
  let x:=cG a
  let d:=[x.1]
  let e:=(x.2.1,x.q.1,x.r.1,())
  let g:=f7 e [44]
  let c:=cg a [41]
  let i:=(c.1,c.2.1,c.q.1,())
  let j:=fK i je
  br (cond k b.q.1 S)
  (K (bT a)
   (K (T (X h.r.1+X d<=1073741824)) (K (eO e [44]) (Q9 (ux.h14b g.1 g.2 (h.1,h.2.1,h.q.1,h.r.1++d,h.t))))))
  (K (bt a [41])
   (K (eG i je) (re (Qe []) (cV bb oD j.2 (h.1,h.2.1,h.q.1,h.r.1,h.t.1,j.1,h.z)))))
theorem znJ:∀s,run NB 2 Ro (Func.results Tryz.f77).toList 400 (am Tryz.f77 (Nk s).1) (Nk s).2=(zbJ s).map (lf Tryz.f77 Nk)
 |.h14 z h=>by kernel_rfl
 |.h14b b z h=>by kernel_rfl
def zbk(y:zp bb)(z:zp jR):Option (zF (Qi M [])×zp bb×zp oD):=T0 [] bb oD zbJ 100000000 (Zj y z)
def zbj(y:zp bb)(z:zp jR):Bool:=(zbk y z).isSome
def zjc(y:zp bb)(z:zp jR):zp bb×zp oD:=(λr:zF (Qi M [])×zp bb×zp oD=>r.2) ((zbk y z).getD (cJ [],gj bb,gj oD))
def zgp:ag:=XZ bb jR [] [] bb oD (λy z _=>zbj y z) λy z _=>((),zjc y z)
theorem zcq:FK 77 zgp:=zlp (ps:=bb) (qs:=jR) (ks:=[]) (outs:=[]) (keep:=Ro) (gas:=400) (n:=100000000) (e:=Nk) (t:=zbJ) (i:=λy z x=>Zj y z) Iw znB (λy z x=>zma y z) znJ (λ_ _ _=>by kernel_rfl) (λ_ _ _=>by kernel_rfl)
def zh1:=NB.add 77 zgp
theorem Ix:zw zh1:=Iw.add zcq
abbrev zt0:=kS [(17,[2,4,6,7,8]),(25,[2,4,6,7,9])]
inductive UW where
 |h17 (l4:LF) (z0:zp jR) (z1:zp bb) (z2:zp jR)
 |h25 (l4:LF) (z0:zp jR) (z1:zp bb) (z2:zp jR)
abbrev zwQ:UW->Nat×St
 |.h17 l z h x=>(17,⟨tm 172 [(2,Qf 0 0),(4,N zG l),(6,Qf 1 0),(7,Qf 2 0),(8,kb O)],[Qa (bL [] jR z),Qa (bL [] bb h),Qa (bL [] jR x)]⟩)
 |.h25 l z h x=>(25,⟨tm 172 [(2,Qf 0 0),(4,N zG l),(6,Qf 1 0),(7,Qf 2 0),(9,kb O)],[Qa (bL [] jR z),Qa (bL [] bb h),Qa (bL [] jR x)]⟩)
def zya(x0:TS):Tr (UW⊕aw):=
 let a0:=((BV x0).1,0,O,())
 let a1:=f7 a0 zdQ
 let a2:=(a1.2.1,a1.q.1,a1.r.1,())
 let a3:=f7 a2 zdU
 let a4:=(a3.2.1,a3.q.1,a3.r.1,())
 let a5:=cg a4 zd2
 let a6:=(a5.1,a5.2.1,a5.q.1,())
 let a7:=cG a6
 let a8:=(↑(X (BV x0).1):Int)
 let a9:=(bl1,a7.1,[],[],[],[],[],[],zg.mk [] (0,0,[]) [] [],[],[],zg.mk [] (0,0,[]) [] [],[])
 let x5:=mI a9
 let d:=f7 a4 zdW
 let e:=(d.2.1,d.q.1,d.r.1,())
 let G:=cg e zdX
 let h1:=(G.1,G.2.1,G.q.1,())
 let g:=cG h1
 let h2:=(g.2.1,g.q.1,g.r.1,())
 let H:=cg h2 zd4
 let h3:=(H.1,H.2.1,H.q.1,())
 let i:=f7 e zd3
 let j:=(i.2.1,i.q.1,i.r.1,())
 let k:=cG j
 let h4:=(k.2.1,k.q.1,k.r.1,())
 let l:=f7 j zdS
 let m:=(l.2.1,l.q.1,l.r.1,())
 let P:=cg m wz
 let h5:=(P.1,P.2.1,P.q.1,())
 let b:=cG h5
 let h6:=(b.2.1,b.q.1,b.r.1,())
 let n:=fK h6 mV
 let h7:=(bl0,b.1,[],[],[],[],[],[],zg.mk [] (0,0,[]) [] [],[],[],zt n.1,[])
 let x6:=mI h7
 let o:=f7 m zd1
 let A:=(o.2.1,o.q.1,o.r.1,())
 let U:=cg A [42]
 let h8:=(U.1,U.2.1,U.q.1,())
 let h0:=cg h8 wz
 let h9:=(h0.1,h0.2.1,h0.q.1,())
 let c:=cG h9
 let x1:=(c.2.1,c.q.1,c.r.1,())
 let B:=fK x1 mV
 let x2:=(Ka,c.1,[],[],[],[],[],[],zg.mk [] (0,0,[]) [] [],[],[],zt B.1,[])
 let x7:=mI x2
 let C:=f7 A zdV
 let D:=(C.2.1,C.q.1,C.r.1,())
 let x8:=Pj D Vl
 let E:=f7 D zdZ
 let F:=(E.2.1,E.q.1,E.r.1,())
 let x9:=Pj F Vl
 let h:=f7 F zdY
 let x3:=(h.2.1,h.q.1,h.r.1,())
 let a:=zjc x3 ([],[],[],[],[],0,0,[],[],[],0,0,[],[],[],())
 let x4:=(a.2.1,a.q.1,a.r.1,a.t.1,[],a.u.1,[],[],zt a.v.1,[],[],zg.mk a.w.1 (a.x.1,a.y.1,a.z.1) a.s.1 [],a.p.1)
 let i0:=mI x4
 K (Lv x0)
 (br (!(BV x0).2)
  (re (Qe [nS,kb S]) [])
  (K (eO a0 zdQ) (br a1.1 Tr.err (K (eO a2 zdU) (br a3.1 (K (bt a4 zd2) (K (bT a6) (br (cond (!a7.r.1) O (a7.q.1!=a8)) (re (Qe [nS,kb S]) []) (K (jA a9) (br (!x5.2) (re (Qe [nS,kb S]) []) (re (Qe [aS bl1 a7.1 [] Qb Qb [] Qb Qb zE Qb Qb zE [],kb O]) [])))))) (K (eO a4 zdW) (br d.1 (K (bt e zdX) (K (bT h1) (K (bt h2 zd4) (K (bt h3 [40]) (Q9
  (UW.h17 (BV x0).1 ([],[],[],[],[],0,0,[],[],[],0,0,[],[],[],()) (cg h3 [40]) (bl3,g.1,[],[],[],0,0,[],[],[],0,0,[],[],[],()))))))) (K (eO e zd3) (br i.1 (K (bT j) (K (bt h4 [83,69,84]) (Q9
  (UW.h25 (BV x0).1 ([],[],[],[],[],0,0,[],[],[],0,0,[],[],[],()) (cg h4 [83,69,84]) (M8,k.1,[],[],[],0,0,[],[],[],0,0,[],[],[],()))))) (K (eO j zdS) (br l.1 (K (bt m wz) (K (bT h5) (K (eG h6 mV)
  (br (cond (!n.r.1) O (n.q.1!=a8)) (re (Qe [nS,kb S]) []) (K (jA h7) (br (!x6.2)
  (re (Qe [nS,kb S]) []) (re (Qe [aS bl0 b.1 [] Qb Qb [] Qb Qb zE Qb Qb (xE n.1) [],
  kb O]) []))))))) (K (eO m zd1) (br o.1 (K (bt A [42]) (K (bt h8 wz) (K (bT h9) (K (eG x1 mV) (br (cond (!B.r.1) O (B.q.1!=a8)) (re (Qe [nS,kb S]) []) (K (jA x2) (br (!x7.2) (re (Qe [nS,kb S]) []) (re (Qe [aS Ka c.1 [] Qb Qb [] Qb Qb zE Qb Qb (xE B.1) [],
  kb O]) [])))))))) (K (eO A zdV) (br C.1 (K (LO D Vl) (br x8.1 Tr.err Tr.err)) (K (eO D zdZ) (br E.1 (K (LO F Vl) (br x9.1 Tr.err Tr.err)) (K (eO F zdY) (br h.1
  (K (zbj x3 ([],[],[],[],[],0,0,[],[],[],0,0,[],[],[],())) (br (cond (!a.1.q.1) O (a.1.2.1!=a8)) (re (Qe [nS,kb S]) []) (K (jA x4) (br (!i0.2) (re (Qe [nS,kb S]) []) (re (Qe [aS a.2.1 a.q.1 a.r.1 (AV.vec 0) Qb a.u.1 Qb Qb (xE a.v.1) Qb Qb [I a.w.1,L a.x.1,L a.y.1,I a.z.1,I a.s.1,Qb] a.p.1,kb O])
  [AO.vec Q6 a.t.1]))))) (br (cond (!h.r.1) O (h.q.1!=a8)) (re (Qe [nS,kb S]) [])
  (K O (br O (re (Qe [nS,kb S]) []) (re (Qe [nS,kb O]) [])))))))))))))))))))))))
def zyL:UW->Tr (UW⊕aw)
 | .h17 l _ a h=>
  let b:=(a.1,a.2.1,a.q.1,())
  let d:=cg b [41]
  let c:=(h.1,h.2.1,h.q.1,[],[],h.r.1,[],[],zg.mk h.t.1 (h.u.1,h.v.1,h.w.1) h.x.1 [],[],[],zg.mk h.y.1 (h.z.1,h.s.1,h.p.1) h.p.2.1 [],h.p.q.1)
  let e:=mI c
  br a.q.1 Tr.err
  (K (bt b [41])
   (br (cond (!d.q.1) O (d.2.1!=(X l:Int))) (re (Qe [nS,kb S]) []) (K (jA c)
   (br (!e.2) (re (Qe [nS,kb S]) []) (re (Qe [aS h.1 h.2.1 h.q.1 Qb Qb h.r.1 Qb Qb [I h.t.1,L h.u.1,L h.v.1,I h.w.1,I h.x.1,Qb] Qb Qb [I h.y.1,L h.z.1,L h.s.1,I h.p.1,I h.p.2.1,Qb] h.p.q.1,kb O]) [])))))
 | .h25 l _ a h=>
  let b:=(a.1,a.2.1,a.q.1,())
  let d:=cG b
  let c:=fK b mV
  let e:=(h.1,h.2.1,h.q.1,[],[],h.r.1,[],[],zg.mk h.t.1 (h.u.1,h.v.1,h.w.1) h.x.1 [],[],[],zt c.1,h.p.q.1)
  let g:=mI e
  br a.q.1 (K (bT b) (K (bt (d.2.1,d.q.1,d.r.1,()) [61]) Tr.err))
  (K (eG b mV)
   (br (cond (!c.r.1) O (c.q.1!=(X l:Int))) (re (Qe [nS,kb S]) []) (K (jA e)
   (br (!g.2) (re (Qe [nS,kb S]) []) (re (Qe [aS h.1 h.2.1 h.q.1 Qb Qb h.r.1 Qb Qb [I h.t.1,L h.u.1,L h.v.1,I h.w.1,I h.x.1,Qb] Qb Qb (xE c.1) h.p.q.1,kb O]) [])))))
def F9(x:TS):=ap [ay,Q7] zyL 100000000 (zya x)
def zbf(x:TS):=(F9 x).isSome
def gZ(x:TS):=o2 (F9 x)
def zp0:=FT [Q6] [ay,Q7] λx=>F9 x.1
theorem zkP:FK 29 zp0:=Ix.T1 (f:=Tryz.f29) (keep:=zt0) (e:=zwQ)
def zh2:=zh1.add 29 zp0
theorem Iy:zw zh2:=Ix.add zkP
def zx6(h:TS):Tr (Empty⊕aw):=
 K (zbf h)
 (re
  (aS ((gZ h).1.1) ((gZ h).1.2.1) ((gZ h).1.q.1) (N Q6 (gZ h).1.r.1) (N zn (gZ h).1.t.1) ((gZ h).1.u.1) (N Q6 (gZ h).1.v.1) (N (Sh.str.pr Q6) (gZ h).1.w.1) (xE (gZ h).1.x.1) (N R (gZ h).1.y.1) (N (Sh.str.pr Q5) (gZ h).1.z.1) (xE (gZ h).1.s.1) ((gZ h).1.p))
  [])
def zum(x:TS):=ap [ay] t0 100000000 (zx6 x)
def zpq:=FT [Q6] [ay] λx=>zum x.1
theorem zka:FK 9 zpq:=Iy.T1 (f:=Tryz.f9) (keep:=k0) (e:=e0)
def zh3:=zh2.add 9 zpq
theorem lQ:zw zh3:=Iy.add zka
def ziG(x h:zq):Tr (Empty⊕aw):=
 let b:=x.1==h.1&&(x.2.1==h.2.1&&(x.q==h.q&&O))
 let a:=bx b
 K (oW x h)
 (br (tv x h) (re (Qd [L 0,L 0,I []]) [])
  (K (mF b) (re (Qd [L a.1,L a.2.1,I a.q]) [])))
def rV(x h:zq):=ap [R] t0 100000000 (ziG x h)
def xt(x h:zq):=(rV x h).isSome
def tt(x h:zq):=o1 (rV x h)
def zgR:=FT [R,R] [R] λx=>rV x.1 x.2.1
theorem zcS:FK 170 zgR:=lQ.T1 (f:=Tryz.f170) (keep:=k0) (e:=e0)
def ziH(x h:zq):Tr (Empty⊕aw):=
 let b:=Op.bytesLess x.q h.q
 let a:=bx b
 K (oW x h)
 (br (tv x h) (re (Qd [L 0,L 0,I []]) [])
  (br (T (x.2.1<h.2.1)) (K O (re (Qd [L (bx O).1,L (bx O).2.1,I (bx O).q]) [])) (K (mF b) (re (Qd [L a.1,L a.2.1,I a.q]) []))))
def xu(x h:zq):=ap [R] t0 100000000 (ziH x h)
def CO(x h:zq):=(xu x h).isSome
def AQ(x h:zq):=o1 (xu x h)
def zgT:=FT [R,R] [R] λx=>xu x.1 x.2.1
theorem zcU:FK 171 zgT:=lQ.T1 (f:=Tryz.f171) (keep:=k0) (e:=e0)
def ziI(h x:zq):Tr (Empty⊕aw):=
 let b:=Γ Δ (9223372036854775807-x.2.1)
 let c:=Γ Δ (-9223372036854775808-x.2.1)
 let a:=bif T (x.2.1<0)then T (h.2.1<c)else S
 K (oW h x)
 (br (cond (tv h x) O (h.1!=1)) (re (Qd [L 0,L 0,I []]) [])
  (br (cond (T (x.2.1>0)) (cond (T (h.2.1>b)) O a) a) (re (Qd [L 0,L 0,I []]) []) (re (Qd [L 1,L (Γ Δ (h.2.1+x.2.1)),I []]) [])))
def xy(x h:zq):=ap [R] t0 100000000 (ziI x h)
def CR(x h:zq):=(xy x h).isSome
def AS(x h:zq):=o1 (xy x h)
def zgU:=FT [R,R] [R] λx=>xy x.1 x.2.1
theorem zcV:FK 102 zgU:=lQ.T1 (f:=Tryz.f102) (keep:=k0) (e:=e0)
def ziJ(h x:zq):Tr (Empty⊕aw):=
 let b:=Γ Δ (-9223372036854775808+x.2.1)
 let c:=Γ Δ (9223372036854775807+x.2.1)
 let a:=bif T (x.2.1<0)then T (h.2.1>c)else S
 K (oW h x)
 (br (cond (tv h x) O (h.1!=1)) (re (Qd [L 0,L 0,I []]) [])
  (br (cond (T (x.2.1>0)) (cond (T (h.2.1<b)) O a) a) (re (Qd [L 0,L 0,I []]) []) (re (Qd [L 1,L (Γ Δ (h.2.1-x.2.1)),I []]) [])))
def rX(x h:zq):=ap [R] t0 100000000 (ziJ x h)
def xv(x h:zq):=(rX x h).isSome
def tu(x h:zq):=o1 (rX x h)
def zgV:=FT [R,R] [R] λx=>rX x.1 x.2.1
theorem zcW:FK 172 zgV:=lQ.T1 (f:=Tryz.f172) (keep:=k0) (e:=e0)
def ziq(x:J Q5)(h:J zn.sl):Tr (Empty⊕aw):=
 br (zg.op x==[])
 (K (gV (zt x) (zg.mk [] (0,0,[]) [] []))
  (br (!fJ (zt x) (zg.mk [] (0,0,[]) [] [])) (re (L 1) []) (re (L 0) [])))
 (K (vW (zt x))
  (br (!FO (zt x)) (re (L 1) []) (K (qe (zt x) h) (br ((jy (zt x) h).2!=0) (re (L (jy (zt x) h).2) []) (br (cond ((jy (zt x) h).1!=0) ((jy (zt x) h).1!=3) S) (re (L 5) []) (re (L 0) []))))))
def r9(x:J Q5)(h:J zn.sl):=ap [zk] t0 100000000 (ziq x h)
def FV(x:J Q5)(h:J zn.sl):=(r9 x h).isSome
def Lk(x:J Q5)(h:J zn.sl):=o1 (r9 x h)
def zge:=FT [Q5,zn.sl] [zk] λx=>r9 x.1 x.2.1
theorem zce:FK 163 zge:=lQ.T1 (f:=Tryz.f163) (keep:=k0) (e:=e0)
def Km:=zh3.addL [(170,zgR),(171,zgT),(102,zgU),(172,zgV),(163,zge)]
theorem vA:zw Km:=lQ.addL<|fc zcS<|fc zcU<|fc zcV<|fc zcW<|fc zce jg
end
end Cad
