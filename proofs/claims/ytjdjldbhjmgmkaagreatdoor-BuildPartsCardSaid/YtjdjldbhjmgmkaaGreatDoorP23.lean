/- Copies of tables with rows. -/
import Derived.Test.YtjdjldbhjmgmkaaGreatDoorP22
namespace Cad
open Go Go.Proofs
open List renaming length->X
open IntKind renaming wrap->Γ,i64->Δ
open AO renaming box->Qa
open Sh renaming expr->Q5
open Bool renaming true->O,false->S
open Option renaming none->Q2,some->M
open Decidable renaming decide->T
open List renaming getD->Y
open Tr (chk br re)
open AV (nils agg tup ptr kb)
open AV renaming str->I,sl->N
open Cad renaming Sem->J,ai->L,ow->W,ze->R
set_option maxHeartbeats 4000000
noncomputable section
abbrev ZP:Nat->aX:=λj=>if j=7 then{slots:=[1,2,34,35]}else{ }
inductive UU where
 |h7 (i34:Int) (i35:Int) (ja0:J Sh.str) (ja2:zy) (ja5:zJ) (ja6:Int) (ja7:Int) (ja8:zJ) (ja9:zJ) (ja10:List (J Q5)) (jb0:List UInt8) (jb2:Int) (jb5:List UInt8) (jb6:Int) (jb7:Int) (jb8:List UInt8) (jb9:List UInt8) (lh_2:aT) (lh_3:ee) (lh_4:dK) (lh_5:List (J ze.sl))
abbrev Yg:UU->Nat×St
 |.h7 s u z A B D F G H j h0 h3 h4 h5 h6 h8 h9 h b d g=>(7,⟨tm 50 [(1,ptr 0 0),(2,ptr 1 0),(34,L s),(35,L u)],[Qa [I z,AV.vec 2,L A,AV.vec 3,AV.vec 4,I B,L D,L F,I G,I H,N Q5 j,AV.vec 5],Qa [I h0,nils,L h3,nils,nils,I h4,L h5,L h6,I h8,I h9,nils,nils],AO.vec zn h,AO.vec zk b,AO.vec zG d,AO.vec ze.sl g]⟩)
theorem zuX:zY Td.P 91 Tryz.f91 1:=cK kw
def zeM(h:ae):Tr (UU⊕aw):=
 chk (T (X h.1.2.1<=1073741824))
 (chk (T (X h.1.r.1<=1073741824))
  (chk (T (X h.1.t.1<=1073741824)) (chk (ol 16 (zt h.1.u)) (chk (T (X h.2<=1073741824)) (Tr.to (UU.h7 (X h.2:Int) 0 h.1.1 h.1.q.1 (zg.op h.1.u) (zg.v h.1.u).1 (zg.v h.1.u).2.1 (zg.v h.1.u).q
  (zg.s h.1.u) (zg.l h.1.u) [] 0 [] 0 0 [] [] h.1.2.1 h.1.r.1 h.1.t.1 h.2))))))
theorem zsF(h:ae):rn Td 0 ZP Tryz.f91 [zW zl h] []=(zeM h).map (lf Tryz.f91 Yg):=kw
def WT:UU->Tr (UU⊕aw)
 | .h7 u b z A B D F G H j h0 h3 h4 h5 h6 h8 h9 d g s h=>
  let a0:=T (b.toNat<X h)
  let a1:=h.getD b.toNat (zi ze.sl)
  br (T (b<u))
  (chk (zL b (X h))
   (chk a0 (chk (T (X a1<=1073741824)) (chk (zL b (X h)) (chk a0 (Tr.to (UU.h7 u (Γ Δ (b+1)) z A B D F G H j h0 h3 h4 h5 h6 h8 h9 d g s (h.set b.toNat a1))))))))
  (re
   (agg [I z,AV.vec 0,L A,AV.vec 1,AV.vec 2,I B,L D,L F,I G,I H,N Q5 j,AV.vec 3])
   [AO.vec zn d,AO.vec zk g,AO.vec zG s,AO.vec ze.sl h])
theorem zvj:∀s,run Td 0 ZP (Func.results Tryz.f91).toList 400 (am Tryz.f91 (Yg s).1) (Yg s).2=(WT s).map (lf Tryz.f91 Yg)
 |.h7 u z A B D F G H h0 j h3 h4 h5 h6 h8 h9 x0 h b d g=>by kernel_rfl
def zn5(ks:List Sh)(c:zF (ks.map M)->Bool)(g:zF (ks.map M)->aw):fD (ks.map M):=λx h=>match h with
 |[]=>.chk (c x) (.ok (g x))
 |_=>.err
theorem zlq{P:Program}{gl:Nat->AV}{σ:Type}{E:cu}{k:FuncId}{f:Func}{ks:List Sh}{keep:Nat->aX}{gas n:Nat}{e:σ->Nat×St}{t:σ->Tr (σ⊕aw)}{i:zF (ks.map M)->Tr (σ⊕aw)}{c:zF (ks.map M)->Bool}{g:zF (ks.map M)->aw}
  (z:zw E) (j:zY E.P k f (X ks)) (b:∀x,run E 0 keep f.results.toList gas (bq f) (bg f.ntmps (jk (ks.map M) x) [])=(i x).map (lf f e))
  (d:∀s,run E 0 keep f.results.toList gas (am f (e s).1) (e s).2=(t s).map (lf f e))
  (B:∀x,c x=O->bV t n (i x)=M (g x)) (F:E.P=P:=by rfl) (D:E.gl=gl:=by rfl):om P gl k (bf (ks.map M) (zn5 ks c g)):=by
 subst F D;refine dz (by simpa using j) λx H G h C u=>?_
 unfold zn5 at h;split at h
 .simp only[Tr.val]at h;split at h
  next A=>simp only[bG]at h;subst h;exact mz (n0:=0) z (by simpa using j) (λid _=>u id (aG _)) (n+1) _ _ _ (by rw[kc d (b x)];exact B x A) rfl
  .cases h
 .simp at h
def Qu(x:ae):aw:=(agg [I x.1.1,AV.vec 0,L x.1.q.1,AV.vec 1,AV.vec 2,I (zg.op x.1.u),L (zg.v x.1.u).1,L (zg.v x.1.u).2.1,I (zg.v x.1.u).q,I (zg.s x.1.u),N Q5 (zg.l x.1.u),AV.vec 3],
 [AO.vec zn x.1.2.1,AO.vec zk x.1.r.1,AO.vec zG x.1.t.1,AO.vec ze.sl x.2])
def Nh(x:ae):Bool:=T (X x.1.2.1<=1000000)&&T (X x.1.r.1<=1000000)&&T (X x.1.t.1<=1000000)&&ol 16 x.1.u&&T (X x.2<=1000000)&&List.all x.2 (λr=>T (X r<=1000000))
variable {α:Type}
theorem zbv(l:List α)(d:α)(i:Nat)(h:i<X l):l.set i (l.getD i d)=l:=by rw[bz,af h,bI];exact List.set_getElem_self h
theorem zec(x:ae)(d:Nh x=O):bV WT 100000000 (zeM x)=M (Qu x):=by
 unfold Nh at d;simp only[aN,aY,eu]at d;have⟨⟨⟨⟨⟨h1,h2⟩,h3⟩,D⟩,h5⟩,F⟩:=d
 have G:=dP (t:=WT) (β:=Unit) (X x.2) (λ_ i=>.h7 (X x.2:Int) (i:Int) x.1.1 x.1.q.1 (zg.op x.1.u) (zg.v x.1.u).1 (zg.v x.1.u).2.1 (zg.v x.1.u).q
   (zg.s x.1.u) (zg.l x.1.u) [] 0 [] 0 0 [] [] x.1.2.1 x.1.r.1 x.1.t.1 x.2) (λ_ _=>True) (λr=>r=Qu x) 1 (by
   intro b i h _;have g:X (Y x.2 i (zi ze.sl))<=1000000:=F _ (by rw[bz,af h,bI];exact bC h);simp only[WT,Tr.val,zN h,zx h,zj,aH,zB h,zbv _ _ _ h];rw[zu i um,zf (zB W)];exact Or.inl ⟨(),trivial,rfl⟩) (by
   intro b n _ hn;obtain⟨n,rfl⟩:∃k,n=k+1:=⟨n-1,W⟩;rw[dg];simp only[WT,Tr.val,zK];exact⟨_,rfl,rfl⟩) (X x.2) 0 () 100000000 rfl (aG _) trivial W
 obtain⟨r,H,rfl⟩:=G;unfold bV;have j:T (X x.1.2.1<=1073741824)=O:=zB W;have z:T (X x.1.r.1<=1073741824)=O:=zB W;have A:T (X x.1.t.1<=1073741824)=O:=zB W;have B:T (X x.2<=1073741824)=O:=zB W;simp only[zeM,Tr.val,j,z,A,B,zo,D,zj];exact H
def zpR:ag:=bf ([zl].map M) (zn5 [zl] (λx=>Nh x.1) (λx=>Qu x.1))
theorem zkE:FK 91 zpR:=zlq (ks:=[zl]) (keep:=ZP) (gas:=400) (n:=100000000) (e:=Yg) (t:=WT) (i:=λx=>zeM x.1) VR zuX (λx=>zsF x.1) zvj (λx h=>zec x.1 h)
def zel:=YQ.add 91 zpR
theorem NG:zw zel:=QJ.add zkE
def zeQ(h:ae):Tr (Empty⊕aw):=
 let b:=(h.1.1,h.1.2.1,h.1.q.1,h.1.r.1,h.1.t.1,zt h.1.u)
 let d:=sm h.2 (-1)
 let g:=sm h.2 h.1.q.1
 chk (Nh (b,h.2))
 (br (!dM b)
  (chk d.isSome (re (agg [I h.1.1,AV.vec 0,L h.1.q.1,AV.vec 1,AV.vec 2,I (zg.op h.1.u),L (zg.v h.1.u).1,L (zg.v h.1.u).2.1,I (zg.v h.1.u).q,I (zg.s h.1.u),N Q5 (zg.l h.1.u),AV.vec 3]) [AO.vec zn h.1.2.1,AO.vec zk h.1.r.1,
  AO.vec zG h.1.t.1,AO.vec ze.sl (d.getD [])]))
  (chk g.isSome (re (agg [I h.1.1,AV.vec 0,L h.1.q.1,AV.vec 1,AV.vec 2,I (zg.op h.1.u),L (zg.v h.1.u).1,L (zg.v h.1.u).2.1,I (zg.v h.1.u).q,I (zg.s h.1.u),N Q5 (zg.l h.1.u),AV.vec 3]) [AO.vec zn h.1.2.1,AO.vec zk h.1.r.1,
  AO.vec zG h.1.t.1,AO.vec ze.sl (g.getD [])])))
def AY(h:ae):=ap [zl] t0 100000000 (zeQ h)
def R4(h:ae):=(AY h).isSome
def zbh(h:ae):=o1 (AY h)
def zqh:=FT [zl] [zl] λx=>AY x.1
theorem zk5:FK 35 zqh:=NG.T1 (f:=Tryz.f35) (keep:=k0) (e:=e0)
def fY:=YN.add 35 zqh
theorem gH:zw fY:=IB.add zk5
abbrev ziT:Nat->aX:=λj=>if j=7 then{slots:=[2,3,6,9,10,11,34,35,36]}else if j=15 then{slots:=[6,9,11,14,15,57,58,59],prom:=[(14,M 11,.sl R)]}else{ }
inductive JV where
 |h7 (l2:zr) (i10:zy) (l34:List (J ze.sl)) (i35:Int) (i36:Int) (z0:zp [CP.d ar]) (z1:zp uj) (z2:zp wG) (mh_3:List ((Int×Int×zJ)×List (J ze.sl)))
 |h15 (i15:Int) (l57:zr) (i58:Int) (i59:Int) (z0:zp uj) (z1:zp wG) (z3:zp Ke) (mh_2:List ((Int×Int×zJ)×List (J ze.sl)))
abbrev Vv:JV->Nat×St
 |.h7 l2 g B s u z0 z1 z2 b=>(7,⟨tm 86 [(2,N R l2),(3,ptr 0 0),(6,ptr 1 0),(9,ptr 2 0),(10,L g),(11,AV.mp 3),(34,N ze.sl B),(35,L s),(36,L u)],[Qa (bL [] [CP.d ar] z0),Qa (bL [] uj z1),Qa (bL [] wG z2),AO.gmap ze.sl b]⟩)
 |.h15 j D z A z0 z1 F h=>(15,⟨tm 86 [(6,ptr 0 0),(9,ptr 1 0),(11,AV.mp 2),(14,ptr 3 0),(15,L j),(57,N R D),(58,L z),(59,L A)],[Qa (bL [] uj z0),Qa (bL [] wG z1),AO.gmap ze.sl h,Qa (bL [4] Ke F),AO.vec ze.sl F.2.1]⟩)
def V0(h:aA)(b:J zl.sl)(s:J ze.sl):Tr (JV⊕aw):=
 let d:=(h.1,h.2.1,h.q.1,(h.r.1.1,h.r.1.2.1,h.r.1.q.1,h.r.1.r.1,h.r.1.t.1,zt h.r.1.u),h.t)
 let g:=(d,b)
 let j:=Y b (Int.toNat 0) (zi zl)
 chk (Jg d b)
 (br (Wu d b !=0)
  (re (tup [agg ([I [],nils,L 0,nils,nils]++zE++[nils]),L 0,L 1]) [])
  (chk (XP g) (chk (zL 0 (X b)) (Tr.to (JV.h7 s (zlG g) j.2 (X j.2:Int) 0 (h,()) ([],0,[],0,0,[],[],()) ((h,b),()) [])))))
def Mf:JV->Tr (JV⊕aw)
 | .h7 l2 H B h0 g z0 z1 z2 D=>
  br (T (g<h0))
  (chk (zL g (X B)) (chk (zL H (X (B.getD g.toNat (zi ze.sl)))) Tr.err))
  (Tr.to (JV.h15 0 l2 (X l2:Int) 0 z1 z2 (z0.1.r.1,[],()) (mW D (0,0,[]))))
 | .h15 s j A h z0 z1 z b=>
  let a0:=((z1.1.1.1,z1.1.1.2.1,z1.1.1.q.1,(z1.1.1.r.1.1,z1.1.1.r.1.2.1,z1.1.1.r.1.q.1,z1.1.1.r.1.r.1,z1.1.1.r.1.t.1,zt z1.1.1.r.1.u),z1.1.1.t),z1.1.2)
  let F:=j.getD h.toNat (zi R)
  let a2:=lE b F
  let G:=zlH a0 F a2
  let a4:=((z.1.1,z.1.2.1,z.1.q.1,z.1.r.1,z.1.t.1,zt z.1.u),z.2.1)
  let d:=zbh a4
  br (T (h<A))
  (chk (zL h (X j)) (chk (XR a0 F a2) (chk (T (X z.2.1+X G.1<=1073741824)) (Tr.to (JV.h15 (Γ Δ (s+G.2)) j A (Γ Δ (h+1)) z0 z1 (z.1,z.2.1++G.1,()) (mW b F))))))
  (chk (R4 a4) (re (tup [agg ([I d.1.1,N zn d.1.2.1,L d.1.q.1,N zk d.1.r.1,N zG d.1.t.1]++xE d.1.u++[N ze.sl d.2]),L s,L 0]) []))
open Go
def Tr.asks:Tr α->List Bool
 |.chk c t=>c::t.asks
 |_=>[]
def Tr.leaf:Tr α->Option α
 |.chk _ t=>t.leaf
 |.ok a=>M a
 |_=>Q2
theorem Tr.val_leaf{a:α}:∀{t:Tr α},t.leaf=M a->t.asks.all id=O->t.val=M a
 |.err,h,_=>by cases h
 |.br ..,h,_=>by cases h
 |.ok _,h,_=>h
 | .chk c t,h,b=>by
  simp only[Tr.asks,List.all_cons,id,aN]at b;rw[Tr.val,zf b.1];exact Tr.val_leaf h b.2
structure wl (w:World) (U:Nat->Prop) (ρ:Nat->Option Value) (hp:Nat->AO) (w':World) (U':Nat->Prop) (ρ':Nat->Option Value) (hp':Nat->AO):Prop where
 ext:ly w w'
 same:∀b,b<w.heap.size->(∀id,¬an ρ id (hp id) b)->w'.heap[b]?=w.heap[b]?
 u1:∀b,b<w.heap.size->U' b->U b
 u2:∀b,b<w.heap.size->U b->(∀id,¬an ρ id (hp id) b)->U' b
 rho:∀id v,ρ id=M v->ρ' id=M v
 own:∀id b,an ρ' id (hp' id) b->(∃id,an ρ id (hp id) b)\/w.heap.size<=b
section
variable {E:cu} {gl:Nat->AV} {C:eW} {a:Act} {w w':World} {U U':Nat->Prop} {ρ ρ':Nat->Option Value} {hp hp':Nat->AO}
def DW(w:World)(U:Nat->Prop)(ρ:Nat->Option Value)(hp:Nat->AO):eW:={w0:=w,U0:=U,B0:=λb=>∃id,an ρ id (hp id) b,ρ0:=ρ}
theorem Ts(b:Wd gl C w U):Wd gl (DW w U ρ hp) w U:=⟨ly.refl w,λ_ _ _=>rfl,b.ub,λ_ _ h=>h,λ_ _ h _=>h,b.gl⟩
theorem Tq(h:fF C w U ρ hp):fF (DW w U ρ hp) w U ρ hp:=⟨h.ob,h.inj,λid _ b=>.inl ⟨id,b⟩⟩
theorem DL(s:fF (DW w U ρ hp) w' U' ρ' hp')(d:Wd gl (DW w U ρ hp) w' U')(u:∀id v,ρ id=M v->ρ' id=M v):wl w U ρ hp w' U' ρ' hp':=
 ⟨d.ext,λb g j=>d.same b g λ⟨id,h⟩=>j id h,d.u1,λb g z j=>d.u2 b g z λ⟨id,h⟩=>j id h,u,s.blk⟩
theorem SY(h:fF C w U ρ hp)(j:Wd gl C w U)(s:wl w U ρ hp w' U' ρ' hp')(z:∀b,U' b->b<w'.heap.size)(D:Dt gl w' U'):Wd gl C w' U':=by
 have B:∀b,b<C.w0.heap.size->¬C.B0 b->∀id,¬an ρ id (hp id) b:=λb d g id F=>(h.blk id b F).elim g (λq=>by omega)
 have A:∀b,b<C.w0.heap.size->b<w.heap.size:=λb d=>ia d j.ext.sz
 exact⟨j.ext.trans s.ext,λb d g=>(s.same b (A b d) (B b d g)).trans (j.same b d g),z,λb d u=>j.u1 b d (s.u1 b (A b d) u),λb d u g=>s.u2 b (A b d) (j.u2 b d u g) (B b d g),D⟩
theorem SX(h:fF C w U ρ hp)(g:Wd gl C w U)(d:fF (DW w U ρ hp) w' U' ρ' hp'):fF C w' U' ρ' hp':=
 ⟨d.ob,d.inj,λid b s=>(d.blk id b s).elim (λ⟨i,j⟩=>h.blk i b j) λq=>.inr (bc g.ext.sz q)⟩
theorem Po(A:zw E){id:Nat}{ops:Array Oper}{draw:Bool}{st s:St}(h:(jZ E ops.toList draw st).val=M s)(g:Cn C st a w U ρ)(j:Wd E.gl C w U):
  (Code.region id ops draw).wp E.P (λe u w'=>e=.normal/\∃U' ρ',Cn C s u w' U' ρ'/\Wd E.gl C w' U'/\wl w U ρ st.hp w' U' ρ' s.hp) a w:=by refine wp_mono (uI (C:=DW w U ρ st.hp) A h ⟨g.tm,Tq g.hp,g.new,g.df,λ_ _ h=>h⟩ (Ts j)) ?_;rintro e u w' ⟨rfl,U',ρ',b,d⟩;have z:=DL b.hp d b.r0;exact⟨rfl,U',ρ',⟨b.tm,SX g.hp j b.hp,b.new,b.df,λid v q=>b.r0 id v (g.r0 id v q)⟩,SY g.hp j z d.ub d.gl,z⟩
theorem OD(F:zw E){ops:List Oper}{Q:Exit->Act->World->Prop}{st':RS}{m:Nat}(G:∀g w' U' ρ',Bh C st' g w' U' ρ'->Wd E.gl C w' U'->∀k,k+m=X ops->wpOps E.P ops.toArray Q (List.range' k m) g w'):
  ∀(r:List Oper)(k:Nat)(st:RS)(a:Act)(w:World)(U:Nat->Prop)(ρ:Nat->Option Value)(s:List Oper),X s=m->r++s=ops.drop k->k+X r+m=X ops->(cq E ops r st).val=M st'->Bh C st a w U ρ->Wd E.gl C w U->
   wpOps E.P ops.toArray Q (List.range' k (X r+m)) a w
 | [],k,st,a,w,U,ρ,_,_,_,B,h,z,j=>by
  simp[cq]at h;subst h;have:=G a w U ρ z j k (by simpa using B);simpa using this
 | o::r,k,st,a,w,U,ρ,s,hs,hr,B,h,z,j=>by
  simp only[cq,Tr.val_bind,gC]at h;have⟨D,h1,h2⟩:=h;have d:ops.toArray[k]?=M o:=by
   have:ops[k]?=M o:=by
    have:=congrArg (·[0]?) hr;simpa[DE]using this.symm
   simpa using this
  have b:r++s=ops.drop (k+1):=by
   have:=congrArg List.tail hr;simpa using this
  have e:(o::r).length+m=(X r+m)+1:=by rw[fE];omega
  rw[e,List.range'_succ];simp only[wpOps,d];exact JI F h1 z j _ _ (λg w' U' ρ' A u=>OD F G r (k+1) D g w' U' ρ' s hs b (by rw[fE]at B;omega) h2 A u)
theorem zfh(D:zw E){b s:List Oper}{Q:Exit->Act->World->Prop}{st st':RS}(h:(cq E (b++s) b st).val=M st')(g:Bh C st a w U ρ)(A:Wd E.gl C w U)
  (F:∀z w' U' ρ',Bh C st' z w' U' ρ'->Wd E.gl C w' U'->wl w U ρ st.hp w' U' ρ' st'.hp->wpOps E.P (b++s).toArray Q (List.range' (X b) (X s)) z w'):
  wpOps E.P (b++s).toArray Q (List.range (b++s).toArray.size) a w:=by
 have:=OD (C:=DW w U ρ st.hp) D (ops:=b++s) (Q:=Q) (st':=st') (m:=X s) (λz w' U' ρ' d j k B=>by
  have B:k=X b:=by rw[jK]at B;omega
  subst B;have u:=DL d.hp j d.r0;exact F z w' U' ρ' ⟨d.tm,SX g.hp A d.hp,d.new,d.kn,d.df,λid v q=>d.r0 id v (g.r0 id v q)⟩ (SY g.hp A u j.ub j.gl) u)
  b 0 st a w U ρ s rfl rfl sw h ⟨g.tm,Tq g.hp,g.new,g.kn,g.df,λ_ _ h=>h⟩ (Ts A)
 rw[List.range_eq_range'];simpa using this
theorem wl.trans{s:World}{j:Nat->Prop}{u:Nat->Option Value}{d:Nat->AO}(h1:wl w U ρ hp w' U' ρ' hp')(h2:wl w' U' ρ' hp' s j u d):wl w U ρ hp s j u d:=by
 have D:∀b,b<w.heap.size->(∀id,¬an ρ id (hp id) b)->∀id,¬an ρ' id (hp' id) b:=λb h g id q=>(h1.own id b q).elim (λ⟨i,z⟩=>g i z) λq=>by omega
 have B:∀b,b<w.heap.size->b<w'.heap.size:=λb h=>ia h h1.ext.sz
 exact⟨h1.ext.trans h2.ext,λb h g=>(h2.same b (B b h) (D b h g)).trans (h1.same b h g),λb h A=>h1.u1 b h (h2.u1 b (B b h) A),λb h A g=>h2.u2 b (B b h) (h1.u2 b h A g) (D b h g),
  λid v q=>h2.rho id v (h1.rho id v q),λid b q=>(h2.own id b q).elim (λ⟨i,z⟩=>h1.own i b z) λq=>.inr (bc h1.ext.sz q)⟩
end
def md(c0:Nat)(ents:Array MapEntry)(clock:Nat):Prop:=clock=c0+ents.size/\∀(i:Nat)(e:MapEntry),ents[i]?=M e->e.born=c0+i
variable {ents:Array MapEntry}{clock:Nat}
theorem md.push{c0:Nat}(h:md c0 ents clock)(k v:Value):md c0 (ents.push {key:=k,val:=v,born:=clock}) (clock+1):=by
 refine⟨by have:=h.1;simp;omega,λi e b=>?_⟩;rw[Array.getElem?_push]at b;split at b
 next d=>cases b;rw[d];exact h.1
 .exact h.2 i e b
theorem md.modify{c0:Nat}(h:md c0 ents clock)(j:Nat)(f:MapEntry->MapEntry)(g:∀e,(f e).born=e.born):md c0 (ents.modify j f) clock:=by
 refine⟨by have:=h.1;simp;omega,λi e b=>?_⟩;rw[uz]at b;split at b
 .cases d:ents[i]? with
  |none=>rw[d]at b;simp at b
  | some e0=>
   rw[d]at b;simp at b;subst b;rw[g];exact h.2 i e0 d
 .exact h.2 i e b
def Hm(es:List (K3×Value))(k:K3):List (K3×Value):=match fQ es k 0 with
 |some _=>es
 |none=>es++[(k,.slice Q2 0 0)]
section
variable {P:Program} {w:World} {kt:TypeId} {k:K3}
variable {mt et:TypeId} {r:Nat} {ents:Array MapEntry} {clock c0:Nat} {es:List (K3×Value)}
theorem Pr(hm:P.underlying mt=M (.map kt et))(A:ii P kt=O){i:TypeInfo}(hi:P.info? et=M i)(hz:i.zero=M (.slice Q2 0 0))(hk:eX k)
  (F:w.heap[r]?=M (.map ents clock)) (G:(ents.toList.map λe=>(e.key,e.val))=wK es) (ho:∀p∈es,eX p.1) (H:md c0 ents clock):
  ∃(h:Array MapEntry)(b n:Nat),(Instr.mapEntry mt (.map (M r)) (cP k)).run P w=.ok (.tuple #[EV es k,.int .i64 (c0+n:Nat)]) {w with heap:=w.heap.setIfInBounds r (.map h b)}/\
   (h.toList.map λe=>(e.key,e.val))=wK (Hm es k)/\md c0 h b/\(Hm es k)[n]?=M (k,EV es k):=by
 have g:=nX (w:=w) A hk es ents.toList G ho;have h4:ents.size=X es:=by have:=congrArg X G;simpa using this
 unfold Hm EV;cases u:fQ es k 0 with
 | none=>
  rw[u]at g;refine⟨ents.push {key:=cP k,val:=.slice Q2 0 0,born:=clock},clock+1,ents.size,?_,?_,H.push _ _,?_⟩
  .simp[Instr.mapEntry,bN hm,g9 F,bP A,g,ov _ F,Result.andThen,zeroValue,typeInfo,hi,hz,H.1];rfl
  .simp_all
  .simp only[];rw[h4,pu (zM _),Nat.sub_self];rfl
 | some q=>
  obtain⟨j,m⟩:=q;rw[u]at g;obtain⟨_,z,_⟩:=vK u;rw[Nat.sub_zero]at z;have D:∃e,ents.toList[j]?=M e/\e.key=cP k:=by
   have:(ents.toList.map λe=>(e.key,e.val))[j]?=M (cP k,m):=by
    rw[G];simp[z]
   rw[dN,dW]at this;obtain⟨e,s,d⟩:=this;simp only[cO]at d;exact⟨e,s,d.1⟩
  obtain⟨e,s,d⟩:=D;have B:ents[j]?=M e:=by rw[<-rg];exact s
  have h0:=H.2 j e B;refine⟨ents.modify j λe=>{e with key:=cP k},clock,j,?_,?_,H.modify _ _ (λ_=>rfl),z⟩
  .have h3:(Instr.keyThatStays (cP k) (cP k)).run P w=.ok (cP k) w:=by
    simp[Instr.keyThatStays,nY]
   simp[Instr.mapEntry,bN hm,g9 F,bP A,g,B,d,h3,ov _ F,Result.andThen,h0];rfl
  .apply ox;intro q;have h5:(ents.toList.map λe=>(e.key,e.val))[q]?=(wK es)[q]?:=by rw[G]
   grind
theorem Ps{n:Nat}{v v':Value}(z:w.heap[r]?=M (.map ents clock))(A:(ents.toList.map λe=>(e.key,e.val))=wK es)(u:md c0 ents clock)(B:es[n]?=M (k,v)):
  ∃(h:Array MapEntry),(Instr.entryStore mt (.map (M r)) (.int .i64 (c0+n:Nat)) v').run P w=.ok () {w with heap:=w.heap.setIfInBounds r (.map h clock)}/\
   (h.toList.map λe=>(e.key,e.val))=wK (es.set n (k,v'))/\md c0 h clock:=by
 have F:ents.size=X es:=by have:=congrArg X A;simpa using this
 have d:n<ents.size:=by have:=(dF.1 B).1;omega
 have g:ents.findIdx? (λe=>(e.born:Int)==((c0+n:Nat):Int))=M n:=by
  rw[Array.findIdx?_eq_some_iff_getElem];refine⟨d,?_,λj G=>?_⟩
  .have:=u.2 n ents[n] (uh d);simp[this]
  .have:=u.2 j (ents[j]'ow) (uh W);simp[this];omega
 refine⟨ents.modify n λe=>{e with val:=v'},?_,?_,u.modify _ _ (λ_=>rfl)⟩
 .rw[wn]at g;simp[Instr.entryStore,g9 z,asInt,asIntOf,g,ov _ z,Result.andThen]
 .apply ox;intro q;have b:(ents.toList.map λe=>(e.key,e.val))[q]?=(wK es)[q]?:=by rw[A]
  simp only[dN,rg,uz,nf]at b|-;by_cases D:n=q
  .subst D;have s:n<X es:=by omega
   rw[uh d,B]at b;simp only[HW,bG,cO]at b;simp[uh d,s,b.1]
  .simp_all
end
section
variable {e:Sh} {w w':World} {U U':Nat->Prop} {ρ:Nat->Option Value} {v:Value} {l:List (J e)}
def gz(e:Sh)(w:World)(U:Nat->Prop)(v:Value)(l:List (J e)):Prop:=bv w U (λ_=>M v) 0 (.vec e l)
variable {id:Nat}
theorem UI{ρ':Nat->Option Value}{id':Nat}(j:ρ id=M v)(h:bv w U ρ id (.vec e l))(b:ρ' id'=M v):bv w U ρ' id' (.vec e l):=by have:=h.ren' (ρ':=ρ') (f:=λi=>i) (id':=id') (λx d=>by rw[j]at d;cases d;exact b) (λi g=>by simp[AO.ids]at g);simpa[AO.ren]using this
theorem zov(b:ρ id=M v)(h:bv w U ρ id (.vec e l)):gz e w U v l:=UI b h rfl
theorem gz.to(h:gz e w U v l)(b:ρ id=M v):bv w U ρ id (.vec e l):=UI rfl h b
theorem gz.one(h:gz e w U v l):v.oneCell'=O:=by have⟨a,c,h1,_⟩:=h;cases h1;rfl
theorem gz.blk(h:gz e w U v l){b:Nat}(d:cd v=M b):U b/\b<w.heap.size:=bv.inU h ⟨rfl,v,rfl,d⟩
theorem gz.mono(h:gz e w U v l)(s:w.heap.size<=w'.heap.size)(g:∀b,b<w.heap.size->¬U b->w'.heap[b]?=w.heap[b]?)(u:∀b,b<w.heap.size->U' b->U b)(j:∀b,cd v=M b->w'.heap[b]?=w.heap[b]?/\U' b):gz e w' U' v l:=
 bv.mono s g u (λ_ _ h=>h) h λb ⟨_,x,z,d⟩=>by cases z;exact j b d
theorem gz.rv(h:gz e w U v l)(s:∀b,U' b->U b)(j:∀b,cd v=M b->¬U' b):Rv w U' ρ (.sl e l) v:=by
 have h1:Rv w U' (λ_=>M v) (.sl e l) v:=wt (U:=U) (hp:=λ_=>.vec e l) (c:=.vec 0) (by simp[vj]) (.vec 0 v rfl h.one) s (λid d=>by simp[dt]at d;subst d;exact h) λid _ b ⟨_,x,u,g⟩=>by
  cases u;exact j b g
 have:=h1.ren (ρ':=ρ) (f:=λi=>i) (by simp[AV.ids]);simpa[AV.ren]using this
theorem gz.nil:gz e w U (.slice Q2 0 0) []:=⟨Q2,0,rfl,by simp[aD],.inl ⟨rfl,rfl⟩⟩
structure ue (e:Sh) (w:World) (U:Nat->Prop) (r c0:Nat) (gs:List (K3×Value)) (es:List (K3×List (J e))):Prop where
 mp:∃(ents:Array MapEntry)(clock:Nat),w.heap[r]?=M (.map ents clock)/\(ents.toList.map λe=>(e.key,e.val))=wK gs/\md c0 ents clock
 keys:gs.map (·.1)=es.map (·.1)
 nd:(gs.map (·.1)).Nodup
 ok:∀p∈gs,eX p.1
 own:∀(j:Nat)(p:K3×Value)(q:K3×List (J e)),gs[j]?=M p->es[j]?=M q->gz e w U p.2 q.2
 apart:∀(i j:Nat)(p q:K3×Value)(b:Nat),gs[i]?=M p->gs[j]?=M q->cd p.2=M b->cd q.2=M b->i=j
 far:∀p∈gs,cd p.2≠M r
 ur:U r
def MR(r:Nat)(gs:List (K3×Value))(b:Nat):Prop:=b=r\/∃p∈gs,cd p.2=M b
def vy(es:List (K3×List (J e)))(k:K3):List (K3×List (J e)):=if k∈es.map (·.1)then es else es++[(k,[])]
variable {r c0:Nat} {gs:List (K3×Value)} {es:List (K3×List (J e))} {k:K3}
theorem VT:(∃q,fQ gs k 0=M q)↔k∈gs.map (·.1):=by
 cases h:fQ gs k 0 with
 | none=>
  refine⟨λ⟨_,q⟩=>(by cases q),λb=>?_⟩;obtain⟨p,hp,rfl⟩:=bn.1 b;exact zA rfl (EU h p hp)
 | some q=>
  have⟨_,h2,_⟩:=vK h;exact⟨λ_=>bn.2 ⟨_,gg h2,rfl⟩,λ_=>⟨q,rfl⟩⟩
theorem Nt(b:gs.map (·.1)=es.map (·.1)):(k∈es.map (·.1)/\Hm gs k=gs/\vy es k=es)\/(k∉es.map (·.1)/\Hm gs k=gs++[(k,.slice Q2 0 0)]/\vy es k=es++[(k,[])]):=by
 have d:=VT (gs:=gs) (k:=k);unfold Hm vy;cases h:fQ gs k 0 with
 | none=>
  have g:k∉es.map (·.1):=λq=>by
   rw[<-b]at q;have⟨x,j⟩:=d.2 q;rw[h]at j;cases j
  exact .inr ⟨g,rfl,zh g⟩
 | some q=>
  have s:k∈es.map (·.1):=by rw[<-b];exact d.1 ⟨q,h⟩
  exact .inl ⟨s,rfl,zf s⟩
theorem MR.ent{b:Nat}(d:gs.map (·.1)=es.map (·.1)):MR r (Hm gs k) b↔MR r gs b:=by
 unfold MR;rcases Nt (k:=k) d with⟨_,h,_⟩|⟨_,h,_⟩
 .rw[h]
 .rw[h];simp[cd]
theorem ue.entry{P:Program}{mt kt et:TypeId}(G:ue e w U r c0 gs es)(hk:eX k)(hm:P.underlying mt=M (.map kt et))(F:ii P kt=O){i:TypeInfo}(hi:P.info? et=M i)(hz:i.zero=M (.slice Q2 0 0)):
  ∃(g:Array MapEntry)(d n:Nat),(Instr.mapEntry mt (.map (M r)) (cP k)).run P w=.ok (.tuple #[EV gs k,.int .i64 (c0+n:Nat)]) {w with heap:=w.heap.setIfInBounds r (.map g d)}/\
   ue e {w with heap:=w.heap.setIfInBounds r (.map g d)} U r c0 (Hm gs k) (vy es k)/\(Hm gs k)[n]?=M (k,EV gs k):=by
 obtain⟨ents,clock,hb,he,hs⟩:=G.mp;obtain⟨g,d,n,h1,h2,h3,h4⟩:=Pr (w:=w) hm F hi hz hk hb he G.ok hs;have u:=oz (o':=Obj.map g d) hb
 have keep:∀{v:Value}{l:List (J e)},gz e w U v l->cd v≠M r->gz e {w with heap:=w.heap.setIfInBounds r (.map g d)} U v l:=λh hr=>
  h.mono sw (λb _ hu=>u.2 b λq=>hu (q▸G.ur)) (λ_ _ h=>h) λb s=>⟨u.2 b λq=>hr (q▸s),(h.blk s).1⟩
 refine⟨g,d,n,h1,⟨⟨g,d,u.1,h2,h3⟩,?_,?_,?_,?_,?_,?_,G.ur⟩,h4⟩
 all_goals rcases Nt (k:=k) G.keys with⟨A,H,e2⟩|⟨A,H,e2⟩
 all_goals rw[H]
 all_goals try rw[e2]
 .exact G.keys
 .rw[gh,gh,G.keys];rfl
 .exact G.nd
 .rw[gh];refine List.nodup_append.2 ⟨G.nd,sw,λa ha b s q=>A ?_⟩;have:b=k:=by simpa using s
  rw[<-this,<-q,<-G.keys];exact ha
 .exact G.ok
 .intro p hp;rcases cX.1 hp with h|h
  .exact G.ok p h
  .obtain rfl:=fh.1 h;exact hk
 .exact λj p q hp z=>keep (G.own j p q hp z) (G.far p (gg hp))
 .intro j p q hp z;have hl:X gs=X es:=by simpa using congrArg X G.keys
  by_cases D:j<X gs
  .rw[rl D]at hp;rw[rl W]at z;exact keep (G.own j p q hp z) (G.far p (gg hp))
  .have B:j-X gs=0:=by
    rw[pu W]at hp;have:=(dF.1 hp).1;simp at this;omega
   rw[pu W,B]at hp;rw[pu W,<-hl,B]at z;cases hp;cases z;exact gz.nil
 .exact G.apart
 .intro i j p q b hp z h5 h6;have lt:∀(i:Nat)(p:K3×Value),(gs++[(k,Value.slice Q2 0 0)])[i]?=M p->cd p.2=M b->gs[i]?=M p:=λi p hp s=>by
   by_cases D:i<X gs
   .rwa [rl D]at hp
   .rw[pu W]at hp;have:=gg hp;obtain rfl:=fh.1 this;simp[cd]at s
  exact G.apart i j p q b (lt i p hp h5) (lt j q z h6) h5 h6
 .exact G.far
 .intro p hp;rcases cX.1 hp with h|h
  .exact G.far p h
  .obtain rfl:=fh.1 h;simp[cd]
end
section
variable {e:Sh} {w w':World} {U U':Nat->Prop} {ρ:Nat->Option Value} {v:Value} {l:List (J e)} {r c0:Nat} {gs:List (K3×Value)} {es:List (K3×List (J e))} {k:K3}
theorem Ti{ents h:Array MapEntry}{clock j:Nat}(d:w.heap[r]?=M (.map ents clock)):ly w {w with heap:=w.heap.setIfInBounds r (.map h j)}:=by
 have⟨g,s⟩:=oz (o':=Obj.map h j) d;refine⟨sw,rfl,rfl,rfl,λa _=>?_⟩;by_cases b:a.block=r
 .unfold World.frozen?;simp only[b,g,d]
 .exact Bl (s a.block b)
structure Xz (w:World) (U:Nat->Prop) (r:Nat) (gs:List (K3×Value)) (w':World) (U':Nat->Prop) (gs':List (K3×Value)):Prop where
 ext:ly w w'
 same:∀b,b<w.heap.size->¬MR r gs b->w'.heap[b]?=w.heap[b]?
 u1:∀b,b<w.heap.size->U' b->U b
 u2:∀b,b<w.heap.size->U b->¬MR r gs b->U' b
 ub:∀b,U' b->b<w'.heap.size
 new:∀b,MR r gs' b->MR r gs b\/w.heap.size<=b
theorem ue.inU(G:ue e w U r c0 gs es){b:Nat}(h:MR r gs b):U b/\b<w.heap.size:=by
 rcases h with rfl|⟨p,hp,d⟩
 .have⟨_,_,h,_⟩:=G.mp;exact⟨G.ur,(mU.1 h).1⟩
 .obtain⟨j,g,rfl⟩:=fO hp;have s:X gs=X es:=by simpa using congrArg X G.keys
  exact(G.own j _ (es[j]'ow) (af g) (af W)).blk d
variable {et:TypeId}{x:J e}{vx:Value}
theorem ue.store{E:cu}(hE:EnvOk E){n:Nat}{h0:TypeId}(G:ue e w U r c0 gs es)(H:gs[n]?=M (k,v))(x9:es[n]?=M (k,l))(hu:E.P.underlying et=M (.slice h0))(a7:E.sh h0=M e)(hx:Rv w U ρ (.sl e [x]) vx)(a8:∀b,U b->b<w.heap.size)(i0:X l<=1000)(mt ty:TypeId):
  ∃D w2 w3 U3,(Builtin.append_ #[et,et] ty #[v,vx]).run E.P w=.ok D w2/\(Instr.entryStore mt (.map (M r)) (.int .i64 (c0+n:Nat)) D).run E.P w2=.ok () w3/\
   ue e w3 U3 r c0 (gs.set n (k,D)) (es.set n (k,l++[x]))/\Xz w U r gs w3 U3 (gs.set n (k,D)):=by
 have hv:=G.own n _ _ H x9;have x5:=G.far _ (gg H);obtain⟨ents,clock,s,he,hs⟩:=G.mp;have x1:r<w.heap.size:=(mU.1 s).1;have a1:bv w U (kx (λ_=>Q2) 0 v) 0 (.vec e l):=hv.to (by simp[kx]);have h8:∀{b:Nat},an (kx (λ_=>Q2) 0 v) 0 (.vec e l) b->cd v=M b:=λ⟨_,y,hy,s⟩=>by simp[kx]at hy;subst hy;exact s
 have a5:(oK E (λid=>if id=0 then .vec e l else .dead) 1 h0 (.vec 0) (.sl e [x])).val=M {val:=.vec 1,wr:=[(0,.dead)],nw:=[.vec e (l++[x])]}:=by
  have hd:T (X l+[x].length<=1073741824)=O:=by simp;omega
  simp only[oK,a7,zj,vj,dite_true,Tr.val,hd]
 obtain⟨D,w2,U2,ρ2,a3,d,_⟩:=BE hE (w:=w) (U:=U) (ρ:=kx (λ_=>Q2) 0 v) (t:=et) (t':=et) (ty:=ty) (vb:=v) (vx:=vx) (fp:=[0]) a5 hu hu (.vec 0 v (by simp[kx]) hv.one)
  (by have:=hx.ren (ρ':=kx (λ_=>Q2) 0 v) (f:=λi=>i) (by simp[AV.ids]);simpa[AV.ren]using this) a8
  ⟨λid x8=>by simp at x8;subst x8;exact a1,λi hi j hj _ _ _=>by simp at hi hj;omega⟩ (by simp[AV.ids]) (by simp[AV.ids]) (by simp[kx])
 have x3:ρ2 1=M D:=by have:=d.val;cases this with|vec _ _ h _=>exact h
 have a9:gz e w2 U2 D (l++[x]):=zov x3 (d.nw 0 _ rfl);have B:∀b,cd v≠M b->∀id o,(id,o)∈([(0,AO.dead)]:List (Nat×AO))->¬an (kx (λ_=>Q2) 0 v) id (ite (id=0) (.vec e l) (.dead)) b:=λb s id o h4 ho=>by
  simp at h4;obtain⟨rfl,_⟩:=h4;exact s (h8 ho)
 have z:∀b,cd D=M b->w.heap.size<=b\/cd v=M b:=λb g=>by
  rcases d.own 1 (.vec e (l++[x])) b (.inr ⟨zM _,rfl⟩) ⟨rfl,D,x3,g⟩with h|⟨i,o,h4,ho⟩
  .exact .inl h
  .simp at h4;obtain⟨rfl,_⟩:=h4;exact .inr (h8 ho)
 have x4:w2.heap[r]?=M (.map ents clock):=(d.same r x1 (B r x5)).trans s;have x2:U2 r:=d.u2 r x1 G.ur (B r x5);have i1:(wK gs)[n]?=M (cP k,v):=by rw[dN,H];rfl
 obtain⟨A,h1,h2,h3⟩:=Ps (P:=E.P) (mt:=mt) (w:=w2) (v':=D) x4 he hs H;have F:=oz (o':=Obj.map A clock) x4;have a2:cd D≠M r:=λq=>(z r q).elim (λh=>by omega) x5
 have Oc:∀{v:Value}{l:List (J e)},gz e w2 U2 v l->cd v≠M r->gz e {w2 with heap:=w2.heap.setIfInBounds r (.map A clock)} U2 v l:=λh hr=>
  h.mono sw (λb _ hu=>F.2 b λq=>hu (q▸x2)) (λ_ _ h=>h) λb g=>⟨F.2 b λq=>hr (q▸g),(h.blk g).1⟩
 have x7:∀{u:Value}{m:List (J e)},gz e w U u m->(∀b,cd u=M b->cd v≠M b)->gz e w2 U2 u m:=λh hd=>
  h.mono d.ext.sz (λb s hu=>d.same b s (B b λq=>hu (hv.blk q).1)) d.u1 λb g=>⟨d.same b (h.blk g).2 (B b (hd b g)),d.u2 b (h.blk g).2 (h.blk g).1 (B b (hd b g))⟩
 have hl:X gs=X es:=by simpa using congrArg X G.keys
 have a6:=(dF.1 H).1;have h9:∀{j:Nat}{p:K3×Value},(gs.set n (k,D))[j]?=M p->(j=n/\p=(k,D))\/(j≠n/\gs[j]?=M p):=λ{j p} hp=>by
  rw[nf]at hp;split at hp
  next q=>cases hp;exact .inl ⟨q.symm,rfl⟩
  next q=>exact .inr ⟨λh=>q h.symm,hp⟩
 have h7:(gs.set n (k,D)).map (·.1)=gs.map (·.1):=by
  rw[List.map_set];apply ox;intro i;rw[nf];split
  next q=>subst q;rw[dN,H,zf (by simpa using a6)];rfl
  .rfl
 have x0:(es.set n (k,l++[x])).map (·.1)=es.map (·.1):=by
  rw[List.map_set];apply ox;intro i;rw[nf];split
  next q=>subst q;rw[dN,x9,zf sg];rfl
  .rfl
 refine⟨D,w2,_,U2,a3,h1,⟨⟨A,clock,F.1,h2,h3⟩,by rw[h7,x0];exact G.keys,by rw[h7];exact G.nd,λp hp=>?_,λj p q hp hq=>?_,λi j p q b hp hq h5 h6=>?_,λp hp=>?_,x2⟩,?_⟩
 .rcases SL hp with h|rfl
  .exact G.ok p h
  .exact G.ok (k,v) (gg H)
 .rcases h9 hp with⟨rfl,rfl⟩|⟨hj,hp⟩
  .rw[List.getElem?_set_self W]at hq;cases hq;exact Oc a9 a2
  .rw[DC (λq=>hj q.symm)]at hq;exact Oc (x7 (G.own j p q hp hq) λb h5 h6=>hj (G.apart j n p _ b hp H h5 h6)) (G.far p (gg hp))
 .have a4:∀{j:Nat}{p:K3×Value},gs[j]?=M p->cd p.2=M b->b<w.heap.size:=λ{j p} hp g=>(G.inU (.inr ⟨p,gg hp,g⟩)).2
  rcases h9 hp with⟨rfl,rfl⟩|⟨hi,x6⟩
  .rcases h9 hq with⟨rfl,rfl⟩|⟨hj,hq⟩
   .rfl
   .rcases z b h5 with h|h
    .have:=a4 hq h6;omega
    .exact G.apart _ j _ q b H hq h h6
  .rcases h9 hq with⟨rfl,rfl⟩|⟨hj,hq⟩
   .rcases z b h6 with h|h
    .have:=a4 x6 h5;omega
    .exact G.apart i _ p _ b x6 H h5 h
   .exact G.apart i j p q b x6 hq h5 h6
 .rcases SL hp with h|rfl
  .exact G.far p h
  .exact a2
 .have a0:∀b,¬MR r gs b->cd v≠M b:=λb s q=>s (.inr ⟨_,gg H,q⟩)
  refine⟨d.ext.trans (Ti x4),λb s hg=>(F.2 b λq=>hg (.inl q)).trans (d.same b s (B b (a0 b hg))),d.u1,λb s hu hg=>d.u2 b s hu (B b (a0 b hg)),λb s=>by have:=d.ub b s;simpa using this,λb s=>?_⟩;rcases s with rfl|⟨p,hp,s⟩
  .exact .inl (.inl rfl)
  .rcases SL hp with h|rfl
   .exact .inl (.inr ⟨p,h,s⟩)
   .exact(z b s).elim .inr λh=>.inl (.inr ⟨_,gg H,h⟩)
theorem ue.add{E:cu}(hE:EnvOk E){mt kt elem:TypeId}(G:ue e w U r c0 gs es)(hk:eX k)(hm:E.P.underlying mt=M (.map kt et))(h5:ii E.P kt=O){i:TypeInfo}(hi:E.P.info? et=M i)(hz:i.zero=M (.slice Q2 0 0))(hu:E.P.underlying et=M (.slice elem))(h0:E.sh elem=M e)
    (hx:Rv w U ρ (.sl e [x]) vx) (h4:∀b,U b->b<w.heap.size) (A:∀q∈es,X q.2<=1000) (ty:TypeId):
  ∃v s w1 v' w2 w3 U3 H n l,(Instr.mapEntry mt (.map (M r)) (cP k)).run E.P w=.ok (.tuple #[v,s]) w1/\(Builtin.append_ #[et,et] ty #[v,vx]).run E.P w1=.ok v' w2/\(Instr.entryStore mt (.map (M r)) s v').run E.P w2=.ok () w3/\
   (vy es k)[n]?=M (k,l)/\ue e w3 U3 r c0 H ((vy es k).set n (k,l++[x]))/\Xz w U r gs w3 U3 H:=by
 have⟨j,g,n,h1,G1,hn⟩:=G.entry (P:=E.P) hk hm h5 hi hz;have⟨ents,clock,hb,_⟩:=G.mp;have B:=oz (o':=Obj.map j g) hb;obtain⟨l,D⟩:∃l,(vy es k)[n]?=M (k,l):=by
  have e1:((vy es k).map (·.1))[n]?=M k:=by rw[<-G1.keys,dN,hn];rfl
  rw[dN,dW]at e1;obtain⟨⟨k',l⟩,h,rfl⟩:=e1;exact⟨l,h⟩
 have hl:X l<=1000:=by
  have:=gg D;unfold vy at this;split at this
  .exact A _ this
  .rcases cX.1 this with h|h
   .exact A _ h
   .have:=fh.1 h;cases this;exact aG _
 have h6:Rv {w with heap:=w.heap.setIfInBounds r (.map j g)} U ρ (.sl e [x]) vx:=hx.mono sw (λb _ hu=>B.2 b λq=>hu (q▸G.ur)) (λ_ _ h=>h) λ_ _ h=>h
 have⟨v',w2,w3,U3,h2,h3,G3,d⟩:=G1.store hE hn D hu h0 h6 (λb hb=>by have:=h4 b hb;simpa using this) hl mt ty;have F:∀b,MR r (Hm gs k) b↔MR r gs b:=λb=>MR.ent G.keys
 have z:({w with heap:=w.heap.setIfInBounds r (.map j g)}:World).heap.size=w.heap.size:=by simp
 refine⟨_,_,_,v',w2,w3,U3,_,n,l,h1,h2,h3,D,G3,⟨(Ti hb).trans d.ext,λb u hg=>(d.same b (by rw[z];exact u) (λq=>hg ((F b).1 q))).trans (B.2 b λq=>hg (.inl q)),λb u=>d.u1 b (by rw[z];exact u),λb u hu hg=>d.u2 b (by rw[z];exact u) hu (λq=>hg ((F b).1 q)),d.ub,λb u=>?_⟩⟩;rcases d.new b u with h|h
 .exact .inl ((F b).1 h)
 .rw[z]at h;exact .inr h
end
def wj(E:cu)(C:eW)(fn:FuncId)(todo:List Item)(h:Act->World->Prop)(Q:AV->List AO->Prop):Prop:=
 ∀(b:Frame)(cs:List Frame)(a:Act)(w:World),b.fn=fn->b.kind=.normal->h a w->∃e w' d,U9 E C Q e w'/\Comes E.P (lone (b.at a todo) cs w) (lone d cs w') e/\d.fn=fn/\d.leaving E.P w' e
section
variable {E:cu} {C:eW} {fn:FuncId} {Q:AV->List AO->Prop} {todo k:List Item} {st:St} {c:Code}
variable {b:Act->World->Prop}
theorem wj.of(h:Reach E C fn todo st Q)(j:∀a w,b a w->∃U ρ,Cn C st a w U ρ/\Wd E.gl C w U):wj E C fn todo b Q:=λd cs a w h1 h2 g=>by
 have⟨U,ρ,u,s⟩:=j a w g;exact h d cs a w U ρ h1 h2 u s
theorem wj.reach(h:wj E C fn todo b Q)(g:∀a w U ρ,Cn C st a w U ρ->Wd E.gl C w U->b a w):Reach E C fn todo st Q:=λd cs a w U ρ h1 h2 s j=>h d cs a w h1 h2 (g a w U ρ s j)
theorem wj.round{z:Act->World->Prop}(h:wj E C fn (.code c::.inLoop c::k) z Q)(D:∀a w,b a w->c.wp E.P (λe j w'=>e=.normal/\z j w') a w):wj E C fn (.code c::.inLoop c::k) b Q:=by intro d cs a w h1 h2 B;obtain⟨e,j,w',⟨rfl,s⟩,g⟩:=D a w B d (.inLoop c::k) cs;have⟨e,u,A,F,G,H⟩:=h d cs j w' h1 h2 s;exact⟨e,u,A,F,mg g (mg (.one step_inLoop) G),H⟩
theorem wj.rounds(n:Nat)(b:Nat->Act->World->Prop)(s:∀i,i<n->∀a w,b i a w->c.wp E.P (λe g w'=>e=.normal/\b (i+1) g w') a w)(h:wj E C fn (.code c::.inLoop c::k) (b n) Q):wj E C fn (.code c::.inLoop c::k) (b 0) Q:=by
 have d:∀j,j<=n->wj E C fn (.code c::.inLoop c::k) (b (n-j)) Q:=by
  intro j
  induction j with
  |zero=>exact λ_=>h
  | succ j u=>
   grind[round]
 have:=d n (zM _)
 rwa [Nat.sub_self]at this
end
section
variable {gl:Nat->AV} {C:eW} {a:Act} {w:World} {U:Nat->Prop} {ρ:Nat->Option Value} {e:Sh} {m r c0:Nat} {gs:List (K3×Value)} {es:List (K3×List (J e))} {tm:List AV} {h1 h2:List AO}
structure kC (C:eW) (e:Sh) (tm:List AV) (h1 h2:List AO) (a:Act) (w:World) (U:Nat->Prop) (ρ:Nat->Option Value) (r c0:Nat) (gs:List (K3×Value)) (es:List (K3×List (J e))):Prop where
 cn:Cn C ⟨tm,h1++.dead::h2⟩ a w U ρ
 at_:ρ (X h1)=M (.map (M r))
 gr:ue e w U r c0 gs es
 far:∀id b,an ρ id ((⟨tm,h1++.dead::h2⟩:St).hp id) b->¬MR r gs b
 rb:C.B0 r\/C.w0.heap.size<=r
 nb:∀p∈gs,∀b,cd p.2=M b->C.w0.heap.size<=b
theorem wZ(o:AO)(id:Nat):(⟨tm,h1++o::h2⟩:St).hp id=if id=X h1 then o else(⟨tm,h1++.dead::h2⟩:St).hp id:=by
 show(h1++o::h2).getD id .dead=if id=X h1 then o else(h1++.dead::h2).getD id .dead
 grind
theorem zeA(g:Cn C ⟨tm,h1++.gmap e []::h2⟩ a w U ρ):∃r c0,kC C e tm h1 h2 a w U ρ r c0 [] []:=by
 have A:=g.hp.ob (X h1);rw[wZ,zf rfl]at A;have⟨r,ents,clock,gs,B,q2,q3,q4,q5,q6,q7⟩:=A;have z:gs=[]:=by simpa using q6
 subst z;have H:ents=#[]:=by simpa using q5
 subst H;have s:an ρ (X h1) ((⟨tm,h1++.gmap e []::h2⟩:St).hp (X h1)) r:=by
  rw[wZ,zf rfl];exact⟨rfl,_,B,rfl⟩
 have u:∀id b,an ρ id ((⟨tm,h1++.dead::h2⟩:St).hp id) b->id≠X h1/\an ρ id ((⟨tm,h1++.gmap e []::h2⟩:St).hp id) b:=λid b h=>by
  by_cases d:id=X h1
  .rw[wZ,zf d]at h;cases h.1
  grind[wZ]
 refine⟨r,clock,⟨⟨g.tm,⟨λid=>?_,λi j b F G=>g.hp.inj i j b (u i b F).2 (u j b G).2,λid b h=>g.hp.blk id b (u id b h).2⟩,λid d=>g.new id (by simpa using d),g.df,g.r0⟩,B,⟨⟨#[],clock,q3,sw,⟨sw,sw⟩⟩,rfl,sw,sw,sw,sw,sw,q2⟩,λid b h D=>?_,g.hp.blk _ _ s,sw⟩⟩
 .rw[wZ];split
  .trivial
  .rename_i d;have:=g.hp.ob id
   rwa [wZ,zh d]at this
 .rcases D with rfl|⟨p,hp,_⟩
  .exact(u id _ h).1 (g.hp.inj id (X h1) _ (u id _ h).2 s)
  .cases hp
theorem VZ(h:kC C e tm h1 h2 a w U ρ r c0 gs es)(D:Wd gl C w U):∃U',Cn C ⟨tm,h1++.gmap e es::h2⟩ a w U' ρ/\Wd gl C w U':=by
 refine⟨λb=>U b/\¬∃p∈gs,cd p.2=M b,⟨?_,⟨λid=>?_,λi j b hi hj=>?_,λid b u=>?_⟩,λid d=>h.cn.new id (by simpa using d),h.cn.df,h.cn.r0⟩,⟨D.ext,D.same,λb s=>D.ub b s.1,λb s F=>D.u1 b s F.1,λb s F hB=>⟨D.u2 b s F hB,λ⟨p,hp,h0⟩=>by have:=h.nb p hp b h0;omega⟩,λg=>(D.gl g).weak λ_ h=>h.1⟩⟩
 .exact⟨h.cn.tm.len,λj c v hc A=>(h.cn.tm.rv j c v hc A).weak λ_ h=>h.1⟩
 .rw[wZ];split
  next d=>subst d;have⟨ents,clock,g1,g2,g3⟩:=h.gr.mp;refine⟨r,ents,clock,gs,h.at_,⟨h.gr.ur,λ⟨p,hp,s⟩=>h.gr.far p hp s⟩,g1,⟨by simpa using(congrArg X h.gr.keys).symm,λj c v hc A=>?_⟩,g2,h.gr.keys,h.gr.ok⟩;rw[dN,dW]at hc A;obtain⟨q,hq,rfl⟩:=hc;obtain⟨p,hp,rfl⟩:=A;exact(h.gr.own j p q hp hq).rv (λ_ h=>h.1) λb s F=>F.2 ⟨p,gg hp,s⟩
  next d=>refine(h.cn.hp.ob id).mono (zM _) (λ_ _ _=>rfl) (λ_ _ h=>h.1) (λ_ _ h=>h) λb u=>⟨rfl,(bv.inU (h.cn.hp.ob id) u).1,λ⟨p,hp,s⟩=>h.far id b u (.inr ⟨p,hp,s⟩)⟩
 .have z:∀id b,an ρ id ((⟨tm,h1++.gmap e es::h2⟩:St).hp id) b->(id=X h1/\b=r)\/(id≠X h1/\an ρ id ((⟨tm,h1++.dead::h2⟩:St).hp id) b):=λid b u=>by
   rw[wZ]at u;split at u
   next d=>have⟨_,v,A,s⟩:=u;rw[d,h.at_]at A;cases A;cases s;exact .inl ⟨d,rfl⟩
   next d=>exact .inr ⟨d,u⟩
  rcases z i b hi with⟨e1,G⟩|⟨e1,G⟩
  .rcases z j b hj with⟨H,B⟩|⟨H,B⟩
   .rw[e1,H]
   .exact zA (.inl G) (h.far j b B)
  .rcases z j b hj with⟨H,B⟩|⟨H,B⟩
   .exact zA (.inl B) (h.far i b G)
   .exact h.cn.hp.inj i j b G B
 .rw[wZ]at u;split at u
  next d=>have⟨_,v,A,s⟩:=u;rw[d,h.at_]at A;cases A;cases s;exact h.rb
  .exact h.cn.hp.blk id b u
variable {w':World}{U':Nat->Prop}
theorem ue.keep(G:ue e w U r c0 gs es)(A:w.heap.size<=w'.heap.size)(u:∀b,b<w.heap.size->¬U b->w'.heap[b]?=w.heap[b]?)(B:∀b,b<w.heap.size->U' b->U b)(h:∀b,MR r gs b->w'.heap[b]?=w.heap[b]?/\U' b):ue e w' U' r c0 gs es:=by refine⟨?_,G.keys,G.nd,G.ok,λj p q hp z=>(G.own j p q hp z).mono A u B λb s=>h b (.inr ⟨p,gg hp,s⟩),G.apart,G.far,(h r (.inl rfl)).2⟩;have⟨ents,clock,g,d⟩:=G.mp;exact⟨ents,clock,(h r (.inl rfl)).1.trans g,d⟩
variable {tm':List AV}
theorem kC.keep{s:Act}{ρ':Nat->Option Value}(h:kC C e tm h1 h2 a w U ρ r c0 gs es)(A:Cn C ⟨tm',h1++.dead::h2⟩ s w' U' ρ')(g:wl w U ρ (⟨tm,h1++.dead::h2⟩:St).hp w' U' ρ' (⟨tm',h1++.dead::h2⟩:St).hp):kC C e tm' h1 h2 s w' U' ρ' r c0 gs es:=by
 have u:∀b,MR r gs b->∀id,¬an ρ id ((⟨tm,h1++.dead::h2⟩:St).hp id) b:=λb d id j=>h.far id b j d
 refine⟨A,g.rho _ _ h.at_,h.gr.keep g.ext.sz (λb z F=>g.same b z λid j=>F (bv.inU (h.cn.hp.ob id) j).1) g.u1 (λb d=>⟨g.same b (h.gr.inU d).2 (u b d),g.u2 b (h.gr.inU d).2 (h.gr.inU d).1 (u b d)⟩),λid b j d=>?_,h.rb,h.nb⟩;rcases g.own id b j with⟨i,B⟩|D
 .exact h.far i b B d
 .have:=(h.gr.inU d).2;omega
theorem kC.left{u:List (K3×Value)}{D:List (K3×List (J e))}(h:kC C e tm h1 h2 a w U ρ r c0 gs es)(B:Wd gl C w U)(d:Xz w U r gs w' U' u)(G:ue e w' U' r c0 u D):kC C e tm h1 h2 a w' U' ρ r c0 u D/\Wd gl C w' U':=by
 have hk:∀b,b<w.heap.size->¬U b->w'.heap[b]?=w.heap[b]?:=λb s H=>d.same b s λF=>H (h.gr.inU F).1
 have h0:∀b,b<C.w0.heap.size->¬C.B0 b->¬MR r gs b:=λb s z F=>by
  rcases F with rfl|⟨p,hp,A⟩
  .exact h.rb.elim z λq=>by omega
  .have:=h.nb p hp b A;omega
 have h3:=B.ext.sz
 refine⟨⟨⟨⟨h.cn.tm.len,λj c v hc hv=>(h.cn.tm.rv j c v hc hv).mono d.ext.sz hk d.u1 λ_ _ h=>h⟩,⟨λid=>(h.cn.hp.ob id).mono d.ext.sz hk d.u1 (λ_ _ h=>h) λb ho=>?_,h.cn.hp.inj,h.cn.hp.blk⟩,h.cn.new,h.cn.df,h.cn.r0⟩,h.at_,G,λid b ho F=>?_,h.rb,λp hp b s=>?_⟩,
  ⟨B.ext.trans d.ext,λb s z=>(d.same b W (h0 b s z)).trans (B.same b s z),d.ub,λb s H=>B.u1 b s (d.u1 b W H),λb s H z=>d.u2 b W (B.u2 b s H z) (h0 b s z),λg=>(B.gl g).mono d.ext.sz hk d.u1 λ_ _ h=>h⟩⟩
 .have⟨u1,u2⟩:=bv.inU (h.cn.hp.ob id) ho;grind[Xz.same,far,Xz.u2]
 .have⟨u1,u2⟩:=bv.inU (h.cn.hp.ob id) ho;rcases d.new b F with q|q
  .exact h.far id b ho q
  .omega
 .rcases d.new b (.inr ⟨p,hp,s⟩)with(q|⟨p',hp',A⟩)|q
  .exact zA (q▸s) (G.far p hp)
  .exact h.nb p' hp' b A
  .omega
theorem kC.slots{b:Act}(h:kC C e tm h1 h2 a w U ρ r c0 gs es)(g:dn w U ρ tm' b.tmps.toList)(d:b.defers=[]):kC C e tm' h1 h2 b w U ρ r c0 gs es:=⟨⟨g,h.cn.hp,h.cn.new,d,h.cn.r0⟩,h.at_,h.gr,h.far,h.rb,h.nb⟩
def uN(ks:List Nat)(l:List AV):List AV:=l.mapIdx λi c=>if ks.contains i then c else .any
theorem KQ{ks:List Nat}{l:List AV}{g:List Value}(h:dn w U ρ l g):dn w U ρ (uN ks l) g:=⟨by unfold uN;rw[List.length_mapIdx];exact h.len,λj c v b u=>by
 unfold uN at b;rw[List.getElem?_mapIdx,dW]at b;obtain⟨s,d,rfl⟩:=b;split
 .exact h.rv j s v d u
 .exact .any _⟩
end
section
variable {E:cu} {C:eW} {a:Act} {w:World} {U:Nat->Prop} {ρ:Nat->Option Value} {e:Sh} {r c0:Nat} {gs:List (K3×Value)} {es:List (K3×List (J e))} {tm tm':List AV} {h1 h2:List AO} {cs:List Bool}
theorem JO{α:Type}{t:Tr α}{s:α}(h:t.leaf=M s)(d:t.asks=cs)(b:cs.all id=O):t.val=M s:=Tr.val_leaf h (by rw[d];exact b)
theorem kC.region(B:zw E){id:Nat}{ops:List Oper}(ks:List Nat)(h:kC C e tm h1 h2 a w U ρ r c0 gs es)(F:Wd E.gl C w U)
  (A:(jZ E ops S ⟨tm,h1++.dead::h2⟩).leaf.map (λs=>(uN ks s.tmps,s.heap))=M (tm',h1++.dead::h2)) (H:(jZ E ops S ⟨tm,h1++.dead::h2⟩).asks=cs) (G:cs.all _root_.id=O):
  (Code.region id ops.toArray S).wp E.P (λu j w'=>u=.normal/\∃U' ρ',kC C e tm' h1 h2 j w' U' ρ' r c0 gs es/\Wd E.gl C w' U') a w:=by rw[dW]at A;have⟨s,hs,z⟩:=A;have⟨st,sh⟩:=s;simp only[cO]at z;obtain⟨rfl,rfl⟩:=z;have hv:=JO hs H G;refine wp_mono (Po (id:=id) (draw:=S) (ops:=ops.toArray) B (by simpa using hv) h.cn F) ?_;rintro u j w' ⟨rfl,U',ρ',g,d,D⟩;have b:=h.keep g D;exact⟨rfl,U',ρ',b.slots (KQ b.cn.tm) b.cn.df,d⟩
variable {Q:Exit->Act->World->Prop}
theorem kC.ops(D:zw E){id:Nat}{b d:List Oper}(ks:List Nat)(h:kC C e tm h1 h2 a w U ρ r c0 gs es)(H:Wd E.gl C w U)
  (B:(cq E (b++d) b {tmps:=tm,heap:=h1++.dead::h2}).leaf.map (λs=>(uN ks s.tmps,s.heap))=M (tm',h1++.dead::h2)) (hk:(cq E (b++d) b {tmps:=tm,heap:=h1++.dead::h2}).asks=cs) (hc:cs.all _root_.id=O)
  (G:∀g w' U' ρ',kC C e tm' h1 h2 g w' U' ρ' r c0 gs es->Wd E.gl C w' U'->wpOps E.P (b++d).toArray Q (List.range' (X b) (X d)) g w'):(Code.region id (b++d).toArray S).wp E.P Q a w:=by rw[dW]at B;have⟨s,hs,A⟩:=B;have hv:=JO hs hk hc;have⟨st,sh,kn,tc,lg⟩:=s;simp only[cO]at A;obtain⟨rfl,rfl⟩:=A;refine wp_region (zfh D hv h.cn.toR H λg w' U' ρ' z u F=>?_);have j:=h.keep (tm':=st) z.out F;exact G g w' U' ρ' (j.slots (KQ j.cn.tm) j.cn.df) u
variable {P:Program}{b:Array Oper}{v:Value}{w':World}
theorem ua{k m:Nat}{o:Oper}(g:b[k]?=M o)(d:o.guard=Q2)(j:(execOp a.eval o).run P w=.ok (.value v) w')(h:wpOps P b Q (List.range' (k+1) m) (a.put o.dst v) w'):wpOps P b Q (List.range' k (m+1)) a w:=by rw[List.range'_succ];simp only[wpOps,g,Region.wanted,d,zj];exact .inl (fC j h)
theorem Sy{k m:Nat}{o:Oper}(g:b[k]?=M o)(d:o.guard=Q2)(j:(execOp a.eval o).run P w=.ok .skip w')(h:wpOps P b Q (List.range' (k+1) m) (a.put o.dst undef) w'):wpOps P b Q (List.range' k (m+1)) a w:=by rw[List.range'_succ];simp only[wpOps,g,Region.wanted,d,zj];exact .inl (sG j h)
section
variable {P:Program} {w':World} {f:Operand->Value} {o:Oper} {v x y:Value} {t t':TypeId} {m k p q:Operand}
theorem Hl(h1:o.op=.mapEntry t m k)(b:f m=x)(d:f k=y)(h:(Instr.mapEntry t x y).run P w=.ok v w'):(execOp f o).run P w=.ok (.value v) w':=by subst b d;simp[execOp,h1,h]
theorem Cf{z:Value}(h1:o.op=.entryStore t m k p)(b:f m=x)(d:f k=y)(g:f p=z)(h:(Instr.entryStore t x y z).run P w=.ok () w'):(execOp f o).run P w=.ok .skip w':=by subst b d g;simp[execOp,h1,h]
theorem wS{b:Array Value}{i:Nat}(h1:o.op=.extract m i)(d:f m=.tuple b)(h:b[i]?=M v):(execOp f o).run P w=.ok (.value v) w:=by simp[execOp,h1,d,Instr.extract,h]
theorem NK(h1:o.op=.call {callee:=.builtin .append,args:=#[p,q],argTypes:=#[t,t']})(b:f p=x)(d:f q=y)(h:(Builtin.append_ #[t,t'] o.type #[x,y]).run P w=.ok v w'):(execOp f o).run P w=.ok (.value v) w':=by subst b d;simp[execOp,h1,resolve,invoke,builtin,h]
end
theorem kF{a:Act}{d t:Nat}(h:d<a.tmps.size):(a.put (M d) v).eval (.tmp t)=if t=d then v else a.eval (.tmp t):=by
 simp only[Act.eval,Act.put];rw[qP,qP];split
 next e=>subst e;simp[h]
 next e=>rw[Array.getElem?_setIfInBounds_ne (λq=>e q.symm)]
theorem GA{a:Act}{d:Option Nat}:(a.put d v).tmps.size=a.tmps.size:=by cases d<;>simp[Act.put]
theorem dn.slot{l:List AV}(h:dn w U ρ l a.tmps.toList)(t:Nat):Rv w U ρ (l.getD t .any) (a.eval (.tmp t)):=by
 show Rv w U ρ _ (a.tmps.getD t undef);by_cases b:t<X l
 .have d:t<a.tmps.toList.length:=by rw[<-h.len];exact b
  refine h.rv t _ _ (by simp_all) ?_;simp_all
 .rw[bz,fg W];exact .any _
end
def lv(l:List K3):List K3:=l.foldl (λh a=>if a∈h then h else h++[a]) []
theorem tf(l:List K3)(a:K3):lv (l++[a])=if a∈lv l then lv l else lv l++[a]:=by unfold lv;rw[List.foldl_append];rfl
theorem Az(Φ:List K3->List K3->Prop)(j:Φ [] [])(h1:∀l a,Φ l (lv l)->Φ (l++[a]) (lv (l++[a]))):∀l,Φ l (lv l):=by
 have g:∀(n:Nat)(l:List K3),X l=n->Φ l (lv l):=by
  intro n
  induction n with
  |zero=>intro l d;rw[List.length_eq_zero_iff.1 d];exact j
  | succ n s=>
   intro l d;obtain⟨h,b,rfl⟩:∃h b,l=h++[b]:=⟨l.dropLast,l.getLast (List.ne_nil_of_length_pos W),(List.dropLast_concat_getLast _).symm⟩;exact h1 h b (s h (by simpa using d))
 exact λl=>g _ l rfl
theorem I4(a:K3)(l:List K3):a∈lv l↔a∈l:=
 Az (λl u=>a∈u↔a∈l) Iff.rfl (λl b g=>by
  rw[tf];split
  .rename_i h;rw[g,cX,fh];exact⟨.inl,λq=>q.elim id λe=>e▸(Az (λl u=>∀x∈u,x∈l) (λ_ h=>h) (λl c h x d=>by
    rw[tf]at d;split at d
    .exact List.mem_append_left _ (h x d)
    .rcases cX.1 d with q|q
     .exact List.mem_append_left _ (h x q)
     .exact List.mem_append_right _ q) l) b h⟩
  .rw[cX,cX,g]) l
theorem BQ(l:List K3):(lv l).Nodup:=
 Az (λ_ u=>u.Nodup) List.nodup_nil (λl b d=>by
  rw[tf];split
  .exact d
  .rename_i h;refine List.nodup_append.2 ⟨d,sw,λx g y j e=>h ?_⟩;have:y=b:=by simpa using j
   rw[<-this,<-e];exact g) l
def dL(at_:Int)(rows:List zr):List (K3×List zr):=(lv (rows.map λrow=>zP at_ row)).map λk=>(k,rows.filter λrow=>k==zP at_ row)
section
variable {at_:Int} {rows:List (List (J R))} {row:List (J R)}
theorem BJ:(dL at_ rows).map (·.1)=lv (rows.map λrow=>zP at_ row):=by unfold dL;rw[qC];exact List.map_id _
theorem NX{n:Nat}{l:List zr}(z:(vy (e:=.sl R) (dL at_ rows) (zP at_ row))[n]?=M (zP at_ row,l)):
  (vy (e:=.sl R) (dL at_ rows) (zP at_ row)).set n (zP at_ row,l++[row])=dL at_ (rows++[row]):=by
 have b:vy (e:=.sl R) (dL at_ rows) (zP at_ row)=(lv ((rows++[row]).map λrow=>zP at_ row)).map λk=>(k,rows.filter λrow=>k==zP at_ row):=by
  unfold vy;rw[BJ,gh,ew,rm,tf];split
  .rfl
  .rename_i h;rw[gh];have:(rows.filter λr=>zP at_ row==zP at_ r)=[]:=List.filter_eq_nil_iff.2 λr F u=>h ((I4 _ _).2 (bn.2 ⟨r,F,(bX u).symm⟩))
   rw[ew,rm,this];rfl
 have d:=BQ ((rows++[row]).map λrow=>zP at_ row);rw[b]at z|-;unfold dL;generalize lv ((rows++[row]).map λrow=>zP at_ row)=ks at z d|-;apply ox;intro j;rw[dN,dW]at z;have⟨k,A,u⟩:=z;simp only[cO]at u;obtain⟨rfl,rfl⟩:=u;have s:=(dF.1 A).1;rw[dN,nf];split
 next q=>subst q;rw[A,zf (by simpa using s)];simp
 .rename_i q;rw[dN];cases D:ks[j]? with
  |none=>rfl
  | some G=>
   have B:(G==zP at_ row)=S:=by
    rw[dX];intro e;subst e;have h1:=(dF.1 D).1;refine q ?_;exact(List.getElem_inj (h₀:=s) (h₁:=h1) d).1 (by rw[(dF.1 A).2,(dF.1 D).2])
   have g:=dX.1 B;simpa[List.filter_append]using g
theorem Rh(k:K3):lE (e:=.sl R) (dL at_ rows) k=rows.filter λrow=>k==zP at_ row:=by
 have b:∀ks:List K3,(k∈ks->lE (e:=.sl R) (ks.map λk=>(k,rows.filter λrow=>k==zP at_ row)) k=(rows.filter λrow=>k==zP at_ row))/\(k∉ks->lE (e:=.sl R) (ks.map λk=>(k,rows.filter λrow=>k==zP at_ row)) k=[]):=by
  intro ks
  induction ks with
  |nil=>exact⟨λh=>(by cases h),λ_=>rfl⟩
  | cons a r d=>
   have e:lE (e:=.sl R) ((a::r).map λk=>(k,rows.filter λrow=>k==zP at_ row)) k=bif k==a then rows.filter λrow=>a==zP at_ row else lE (e:=.sl R) (r.map λk=>(k,rows.filter λrow=>k==zP at_ row)) k:=rfl
   rw[e];by_cases h:k=a
   .subst h;simp
   .have g:(k==a)=S:=by simpa using h
    rw[g,aJ];exact⟨λq=>d.1 (by simpa[h]using q),λq=>d.2 λw=>q (nc _ w)⟩
 unfold dL;by_cases h:k∈lv (rows.map λrow=>zP at_ row)
 .exact(b _).1 h
 .rw[(b _).2 h];exact(List.filter_eq_nil_iff.2 λr s j=>h ((I4 _ _).2 (bn.2 ⟨r,s,(bX j).symm⟩))).symm
theorem Tn{e:Sh}{es:List (K3×List (J e))}(g:(es.map (·.1)).Nodup) (u k:K3):lE (mW es u) k=if k=u then[]else lE es k:=by
 induction es with
 |nil=>split<;>rfl
 | cons p r B=>
  rw[ew,List.nodup_cons]at g;have b:∀{s:List (K3×List (J e))},p.1∉s.map (·.1)->lE s p.1=[]:=by
   intro s
   induction s with
   |nil=>exact λ_=>rfl
   | cons q s j=>
    intro h;rw[ew,bZ,not_or]at h;have:(p.1==q.1)=S:=by simpa using h.1
    show(cond (p.1==q.1) q.2 (lE s p.1))=[];rw[this,aJ];exact j h.2
  show lE (cond (u==p.1) r (p::mW r u)) k=_;by_cases h:u=p.1
  .subst h;rw[beq_self_eq_true,aI];split
   next q=>subst q;exact b g.1
   .rename_i q;have:(k==p.1)=S:=by simpa using q
    show _=bif k==p.1 then p.2 else lE r k
    rw[this,aJ]
  .have z:(u==p.1)=S:=by simpa using h
   rw[z,aJ];show(cond (k==p.1) p.2 (lE (mW r u) k))=if k=u then[]else bif k==p.1 then p.2 else lE r k
   rw[B g.2];cases A:k==p.1 with
   |false=>rfl
   | true=>
    have:k=p.1:=bX A;have d:¬k=u:=λq=>h (q.symm.trans this)
    simp only[zh d,aI]
theorem H4{e:Sh}{es:List (K3×List (J e))}(h:(es.map (·.1)).Nodup) (u:K3):((mW es u).map (·.1)).Nodup:=h.sublist ((ES u es).map _)
theorem wX:((dL at_ rows).map (·.1)).Nodup:=by rw[BJ];exact BQ _
end
set_option maxRecDepth 100000
def Fc:Code:=match Tryz.f13.body with
 |some (.seq _ (.seq _ (.seq _ (.seq _ (.seq _ (.seq (.seq _ (.block _ (.loop c))) _))))))=>c
 |_=>.skip
def Pm:Code->List Oper
 |.region _ h _=>h.toList
 |_=>[]
def zn6:List (List Oper):=match Fc with
 |.seq a (.seq _ (.seq (.block _ (.seq b c)) d))=>[Pm a,Pm b,(Pm c).take 7,(Pm c).drop 7,Pm d]
 |_=>[]
def Xb(i:Nat):List Oper:=zn6.getD i []
theorem Wf:Fc=.seq (.region 7 (Xb 0).toArray S) (.seq (.cond (.tmp 37) .skip (.exit 0)) (.seq (.block 1 (.seq (.region 8 (Xb 1).toArray S) (.region 9 (Xb 2++Xb 3).toArray S))) (.region 10 (Xb 4).toArray S))):=kw
theorem zvI:(Xb 3).map (λo=>(o.dst,o.op,o.guard.isNone,o.type))=[(M 48,.mapEntry 91 (.tmp 40) (.tmp 44),O,0),(M 45,.extract (.tmp 48) 0,O,36),(M 49,.call {callee:=.builtin .append,args:=#[.tmp 45,.tmp 47],argTypes:=#[36,36]},O,36),(M 50,.extract (.tmp 48) 1,O,3),(Q2,.entryStore 91 (.tmp 40) (.tmp 50) (.tmp 49),O,0)]:=kw
theorem zmp:∃k,am Tryz.f13 7=.code Fc::.inLoop Fc::k:=⟨(am Tryz.f13 7).drop 2,kw⟩
abbrev tmB(l2:zr)(b:zy)(d:List (J ze.sl))(n i:Int)(h:List (Nat×AV)):List AV:=tm 86 ([(2,N R l2),(3,ptr 0 0),(6,ptr 1 0),(9,ptr 2 0),(10,L b),(11,AV.mp 3),(34,N ze.sl d),(35,L n),(36,L i)]++h)
abbrev hpB(z0:zp [CP.d ar])(z1:zp uj)(z2:zp wG):List AO:=[Qa (bL [] [CP.d ar] z0),Qa (bL [] uj z1),Qa (bL [] wG z2)]
abbrev Xa:List Nat:=[2,3,6,9,10,11,34,35,36]
section
variable {C:eW} {a:Act} {w:World} {U:Nat->Prop} {ρ:Nat->Option Value} {r c0:Nat} {gs:List (K3×Value)} {l2:List (J R)} {at':Int} {rows:List (List (J R))} {z0:zp [CP.d ar]} {z1:zp uj} {z2:zp wG} {n i:Int}
theorem zup{α:Type}:∀l:List α,X l=5->∃a b c d e,l=[a,b,c,d,e]
 |[a,b,c,d,e],_=>⟨a,b,c,d,e,rfl⟩
theorem zol{es:List (K3×List zr)}{k:K3}{row:zr}{tm':List AV}{Q:Exit->Act->World->Prop}(h:kC C ze.sl tm' (hpB z0 z1 z2) [] a w U ρ r c0 gs es)(hW:Wd fY.gl C w U)
  (F:tm'.getD 40 .any=.mp 3/\tm'.getD 44 .any=kav k/\tm'.getD 47 .any=.sl ze.sl [row]/\X tm'=86) (h7:∀q∈es,X q.2<=1000)
  (hQ:∀a' w' U' H j l,kC C ze.sl (uN Xa tm') (hpB z0 z1 z2) [] a' w' U' ρ r c0 H ((vy (e:=ze.sl) es k).set j (k,l++[row]))->(vy (e:=ze.sl) es k)[j]?=M (k,l)->Wd fY.gl C w' U'->Q .normal a' w') (hk:∀x∈[48,45,49,50],¬x∈Xa):
  wpOps fY.P (Xb 2++Xb 3).toArray Q (List.range' (Xb 2).length (Xb 3).length) a w:=by
 have⟨t1,t2,t3,t4⟩:=F;have h4:=h.cn.tm.slot 40;have x1:=h.cn.tm.slot 44;have x2:=h.cn.tm.slot 47;rw[t1]at h4;rw[t2]at x1;rw[t3]at x2;have⟨x9,a5⟩:=Ax x1;have h6:a.eval (.tmp 40)=.map (M r):=by
  generalize a.eval (.tmp 40)=v at h4;cases h4 with
  | mp _ _ hv _=>
   have:=h.at_;rw[show(hpB z0 z1 z2).length=3 from rfl,hv]at this;cases this;rfl
 have hz:(Tryz.prog.info? 36).map (λi=>i.zero)=M (M (.slice Q2 0 0)):=by kernel_rfl
 rw[dW]at hz;have⟨a9,hi,hz⟩:=hz;have⟨v,s,w1,v',w2,w3,U3,H,j,l,q1,q2,q3,q4,G3,b⟩:=h.gr.add (E:=fY) (mt:=91) (kt:=30) (et:=36) (elem:=39) gH.toEnvOk a5 kw kw hi hz kw kw (x:=row) x2 hW.ub h7 36;have⟨h3,a0⟩:=h.left hW b G3;have hs:=zvI;have a7:a.tmps.size=86:=by have:=h.cn.tm.len;simpa[t4]using this.symm
 generalize Xb 3=x3 at hs|-;generalize Xb 2=G;have a6:X x3=5:=by simpa using congrArg X hs
 obtain⟨o1,o2,o3,o4,o5,rfl⟩:=zup x3 a6;simp only[ew,rm,Bp,cO,Option.isNone_iff_eq_none,and_true]at hs;have⟨⟨d1,p1,g1,_⟩,⟨d2,p2,g2,_⟩,⟨d3,p3,g3,y3⟩,⟨d4,p4,g4,_⟩,⟨d5,p5,g5,_⟩⟩:=hs;have u:∀j,(G++[o1,o2,o3,o4,o5]).toArray[X G+j]?=[o1,o2,o3,o4,o5][j]?:=λj=>by
  rw[SN,pu W,Nat.add_sub_cancel_left]
 generalize(G++[o1,o2,o3,o4,o5]).toArray=i0 at u|-;generalize(X G)=g at u|-;have h5:(a.put (M 48) (.tuple #[v,s])).eval (.tmp 48)=.tuple #[v,s]:=by rw[kF W,zf rfl]
 have x7:(a.put (M 48) (.tuple #[v,s])).tmps.size=86:=by rw[GA,a7]
 generalize z:a.put (M 48) (.tuple #[v,s])=a1 at h5 x7;have h8:∀t,t≠48->a1.eval (.tmp t)=a.eval (.tmp t):=λt F=>by rw[<-z,kF W,zh F]
 have x8:(a1.put (M 45) v).tmps.size=86:=by rw[GA,x7]
 have x4:(a1.put (M 45) v).eval (.tmp 45)=v:=by rw[kF W,zf rfl]
 generalize A:a1.put (M 45) v=a2 at x4 x8;have h0:∀t,t≠45->a2.eval (.tmp t)=a1.eval (.tmp t):=λt F=>by rw[<-A,kF W,zh F]
 have a8:(a2.put (M 49) v').tmps.size=86:=by rw[GA,x8]
 have x5:(a2.put (M 49) v').eval (.tmp 49)=v':=by rw[kF W,zf rfl]
 generalize B:a2.put (M 49) v'=a3 at x5 a8;have h9:∀t,t≠49->a3.eval (.tmp t)=a2.eval (.tmp t):=λt F=>by rw[<-B,kF W,zh F]
 have x6:(a3.put (M 50) s).eval (.tmp 50)=s:=by rw[kF W,zf rfl]
 generalize D:a3.put (M 50) s=a4 at x6;have x0:∀t,t≠50->a4.eval (.tmp t)=a3.eval (.tmp t):=λt F=>by rw[<-D,kF W,zh F]
 refine ua (v:=.tuple #[v,s]) (w':=w1) (u 0) g1 (Hl p1 h6 x9 q1) ?_;rw[d1,z];refine ua (v:=v) (w':=w1) (u 1) g2 (wS p2 h5 rfl) ?_;rw[d2,A];refine ua (v:=v') (w':=w2) (u 2) g3 (NK p3 x4 (by rw[h0 47 (by decide),h8 47 (by decide)]) (by rw[y3];exact q2)) ?_;rw[d3,B];refine ua (v:=s) (w':=w2) (u 3) g4 (wS p4 (by rw[h9 48 (by decide),h0 48 (by decide)];exact h5) rfl) ?_;rw[d4,D];refine Sy (w':=w3) (u 4) g5 (Cf p5 (by rw[x0 40 (by decide),h9 40 (by decide),h0 40 (by decide),h8 40 (by decide)];exact h6) x6 (by rw[x0 49 (by decide)];exact x5) q3) ?_;rw[d5];refine hQ _ w3 U3 H j l (h3.slots ?_ (by rw[<-D,<-B,<-A,<-z];exact h3.cn.df)) q4 a0;have f1:=nC (d:=M 48) h3.cn.tm (.any (.tuple #[v,s]));have f2:=nC (d:=M 45) f1 (.any v);have f3:=nC (d:=M 49) f2 (.any v');have f4:=KQ (ks:=Xa) (nC (d:=M 50) f3 (.any s));have e:uN Xa (mX (mX (mX (mX tm' (M 48) .any) (M 45) .any) (M 49) .any) (M 50) .any)=uN Xa tm':=by
  unfold uN mX;apply ox;intro j;simp only[List.getElem?_mapIdx];cases hb:Xa.contains j with
  | true=>
   have hj:j∈Xa:=by simpa using hb
   have ne:∀x∈[48,45,49,50],x≠j:=λx hx e=>hk x hx (e▸hj)
   rw[DC (ne 50 sw),DC (ne 49 sw),DC (ne 45 sw),DC (ne 48 sw)]
  | false=>
   by_cases hj:j<X tm'<;>simp[hj]
 rw[e,z,A,B,D]at f4;exact f4
theorem zfz(hn:n=(X rows:Int)){i:Nat}(g:i<X rows)(hl:X rows<=1000)(B:∀row∈rows,zL at' (X row)=O)(h:kC C ze.sl (tmB l2 at' rows n (i:Int) []) (hpB z0 z1 z2) [] a w U ρ r c0 gs (dL at' (rows.take i)))(hW:Wd fY.gl C w U):
  Fc.wp fY.P (λe a' w'=>e=.normal/\∃U' ρ' r c0 A,kC C ze.sl (tmB l2 at' rows n ((i+1:Nat):Int) []) (hpB z0 z1 z2) [] a' w' U' ρ' r c0 A (dL at' (rows.take (i+1)))/\Wd fY.gl C w' U') a w:=by
 obtain⟨row,d⟩:∃row,Y rows (i:Int).toNat (zi ze.sl)=row:=⟨_,rfl⟩;have b:rows[i]=row:=by rw[<-d,zX _ _ g]
 rw[Wf];refine wp_seq (wp_mono (kC.region gH (Xa++[37]) (tm':=tmB l2 at' rows n (i:Int) [(37,AV.bool (T ((i:Int)<n)))]) (cs:=[]) h hW kw kw rfl) ?_);rintro e u w1 ⟨rfl,G,ρ1,h1,W1⟩;have z:u.eval (.tmp 37)=.bool O:=by
  have D:Rv w1 G ρ1 (AV.bool (T ((i:Int)<n))) (u.eval (.tmp 37)):=h1.cn.tm.slot 37;rw[hn,zN g]at D;generalize u.eval (.tmp 37)=v at D;cases D;rfl
 refine wp_seq (wp_cond_true z (wp_skip ?_));refine wp_seq (wp_block (wp_seq (wp_mono (kC.region gH (Xa++[13]) (tm':=tmB l2 at' rows n (i:Int) [(13,N R (Y rows (i:Int).toNat (zi ze.sl)))]) (cs:=[zL (i:Int) (X rows)]) h1 W1 kw kw (by rw[zx g];rfl)) ?_)));rintro e a2 w2 ⟨rfl,U2,ρ2,h2,W2⟩;rw[d]at h2;refine kC.ops gH (Xa++[40,44,47]) (tm':=tmB l2 at' rows n (i:Int) [(40,.mp 3),(44,kav (zP at' row)),(47,.sl ze.sl [row])]) (cs:=[zL at' (X row)]) h2 W2 kw kw (by rw[B row (b▸bC g)];rfl) λa3 w3 U3 ρ3 h3 W3=>?_
 refine zol (k:=zP at' row) (row:=row) h3 W3 ⟨rfl,rfl,rfl,rfl⟩ (λq hq=>?_) (λa4 w4 U4 h0 j l s hj W4=>?_) (by decide)
 .obtain⟨x,_,rfl⟩:=bn.1 hq;exact bc (List.length_filter_le _ _) sg
 .rw[NX hj]at s;have e1:rows.take i++[row]=rows.take (i+1):=by rw[bF g,b]
  rw[e1]at s;have e2:uN Xa (tmB l2 at' rows n (i:Int) [(40,.mp 3),(44,kav (zP at' row)),(47,.sl ze.sl [row])])=tmB l2 at' rows n (i:Int) []:=by kernel_rfl
  rw[e2]at s;refine wp_mono (kC.region gH Xa (tm':=tmB l2 at' rows n (Γ Δ ((i:Int)+1)) []) (cs:=[]) s W4 kw kw rfl) ?_;rintro e a5 w5 ⟨rfl,H,ρ5,F,W5⟩;rw[zu i um]at F;exact⟨rfl,H,ρ5,_,_,_,F,W5⟩
end
section
variable {C:eW} {l2:List (J R)} {at':Int} {rows:List (List (J R))} {z0:zp [CP.d ar]} {z1:zp uj} {z2:zp wG} {Q:AV->List AO->Prop}
theorem zfu(A:X rows<=1000)(s:∀row∈rows,zL at' (X row)=O)(h:Reach fY C 13 (am Tryz.f13 7) (Vv (.h7 l2 at' rows (X rows) (X rows) z0 z1 z2 (dL at' rows))).2 Q):
  Reach fY C 13 (am Tryz.f13 7) (Vv (.h7 l2 at' rows (X rows) 0 z0 z1 z2 [])).2 Q:=by
 have⟨k,z⟩:=zmp;rw[z]at h|-;refine wj.reach (wj.rounds (X rows) (λi a w=>∃U ρ r c0 gs,kC C ze.sl (tmB l2 at' rows (X rows) (i:Int) []) (hpB z0 z1 z2) [] a w U ρ r c0 gs (dL at' (rows.take i))/\Wd fY.gl C w U) (λi u a w ⟨U,ρ,r,c0,gs,b,d⟩=>zfz rfl u A s b d) (wj.of h λa w ⟨U,ρ,r,c0,gs,b,d⟩=>?_)) λa w U ρ j d=>?_
 .rw[gE]at b;have⟨U',j,g⟩:=VZ b d;exact⟨U',ρ,j,g⟩
 .have⟨r,c0,b⟩:=zeA (e:=ze.sl) (h1:=hpB z0 z1 z2) (h2:=[]) j;exact⟨U,ρ,r,c0,[],b,d⟩
end
def Ho(h:aA)(b:J zl.sl)(d:J ze.sl):Tr (JV⊕aw):=(V0 h b d).bind λs=>match s with
 |.inl (.h7 l2 at' l n i z0 z1 z2 [])=>chk (i==0&&(n==(X l:Int)&&(T (X l<=1000)&&l.all λrow:zr=>zL at' (X row)))) (.ok (.inl (.h7 l2 at' l n n z0 z1 z2 (dL at' l))))
 |.inl (.h7 ..)=>.err
 |s=>.ok s
def kY(h:aA)(b:J zl.sl)(d:J ze.sl):=ap [zl,zk,zk] Mf 100000000 (Ho h b d)
def py(h:aA)(b:J zl.sl)(d:J ze.sl):=(kY h b d).isSome
def wv(h:aA)(b:J zl.sl)(d:J ze.sl):=o3 (kY h b d)
def zo4:=FT [ar,zl.sl,ze.sl] [zl,zk,zk] λx=>kY x.1 x.2.1 x.q.1
theorem zjM:FK 13 zo4:=by
 refine aV (E:=fY) (f:=Tryz.f13) (cK kw) λx hx C G=>?_
 have⟨g,j,z,u⟩:=x;have H:zY fY.P 13 Tryz.f13 3:=cK kw;have D:∀x,run fY 0 ziT Tryz.f13.results.toList 400 (bq Tryz.f13) (bg Tryz.f13.ntmps (jk [M ar,M zl.sl,M ze.sl] x) [])=(V0 x.1 x.2.1 x.q.1).map (lf Tryz.f13 Vv):=by intro x;kernel_rfl
 have B:∀s,run fY 0 ziT Tryz.f13.results.toList 400 (am Tryz.f13 (Vv s).1) (Vv s).2=(Mf s).map (lf Tryz.f13 Vv):=by intro s;cases s<;>kernel_rfl
 have hx:(kY g j z).isSome=O:=hx;have⟨y,b⟩:=Option.isSome_iff_exists.1 hx;show Reach fY C 13 _ _ (λr h=>aZ h [zl,zk,zk] r=M ((kY g j z).getD (cJ [zl,zk,zk])));rw[b];show Reach fY C 13 _ _ (λr h=>aZ h [zl,zk,zk] r=M y);have A:(Ho g j z).val=(V0 g j z).val->Reach fY C 13 (bq Tryz.f13) (bg Tryz.f13.ntmps (jk [M ar,M zl.sl,M ze.sl] (g,j,z,u)) []) (λr h=>aZ h [zl,zk,zk] r=M y):=λe=>by
  refine LP (n:=100000000) gH H (λid _=>G id) (D (g,j,z,u)) B ?_;unfold kY ap bV at b;unfold ap bV;rw[e]at b;exact b
 cases d:(V0 g j z).val with
 | none=>
  unfold kY ap bV Ho at b;rw[Tr.val_bind,d]at b;cases b
 | some s=>
  match s,d with
  |.inr r,d=>exact A (by unfold Ho;rw[Tr.val_bind,d];rfl)
  |.inl (.h15 ..),d=>exact A (by unfold Ho;rw[Tr.val_bind,d];rfl)
  | .inl (.h7 l2 at' l n i z0 z1 z2 (p::es)),d=>
   unfold kY ap bV Ho at b;rw[Tr.val_bind,d]at b;cases b
  | .inl (.h7 l2 at' l n i z0 z1 z2 []),d=>
   have e:(Ho g j z).val=(chk (i==0&&(n==(X l:Int)&&(T (X l<=1000)&&l.all λrow:zr=>zL at' (X row)))) (.ok (.inl (.h7 l2 at' l n n z0 z1 z2 (dL at' l)))):Tr (JV⊕aw)).val:=by
    unfold Ho;rw[Tr.val_bind,d];rfl
   unfold kY ap bV at b;rw[e]at b;cases F:(i==0&&(n==(X l:Int)&&(T (X l<=1000)&&l.all λrow:zr=>zL at' (X row))))with
   |false=>rw[F]at b;cases b
   | true=>
    rw[F]at b;simp only[aN,bW,aY,eu]at F;obtain⟨rfl,rfl,h3,h4⟩:=F;refine Ge gH H (λid _=>G id) (D (g,j,z,u)) d (zfu h3 h4 ?_);exact LP (n:=99999999) (i:=Mf (.h7 l2 at' l (X l) (X l) z0 z1 z2 (dL at' l))) gH H (λid _=>G id) (B (.h7 l2 at' l (X l) (X l) z0 z1 z2 (dL at' l))) B b
theorem S3{e:Sh}(k:K3):∀(l:List K3)(es:List (K3×List (J e))),(es.map (·.1)).Nodup->lE (l.foldl mW es) k=if k∈l then[]else lE es k
 |[],es,_=>by rw[zh sw];rfl
 | a::r,es,hn=>by
  rw[List.foldl_cons,S3 k r _ (H4 hn a),Tn hn];by_cases h1:k∈r
  .rw[zf h1,zf (nc _ h1)]
  .rw[zh h1];by_cases h2:k=a
   .rw[zf h2,zf (by rw[h2];exact uA)]
   .rw[zh h2,zh (by rw[bZ];exact λq=>q.elim h2 h1)]
section
variable {db:List (J zl)} {p:J ar} {us:List (J R)}
theorem zdE(h:aP db p)(m:lz db p):SW (p,zT db p)=M (dV p (zT db p),()):=by
 have z:zL 0 (zT db p).length=O:=zx (i:=0) (qu h.go.two).1;unfold dV;rcases h.mig with e|e|e
 .have d:(p.1==dI)=O:=by rw[e];rfl
  rw[zf e];refine zQ (r:=(L (Y (zT db p) 0 (zi zl)).1.q.1,[])) ?_ rfl;simp only[zeI,Tr.val,d,z,zj];rfl
 .have d:(p.1==dI)=S:=by rw[e];rfl
  have g:(p.1==ic)=O:=by rw[e];rfl
  rw[zh (by rw[e];decide),zf e];refine zQ (r:=(L p.u,[])) ?_ rfl;simp only[zeI,Tr.val,d,g,zD,zj,zm]
 .have d:(p.1==dI)=S:=by rw[e];rfl
  have g:(p.1==ic)=S:=by rw[e];rfl
  have⟨_,a,b,s,_⟩:=m.group e;rw[zh (by rw[e];decide),zh (by rw[e];decide)];have j:zL 0 (X p.t.1)=O:=by rw[s];rfl
  refine zQ (r:=(L (Y p.t.1 0 (zi zk)),[])) ?_ rfl;simp only[zeI,Tr.val,d,g,j,zD,zj,zm];rfl
def rP(db:zS)(p:aA)(l:zr):List (K3×List zr):=l.foldl (mW (α:=List (J ze.sl))) (mW (α:=List (J ze.sl)) (dL (dV p (zT db p)) (fa db p).2) (0,0,[]))
theorem ZW(h:aP db p)(l:zr)(u:zq):lE (e:=ze.sl) (rP db p l) u=if u∈l then[]else B6 db p u:=by
 unfold rP;rw[S3 (e:=ze.sl) u l _ (H4 (e:=ze.sl) wX _),Tn (e:=ze.sl) wX];split
 .rfl
 .rw[Rh];by_cases b:u=(0,0,[])
  .rw[zf b,Oy (by rw[b])]
  .rw[zh b];unfold B6;refine List.filter_congr λrow d=>?_
   rw[oA,nu,bW];constructor
   .intro e;refine⟨e.symm,λh1=>b ?_⟩;have:=(cL (h.rel.fits row d)).2.1 _ (h.at_mem d);have g:Y row (Int.toNat (dV p (zT db p))) (zi R)=u:=e.symm;rw[g]at this;exact Ow this h1
   .exact λq=>q.1.symm
theorem Se(h:aP db p)(m:lz db p):(Ho p (zT db p) us).val=M (.inl (.h7 us (dV p (zT db p)) (fa db p).2 ((fa db p).2.length:Int) ((fa db p).2.length:Int) (p,()) ([],0,[],0,0,[],[],()) ((p,zT db p),()) (dL (dV p (zT db p)) (fa db p).2))):=by
 have⟨g,j⟩:=CM h.go;have B:zL 0 (zT db p).length=O:=zx (i:=0) (qu h.go.two).1;have d:=zdE h m;have s:XP (p,zT db p)=O:=by unfold XP;rw[d];rfl
 have u:zlG (p,zT db p)=dV p (zT db p):=by unfold zlG;rw[d];rfl
 have A:(V0 p (zT db p) us).val=M (.inl (.h7 us (dV p (zT db p)) (fa db p).2 ((fa db p).2.length:Int) 0 (p,()) ([],0,[],0,0,[],[],()) ((p,zT db p),()) [])):=by
  simp only[V0,zo,bh,Tr.val,g,j,s,u,B,ib,zD,zj,zm];rfl
 have b:((0:Int)==0&&(((fa db p).2.length:Int)==((fa db p).2.length:Int)&&(T ((fa db p).2.length<=1000)&&(fa db p).2.all λrow:zr=>zL (dV p (zT db p)) (X row))))=O:=by
  have:=h.rel.few;simp only[BEq.rfl,eY,aN,aY,eu];exact⟨W,λrow z=>(h.inn row z).1⟩
 unfold Ho;rw[Tr.val_bind,A];show(chk _ _).val=_;rw[Tr.val,zf b];rfl
theorem zbD(h:aP db p)(m:lz db p)(hl:X us<=1000){D:List zr}(F:AY (p.r.1,(dY us).flatMap (de db p))=M ((p.r.1,D),())):
  kY p (zT db p) us=M ((p.r.1,D),((eZ db p (dY us):Nat):Int),0,()):=by
 have hs:=Se (us:=us) h m;have g0:zH Mf 1 (.h7 us (dV p (zT db p)) (fa db p).2 ((fa db p).2.length:Int) ((fa db p).2.length:Int) (p,()) ([],0,[],0,0,[],[],()) ((p,zT db p),()) (dL (dV p (zT db p)) (fa db p).2)) (.h15 ((eZ db p (dY (us.take 0)):Nat):Int) us (X us:Int) ((0:Nat):Int) ([],0,[],0,0,[],[],()) ((p,zT db p),()) (p.r.1,(dY (us.take 0)).flatMap (de db p),()) (rP db p (us.take 0))):=zH.of (by
  simp only[Mf,Tr.val,zK,zD,zm];rfl)
 have z:=zH.all (t:=Mf) 1 (λi=>.h15 ((eZ db p (dY (us.take i)):Nat):Int) us (X us:Int) (i:Int) ([],0,[],0,0,[],[],()) ((p,zT db p),()) (p.r.1,(dY (us.take i)).flatMap (de db p),()) (rP db p (us.take i))) (X us) λi B=>zH.of (by
  have⟨g1,g2⟩:=lS h (dY (us.take i)) (pX _);have j:mW (α:=List (J ze.sl)) (rP db p (us.take i)) us[i]=rP db p (us.take (i+1)):=by
   unfold rP;rw[bF B,List.foldl_append];rfl
  have A:=ZW h (us.take i) us[i];have g:DK (p,zT db p) us[i] (lE (e:=ze.sl) (rP db p (us.take i)) us[i])=M (ite (us[i]∈us.take i) [] (de db p us[i]),((ite (us[i]∈us.take i) 0 (Hc db p us[i]):Nat):Int),()):=by
   rw[A];split
   .exact zeq h m _
   .exact zl8 h m _
  have c1:XR (p,zT db p) us[i] (lE (e:=ze.sl) (rP db p (us.take i)) us[i])=O:=by unfold XR;rw[g];rfl
  have c2:zlH (p,zT db p) us[i] (lE (e:=ze.sl) (rP db p (us.take i)) us[i])=(ite (us[i]∈us.take i) [] (de db p us[i]),((ite (us[i]∈us.take i) 0 (Hc db p us[i]):Nat):Int)):=by unfold zlH;rw[g];rfl
  have e:=xm (us.take i) us[i];rw[zaB]at e;have d:((us.take i).any λu=>Co u us[i])=O↔us[i]∈us.take i:=by
   rw[List.any_eq_true];exact⟨λ⟨u,h1,h2⟩=>jF.1 h2▸h1,λq=>⟨_,q,jF.2 rfl⟩⟩
  have G:(de db p us[i]).length<=200:=bc Zd (bc (List.length_filter_le _ _) h.rel.few);have h0:Hc db p us[i]<=200:=by
   have:=Rx (db:=db) (p:=p) (v:=us[i]);have:(B6 db p us[i]).length<=(fa db p).2.length:=List.length_filter_le _ _;have:=h.rel.few;unfold Hc;omega
  have hd:∀k:List zr,X k<=200->T (((dY (us.take i)).flatMap (de db p)).length+X k<=1073741824)=O:=λk hk=>zB W
  simp only[Mf,Tr.val,zo,bh,zN B,zx B,zX _ _ B,c1,c2,zj];rw[zu i um,j,bF B,e];by_cases b:us[i]∈us.take i
  .rw[zf (d.2 b),zf b,zf b,wo,zf (hd [] (aG _))];have H:Γ Δ (((eZ db p (dY (us.take i)):Nat):Int)+((0:Nat):Int))=((eZ db p (dY (us.take i)):Nat):Int):=by rw[fi];omega
   rw[H]
  .rw[zh (λq=>b (d.1 q)),zh b,zh b,List.flatMap_append,List.flatMap_singleton,zf (hd _ G)];have hb:eZ db p (dY (us.take i)++[us[i]])=eZ db p (dY (us.take i))+Hc db p us[i]:=by
    unfold eZ;rw[gh,List.sum_append];simp
   have H:Γ Δ (((eZ db p (dY (us.take i)):Nat):Int)+((Hc db p us[i]:Nat):Int))=((eZ db p (dY (us.take i))+Hc db p us[i]:Nat):Int):=by rw[fi];omega
   rw[H,hb])
 simp only[gE]at z;generalize(dY us).flatMap (de db p)=rows at z F;generalize eZ db p (dY us)=n at z|-;generalize rP db p us=es at z;have s1:R4 (p.r.1,rows)=O:=by unfold R4;rw[F];rfl
 have s2:zbh (p.r.1,rows)=(p.r.1,D):=by unfold zbh;rw[F];rfl
 have s:∃r,zU Mf 1 (.h15 (n:Int) us (X us:Int) (X us:Int) ([],0,[],0,0,[],[],()) ((p,zT db p),()) (p.r.1,rows,()) es) r/\aZ r.2 [zl,zk,zk] r.1=M ((p.r.1,D),(n:Int),0,()):=by
  refine⟨_,zU.of (by
   simp only[Mf,Tr.val,zo,bh,zK,s1,s2,zD,zj,zm];rfl),?_⟩
  show M (((p.r.1.1,p.r.1.2.1,p.r.1.q.1,p.r.1.r.1,p.r.1.t.1,zt p.r.1.u),D),(n:Int),0,())=_;rw[zo]
 have⟨r,r1,r2⟩:=s;exact zz hs ((g0.trans z).ends r1) W r2
end
def YO:=YN.add 13 zo4
theorem Ek:zw YO:=IB.add zjM
def zmu(h:aA)(j:J zl.sl):Tr (Empty⊕aw):=
 let d:=(h.1,h.2.1,h.q.1,(h.r.1.1,h.r.1.2.1,h.r.1.q.1,h.r.1.r.1,h.r.1.t.1,zt h.r.1.u),h.t)
 let g:=JM d j
 let b:=wv d j g.1
 chk (Ba d j)
 (br (g.2!=0)
  (re (tup [agg ([I [],nils,L 0,nils,nils]++zE++[nils]),L 0,L g.2]) [])
  (chk (py d j g.1) (re (tup [agg ([I b.1.1.1,N zn b.1.1.2.1,L b.1.1.q.1,N zk b.1.1.r.1,N zG b.1.1.t.1]++xE b.1.1.u++[N ze.sl b.1.2]),L b.2.1,L b.q]) [])))
def M4(h:aA)(b:J zl.sl):=ap [zl,zk,zk] t0 100000000 (zmu h b)
def XO(h:aA)(b:J zl.sl):=(M4 h b).isSome
def zlE(h:aA)(b:J zl.sl):=o3 (M4 h b)
def zoN:=FT [ar,zl.sl] [zl,zk,zk] λx=>M4 x.1 x.2.1
theorem zjv:FK 10 zoN:=Ek.T1 (f:=Tryz.f10) (keep:=k0) (e:=e0)
def zh9:=YO.add 10 zoN
theorem IC:zw zh9:=Ek.add zjv
set_option maxHeartbeats 2000000
theorem wI(x:Int)(h1:-4000000000<=x)(h2:x<=4000000000):Γ Δ x=x:=by rw[fi];omega
theorem wU(x:Int)(h1:0<=x)(h2:x<=4000000000):IntKind.u64.wrap x=x:=by simp only[IntKind.wrap,IntKind.bits,IntKind.signed];simp;omega
def fb(k:Int)(r:zr):zq:=bif (cond (T (k<0)) O (T (k>=(X r:Int))))then(0,0,[])else Y r k.toNat (zi R)
def lY(k:Int)(a b:zr):Prop:=po (fb k a) (fb k b)
variable {k:Int}
theorem WO{a b:zr}(h:lY k a b):¬lY k b a:=λg=>eD (dZ h g)
theorem zfK{r:zr}(h:zL k (X r)=O):fb k r=zP k r:=by grind[zL,fb]
def Kp(k:Int)(h l:List zr):Prop:=l.Perm h/\(h.Pairwise (lY k)->l=h)
variable {l:List zr}
theorem Kp.refl:Kp k l l:=⟨.refl l,λ_=>rfl⟩
theorem Kp.len{b:List zr}(h:Kp k b l):X l=X b:=h.1.length_eq
variable {d:List zr}
theorem Kp.trans{j:List zr}(h:Kp k j l)(g:Kp k l d):Kp k j d:=⟨g.1.trans h.1,λb=>by
 have e:=h.2 b;subst e;exact g.2 b⟩
theorem Kp.perm(hp:d.Perm l)(h:¬l.Pairwise (lY k)):Kp k l d:=⟨hp,λb=>zA b h⟩
variable {i j:Nat}
theorem jc{l:List α}(h:i<X l)(b:j<X l)(d:α):((l.set j (l.getD i d)).set i (l.getD j d)).Perm l:=by grind[List.set_set_perm]
theorem zaV(h:l.Pairwise (lY k))(b:i<j)(g:j<X l)(d:zr):lY k (l.getD i d) (l.getD j d):=by grind[List.pairwise_iff_getElem]
theorem CL(h:i<j)(g:j<X l)(d:zr)(b:lY k (l.getD j d) (l.getD i d)):¬l.Pairwise (lY k):=λs=>WO b (zaV s h g d)
theorem As(h:j<i):T ((i:Int)>(j:Int))=O:=by simpa using h
theorem To(n:Nat):T ((n:Int)>(n:Int))=S:=by simp
theorem eM(h:¬i<j):T ((i:Int)<(j:Int))=S:=by simpa using h
theorem iq(k:Int)(x y:zr):
  (bif (cond (T (k<0)) O (T (k>=(X x:Int))))then bif (cond (T (k<0)) O (T (k>=(X y:Int))))then aF (0,0,[]) (0,0,[])else aF (0,0,[]) (Y y k.toNat (zi R))
   else bif (cond (T (k<0)) O (T (k>=(X y:Int))))then aF (Y x k.toNat (zi R)) (0,0,[])else aF (Y x k.toNat (zi R)) (Y y k.toNat (zi R)))=aF (fb k x) (fb k y):=by grind[fb]
theorem zmU(k:Int)(x:zr):(cond (cond (T (k<0)) O (T (k>=(X x:Int)))) O (zL k (X x)))=O:=by grind[zL]
theorem fe(k:Int)(x y:zr):(bif (cond (T (k<0)) O (T (k>=(X x:Int))))then(cond (cond (T (k<0)) O (T (k>=(X y:Int)))) O (zL k (X y)))
  else zL k (X x)&&(cond (cond (T (k<0)) O (T (k>=(X y:Int)))) O (zL k (X y))))=O:=by grind[zmU]
theorem ZB(z:List zr)(a b i:Nat)(k:Int)(hn:X z<=1000)(hi:i<1000):∀(m j:Nat)(l:List zr),j=a+m->j<X l->Kp k z l->
  ∃g,Kp k z g/\zH kP (m+1) (.h4 (a:Int) (b:Int) k (i:Int) (j:Int) l) (.h1 (a:Int) (b:Int) k ((i+1:Nat):Int) g):=by
 intro m
 induction m with
 | zero=>
  intro j l hj d h;refine⟨l,h,zH.of ?_⟩;obtain rfl:j=a:=by omega
  simp only[kP,Tr.val,To,aJ,zD,zm,zj,zu i um]
 | succ m H=>
  intro j l hj d h;obtain⟨j,rfl⟩:∃j',j=j'+1:=⟨j-1,W⟩;have G:=h.len;have e1:T (((j+1:Nat):Int)>(a:Int))=O:=As W;have e2:zL ((j+1:Nat):Int) (X l)=O:=zx d;have e3:T (j+1<X l)=O:=by simpa using d
  have A:Γ Δ (((j+1:Nat):Int)-1)=(j:Int):=gQ j um;have B:zL (j:Int) (X l)=O:=zx W;have D:T (j<X l)=O:=by simp;omega
  have e8:zL (j:Int) (l.set (j+1) (l.getD j (zi ze.sl))).length=O:=by rw[ng];exact B
  have e9:T (j<(l.set (j+1) (l.getD j (zi ze.sl))).length)=O:=by rw[ng];exact D
  by_cases s:lY k (l.getD (j+1) (zi ze.sl)) (l.getD j (zi ze.sl))
  .have u:Kp k l ((l.set (j+1) (l.getD j (zi ze.sl))).set j (l.getD (j+1) (zi ze.sl))):=Kp.perm (jc W d _) (CL (i:=j) (j:=j+1) W d _ s);have⟨g,h1,h2⟩:=H j _ W sg (h.trans u);refine⟨g,h1,((zH.of ?_).trans h2).mono W⟩;have F:T (LT.lt (α:=Int) (aF (fb k (l.getD (j+1) (zi ze.sl))) (fb k (l.getD j (zi ze.sl)))) 0)=O:=zB s;simp only[kP,Tr.val,A,aH];rw[fe,iq];simp_all
  .refine⟨l,h,(zH.of ?_).mono W⟩;have F:T (LT.lt (α:=Int) (aF (fb k (l.getD (j+1) (zi ze.sl))) (fb k (l.getD j (zi ze.sl)))) 0)=S:=aB s;simp only[kP,Tr.val,A,aH];rw[fe,iq];simp only[e1,e2,e3,B,D,F,e8,e9,aI,qB,zj,zD,zm,zu i um]
theorem ZA(h:List zr)(a b:Nat)(k:Int)(A:X h<=1000)(D:b<=X h):∀(m i:Nat)(l:List zr),b-i=m->a<=i->Kp k h l->
  ∃d,Kp k h d/\zU kP (m*1002+1) (.h1 (a:Int) (b:Int) k (i:Int) l) (.tup [],[.vec ze.sl d]):=by
 intro m
 induction m with
 | zero=>
  grind[zU.of,kP,Tr.val]
 | succ m s=>
  intro i l G F g;have j:=g.len;have⟨B,h1,h2⟩:=ZB h a b i k A W (i-a) i l W W g;have⟨d,u,z⟩:=s (i+1) B W W h1;refine⟨d,u,((zH.of ?_).trans h2 |>.ends z).mono W⟩;grind[kP,Tr.val]
theorem E3(l:List zr)(a b:Nat)(k:Int)(j:X l<=1000)(s:a<=X l)(g:b<=X l):∃h,rL l a b k=M h/\Kp k l h:=by
 have⟨h,h1,h2⟩:=ZA l a b k j g (b-(a+1)) (a+1) l rfl W Kp.refl;refine⟨h,?_,h1⟩;have:E2 l a b k=M (.tup [],[.vec ze.sl h]):=by
  unfold E2 bV N3;rw[zu a um];have d:b-(a+1)<=1000:=by omega
  exact h2 100000000 (bc (Nat.succ_le_succ (gD 1002 d)) (by decide))
 unfold rL;rw[this];rfl
theorem zoo(h:List zr)(a b n:Nat)(hn:X h<=1000)(F:a+n<=X h)(G:b+n<=X h):∀(m i:Nat)(l:List zr),n-i=m->i<=n->l.Perm h->
  ∃d,d.Perm h/\zU yl (m+1) (.h1 (a:Int) (b:Int) (n:Int) (i:Int) l) (.tup [],[.vec ze.sl d]):=by
 intro m
 induction m with
 | zero=>
  grind[zU.of,yl,Tr.val]
 | succ m s=>
  intro i l hm H hp;have g:=hp.length_eq;have e0:Γ Δ ((b:Int)+(i:Int))=((b+i:Nat):Int):=by rw[wI _ W W];omega
  have u:Γ Δ ((a:Int)+(i:Int))=((a+i:Nat):Int):=by rw[wI _ W W];omega
  have z:zL ((a+i:Nat):Int) (X l)=O:=zx W;have A:zL ((b+i:Nat):Int) (X l)=O:=zx W;have B:T (a+i<X l)=O:=by simp;omega
  have D:T (b+i<X l)=O:=by simp;omega
  have⟨d,h1,h2⟩:=s (i+1) ((l.set (a+i) (l.getD (b+i) (zi ze.sl))).set (b+i) (l.getD (a+i) (zi ze.sl))) W W ((jc (i:=b+i) (j:=a+i) W W _).trans hp);refine⟨d,h1,((zH.of ?_).ends h2).mono W⟩;simp only[yl,Tr.val,zN (show i<n by omega),e0,u,z,A,B,D,aH,ng,zj,zu i um]
theorem Sk(l:List zr)(a b n:Nat)(k:Int)(j:X l<=1000)(d:a+n<=X l)(g:b+n<=X l):∃h,Md l a b n k=M h/\h.Perm l:=by have⟨h,h1,h2⟩:=zoo l a b n j d g n 0 l rfl W (.refl l);refine⟨h,?_,h1⟩;have:zon l a b n k=M (.tup [],[.vec ze.sl h]):=h2 100000000 W;unfold Md;rw[this];rfl
theorem zn9(u:List zr)(m:Nat)(k:Int)(hn:X u<=1000):∀(s i j:Nat)(l:List zr),i+j<=s->1<=i->1<=j->i<=m->m+j<=X u->l.Perm u->
  ∃b,b.Perm u/\zU sv (s+1) (.h2 (m:Int) k (i:Int) (j:Int) l) (.tup [],[.vec ze.sl b]):=by
 intro s
 induction s with
 |zero=>intro i j l h h1;omega
 | succ s B=>
  intro i j l hs h1 h2 H h4 hp;have D:=hp.length_eq;have e0:Γ Δ ((m:Int)-(i:Int))=((m-i:Nat):Int):=by rw[wI _ W W];omega
  rcases Nat.lt_trichotomy i j with h|h|h
  .have⟨d,F,g⟩:=Sk l (m-i) (m+j-i) i k W W W;have⟨b,z,A⟩:=B i (j-i) d W h1 W H W (g.trans hp);refine⟨b,z,((zH.of ?_).ends A).mono W⟩;have G:((i:Int)!=(j:Int))=O:=by simp;omega
   have c2:T ((i:Int)>(j:Int))=S:=by simp;omega
   grind[wI,sv,Tr.val]
  .subst h;have⟨d,F,g⟩:=Sk l (m-i) m i k W W W;refine⟨d,g.trans hp,(zU.of ?_).mono W⟩;grind[sv,Tr.val]
  .have⟨d,F,g⟩:=Sk l (m-i) m j k W W W;have⟨b,z,A⟩:=B (i-j) j d W W h2 W h4 (g.trans hp);refine⟨b,z,((zH.of ?_).ends A).mono W⟩;have G:((i:Int)!=(j:Int))=O:=by simp;omega
   grind[wI,sv,Tr.val]
theorem zoa(l:List zr)(a m b:Nat)(k:Int)(d:X l<=1000)(g:a<m)(s:m<b)(j:b<=X l):∃h,LU l a m b k=M h/\h.Perm l:=by
 have⟨h,h1,h2⟩:=zn9 l m k d ((m-a)+(b-m)) (m-a) (b-m) l (zM _) W W W W (.refl l);refine⟨h,?_,h1⟩;have:zbq l a m b k=M (.tup [],[.vec ze.sl h]):=by
  unfold zbq bV N4;rw[show Γ Δ ((m:Int)-(a:Int))=((m-a:Nat):Int) by rw[wI _ W W];omega,show Γ Δ ((b:Int)-(m:Int))=((b-m:Nat):Int) by rw[wI _ W W];omega];exact h2 100000000 W
 unfold LU;rw[this];rfl
theorem nr(i j:Nat)(h:i+j<=4000000):Γ Δ (IntKind.u64.wrap (Γ Δ ((i:Int)+(j:Int)))/2)=(((i+j)/2:Nat):Int):=by rw[wI ((i:Int)+(j:Int)) W W,wU _ W W,wI _ W W];omega
section
variable (o:SM) (k:Int)
theorem zvB(l:List zr)(a m b:Nat)(hn:X l<=1000)(ha:a<m)(hb:b<=X l):∀(s i j:Nat),j-i<=s->m<=i->i<=j->j<=b->(i=m\/¬l.Pairwise (lY k))->
  ∃d,m<=d/\d<=b/\(d=m\/¬l.Pairwise (lY k))/\zH (cr o) (s+1) (.h3 (a:Int) k (i:Int) (j:Int) l) (.h9 (d:Int) (a:Int) l):=by
 intro s
 induction s with
 | zero=>
  intro i j h1 h2 h3 h4 u;refine⟨i,h2,W,u,zH.of ?_⟩;simp only[cr,Tr.val,eM (show¬i<j by omega),zD,zm]
 | succ s H=>
  intro i j h1 h2 h3 h4 u;by_cases g:i<j
  case neg=>
   refine⟨i,h2,W,u,(zH.of ?_).mono W⟩;simp only[cr,Tr.val,eM g,zD,zm]
  have e0:=nr i j W;have hh:i<=(i+j)/2/\(i+j)/2<j:=by omega
  generalize(i+j)/2=h at e0 hh;have e1:zL ((h:Nat):Int) (X l)=O:=zx W;have e2:T (h<X l)=O:=by simp;omega
  have e3:zL ((a:Nat):Int) (X l)=O:=zx W;have e4:T (a<X l)=O:=by simp;omega
  by_cases A:lY k (l.getD h (zi ze.sl)) (l.getD a (zi ze.sl))
  .have⟨d,B,D,F,G⟩:=H (h+1) j W W W h4 (.inr (CL (i:=a) (j:=h) W W _ A));refine⟨d,B,D,F,((zH.of ?_).trans G).mono W⟩;have z:T (LT.lt (α:=Int) (aF (fb k (l.getD h (zi ze.sl))) (fb k (l.getD a (zi ze.sl)))) 0)=O:=zB A;simp only[cr,Tr.val,e0,aH];rw[fe,iq];simp only[zN g,e1,e2,e3,e4,z,zj,zu h um]
  .have⟨d,B,D,F,G⟩:=H i h W h2 W W u;refine⟨d,B,D,F,((zH.of ?_).trans G).mono W⟩;have z:T (LT.lt (α:=Int) (aF (fb k (l.getD h (zi ze.sl))) (fb k (l.getD a (zi ze.sl)))) 0)=S:=aB A;simp only[cr,Tr.val,e0,aH];rw[fe,iq];simp only[zN g,e1,e2,e3,e4,z,zj,zD,zm]
theorem zvC(d:List zr)(i:Nat)(hn:X d<=1000)(hi:i<=X d):∀(s c:Nat)(l:List zr),i-c<=s->l.Perm d->
  ∃b,b.Perm d/\((i<=c+1)->b=l)/\zU (cr o) (s+1) (.h9 (i:Int) (c:Int) l) (.tup [],[.vec ze.sl b]):=by
 intro s
 induction s with
 | zero=>
  intro c l h1 hp;refine⟨l,hp,λ_=>rfl,zU.of ?_⟩;have e0:T ((c:Int)<Γ Δ ((i:Int)-1))=S:=by
   by_cases F:i=0
   .subst F;rw[wI _ W W];simp only[ei];omega
   .rw[wI _ W W];simp only[ei];omega
  simp only[cr,Tr.val,e0,zD,zm]
 | succ s u=>
  intro c l h1 hp;have g:=hp.length_eq;by_cases hc:c+1<i
  case neg=>
   refine⟨l,hp,λ_=>rfl,(zU.of ?_).mono W⟩;have e0:T ((c:Int)<Γ Δ ((i:Int)-1))=S:=by
    rw[wI _ W W];simp only[ei];omega
   simp only[cr,Tr.val,e0,zD,zm]
  have e0:T ((c:Int)<Γ Δ ((i:Int)-1))=O:=by
   rw[wI _ W W];simp only[aY];omega
  have z:zL ((c+1:Nat):Int) (X l)=O:=zx W;have A:zL ((c:Nat):Int) (X l)=O:=zx W;have B:T (c+1<X l)=O:=by simp;omega
  have D:T (c<X l)=O:=by simp;omega
  have⟨b,G,_,H⟩:=u (c+1) ((l.set c (l.getD (c+1) (zi ze.sl))).set (c+1) (l.getD c (zi ze.sl))) W ((jc (i:=c+1) (j:=c) W W _).trans hp);refine⟨b,G,λh=>by omega,((zH.of ?_).ends H).mono W⟩;simp only[cr,Tr.val,e0,zu c um,z,A,B,D,aH,ng,zj]
theorem zoe(l:List zr)(a m:Nat)(hn:X l<=1000)(hm:m<X l):∀(s i j:Nat),j-i<=s->a<=i->i<=j->j<=m->(j=m\/¬l.Pairwise (lY k))->
  ∃b,a<=b/\b<=m/\(b=m\/¬l.Pairwise (lY k))/\zH (cr o) (s+1) (.h15 (m:Int) k (i:Int) (j:Int) l) (.h21 (b:Int) (m:Int) l):=by
 intro s
 induction s with
 | zero=>
  intro i j h1 h2 h3 h4 g;refine⟨i,h2,W,g.imp (λh=>by omega) id,zH.of ?_⟩;simp only[cr,Tr.val,eM (show¬i<j by omega),zD,zm]
 | succ s G=>
  intro i j h1 h2 h3 h4 g;by_cases d:i<j
  case neg=>
   refine⟨i,h2,W,g.imp (λh=>by omega) id,(zH.of ?_).mono W⟩;simp only[cr,Tr.val,eM d,zD,zm]
  have e0:=nr i j W;have hh:i<=(i+j)/2/\(i+j)/2<j:=by omega
  generalize(i+j)/2=h at e0 hh;have H:zL ((h:Nat):Int) (X l)=O:=zx W;have e2:T (h<X l)=O:=by simp;omega
  have e3:zL ((m:Nat):Int) (X l)=O:=zx W;have e4:T (m<X l)=O:=by simp;omega
  by_cases z:lY k (l.getD m (zi ze.sl)) (l.getD h (zi ze.sl))
  .have⟨b,A,B,D,F⟩:=G i h W h2 W W (.inr (CL (i:=h) (j:=m) W W _ z));refine⟨b,A,B,D,((zH.of ?_).trans F).mono W⟩;have u:T (LT.lt (α:=Int) (aF (fb k (l.getD m (zi ze.sl))) (fb k (l.getD h (zi ze.sl)))) 0)=O:=zB z;simp only[cr,Tr.val,e0,aH];rw[fe,iq];simp only[zN d,H,e2,e3,e4,u,zj,cj,zD,zm]
  .have⟨b,A,B,D,F⟩:=G (h+1) j W W W h4 g;refine⟨b,A,B,D,((zH.of ?_).trans F).mono W⟩;have u:T (LT.lt (α:=Int) (aF (fb k (l.getD m (zi ze.sl))) (fb k (l.getD h (zi ze.sl)))) 0)=S:=aB z;simp only[cr,Tr.val,e0,aH];rw[fe,iq];simp only[zN d,H,e2,e3,e4,u,zj,dp,zu h um]
theorem zof(d:List zr)(i:Nat)(hn:X d<=1000):∀(s c:Nat)(l:List zr),c-i<=s->c<X d->l.Perm d->
  ∃b,b.Perm d/\(c<=i->b=l)/\zU (cr o) (s+1) (.h21 (i:Int) (c:Int) l) (.tup [],[.vec ze.sl b]):=by
 intro s
 induction s with
 | zero=>
  intro c l h1 g hp;refine⟨l,hp,λ_=>rfl,zU.of ?_⟩;have e0:T ((c:Int)>(i:Int))=S:=by simp;omega
  simp only[cr,Tr.val,e0,zD,zm]
 | succ s z=>
  intro c l h1 g hp;have u:=hp.length_eq;by_cases hc:i<c
  case neg=>
   refine⟨l,hp,λ_=>rfl,(zU.of ?_).mono W⟩;have e0:T ((c:Int)>(i:Int))=S:=by simp;omega
   simp only[cr,Tr.val,e0,zD,zm]
  obtain⟨c,rfl⟩:∃A,c=A+1:=⟨c-1,W⟩;have e0:T (((c+1:Nat):Int)>(i:Int))=O:=As hc;have B:zL ((c+1:Nat):Int) (X l)=O:=zx W;have D:zL ((c:Nat):Int) (X l)=O:=zx W;have F:T (c+1<X l)=O:=by simp;omega
  have G:T (c<X l)=O:=by simp;omega
  have H:Γ Δ (((c+1:Nat):Int)-1)=(c:Int):=gQ c um;have⟨b,q1,_,q3⟩:=z c ((l.set (c+1) (l.getD c (zi ze.sl))).set c (l.getD (c+1) (zi ze.sl))) W W ((jc (i:=c) (j:=c+1) W W _).trans hp);refine⟨b,q1,λh=>by omega,((zH.of ?_).ends q3).mono W⟩;simp only[cr,Tr.val,e0,H,B,D,F,G,aH,ng,zj]
end
end
end Cad
