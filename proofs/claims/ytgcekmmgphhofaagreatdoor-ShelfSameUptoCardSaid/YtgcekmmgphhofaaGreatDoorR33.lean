/- Rows. -/
import Derived.Test.YtgcekmmgphhofaaGreatDoorR32
namespace Cad
open Go Go.Proofs Tryz
open List renaming length->M
open IntKind renaming wrap->Γ,i64->Δ
open AO renaming box->Qb
open Sh renaming expr->Q6
open Option renaming none->Q2,some->Y
open Decidable renaming decide->L
open Tr (chk br re)
open AV (nils agg tup ptr kb)
open AV renaming str->X,sl->O
open Cad renaming Tr->K,ai->I,ze->Q,Sem->N,AV->R,ow->S
set_option maxHeartbeats 4000000
noncomputable section
abbrev zhN:=fZ []
theorem zia:zJ Gx.P 180 f180 2:=bG kw
def Pk(l:List zo)(k:Int):K (Empty⊕ac):=
 let h:=Lj l (M l:Int) k
 chk h.isSome (re (tup []) [AO.vec ze.sl (h.getD [])])
theorem zg0(l:List zo)(k:Int):rn Gx 1 zhN f180 [AV.vec 0,AV.clo (Fn.func 182) [agg [I k]] []] [AO.vec (Sh.sl Q) l]=(Pk l k).map (lf f180 e0):=kw
def NI(l:List zo)(k:Int):=b6 t0 100000000 (Pk l k)
def wy(l:List zo)(k:Int):=In (NI l k)
def zcq:ee [Q2,Q2]:=λx h=>match x,h with
 |(.vec 0,.clo (.func 182) [.agg [I k]] [],_),[.vec (.sl Nn) l]=>.chk ((wy l k).isSome) (.ok (.tup [],[.vec (.sl Q) ((wy l k).getD [])]))
 |_,_=>.err
def zbW:zV:=au [Q2,Q2] zcq
theorem YV:FK 180 zbW:=by
 refine gC (ι:=List zo×Int) (args:=λy=>[AV.vec 0,AV.clo (Fn.func 182) [agg [I y.2]] []]) (heap:=λy=>[AO.vec ze.sl y.1]) (i:=λy=>Pk y.1 y.2) (t:=t0) (e:=e0) (n:=100000000) (n0:=1) Bd zia (λ_=>rfl) (λy=>zg0 _ _) (Dh _ _ _ _ _) (λx h d b=>?_);unfold zcq at b;split at b
 .rename_i k u l;simp only[Tr.val]at b;split at b
  next c=>simp only[ax]at b;subst b;exact⟨(l,k),rfl,rfl,qL c⟩
  .cases b
 .simp at b
def Vp:=Gx.add 180 zbW
theorem MB:zm Vp:=Bd.add YV
abbrev Wo:Nat->aR:=λj=>if j=7 then{slots:=[1,2,34,35]}else{ }
inductive QR where
 |h7 (i34:Int) (i35:Int) (ja0:N Sh.str) (ja2:zy) (ja5:zD) (ja6:Int) (ja7:Int) (ja8:zD) (ja9:zD) (ja10:List (N Q6)) (jb0:List UInt8) (jb2:Int) (jb5:List UInt8) (jb6:Int) (jb7:Int) (jb8:List UInt8) (jb9:List UInt8) (lh_2:aU) (lh_3:da) (lh_4:eu) (lh_5:List (N ze.sl))
abbrev UD:QR->Nat×St
 |.h7 i d g m n o p q s j t u y z A D F h x b c=>(7,⟨tm 50 [(1,ptr 0 0),(2,ptr 1 0),(34,I i),(35,I d)],[Qb [X g,AV.vec 2,I m,AV.vec 3,AV.vec 4,X n,I o,I p,X q,X s,O Q6 j,AV.vec 5],Qb [X t,nils,I u,nils,nils,X y,I z,I A,X D,X F,nils,nils],AO.vec zu h,AO.vec zi x,AO.vec zW b,AO.vec ze.sl c]⟩)
theorem zpS:zJ O1.P 179 f179 1:=bG kw
def zav(x:zX):K (QR⊕ac):=
 chk (L (M x.1.2.1<=1073741824))
 (chk (L (M x.1.r.1<=1073741824))
  (chk (L (M x.1.t.1<=1073741824)) (chk (oI 16 (zP x.1.u)) (chk (L (M x.2<=1073741824)) (Tr.to (QR.h7 (M x.2:Int) 0 x.1.1 x.1.q.1 (zg.op x.1.u) (zg.v x.1.u).1 (zg.v x.1.u).2.1 (zg.v x.1.u).q
  (zg.s x.1.u) (zg.l x.1.u) [] 0 [] 0 0 [] [] x.1.2.1 x.1.r.1 x.1.t.1 x.2))))))
theorem znk(x:zX):rn O1 0 Wo f179 [zI zl x] []=(zav x).map (lf f179 UD):=kw
def S8:QR->K (QR⊕ac)
 | .h7 d i g m n o p q s j t u y z A D F x b c h=>
  let G:=L (i.toNat<M h)
  let H:=h.getD i.toNat (zk ze.sl)
  br (L (i<d))
  (chk (zT i (M h))
   (chk G (chk (L (M H<=1073741824)) (chk (zT i (M h)) (chk G (Tr.to (QR.h7 d (Γ Δ (i+1)) g m n o p q s j t u y z A D F x b c (h.set i.toNat H))))))))
  (re
   (agg [X g,AV.vec 0,I m,AV.vec 1,AV.vec 2,X n,I o,I p,X q,X s,O Q6 j,AV.vec 3])
   [AO.vec zu x,AO.vec zi b,AO.vec zW c,AO.vec ze.sl h])
theorem zqm:∀s,run O1 0 Wo (Func.results f179).toList 400 (zZ f179 (UD s).1) (UD s).2=(S8 s).map (lf f179 UD)
 |.h7 i d g m n o p q t j u y z A D F G h x b c=>by kernel_rfl
def ziG(ks:List Sh)(c:zA (ks.map Y)->Bool)(g:zA (ks.map Y)->ac):ee (ks.map Y):=λx h=>match h with
 |[]=>.chk (c x) (.ok (g x))
 |_=>.err
theorem zgh{P:Program}{gl:Nat->R}{x:Type}{E:bS}{k:FuncId}{f:Func}{ks:List Sh}{keep:Nat->aR}{gas n:Nat}{e:x->Nat×St}{t:x->K (x⊕ac)}{i:zA (ks.map Y)->K (x⊕ac)}{c:zA (ks.map Y)->Bool}{g:zA (ks.map Y)->ac}
  (p:zm E) (m:zJ E.P k f (M ks)) (d:∀h,run E 0 keep f.results.toList gas (aK f) (aC f.ntmps (gX (ks.map Y) h) [])=(i h).map (lf f e))
  (j:∀s,run E 0 keep f.results.toList gas (zZ f (e s).1) (e s).2=(t s).map (lf f e))
  (u:∀h,c h=true->b6 t n (i h)=Y (g h)) (z:E.P=P:=by rfl) (y:E.gl=gl:=by rfl):ky P gl k (au (ks.map Y) (ziG ks c g)):=by
 subst z y;refine cP (by simpa using m) λh D A b C o=>?_
 unfold ziG at b;split at b
 .simp only[Tr.val]at b;split at b
  next q=>simp only[ax]at b;subst b;exact mz (n0:=0) p (by simpa using m) (λid _=>o id (zU _)) (n+1) _ _ _ (by rw[kR j (d h)];exact u h q) rfl
  .cases b
 .simp at b
def Md(x:zX):ac:=(agg [X x.1.1,AV.vec 0,I x.1.q.1,AV.vec 1,AV.vec 2,X (zg.op x.1.u),I (zg.v x.1.u).1,I (zg.v x.1.u).2.1,X (zg.v x.1.u).q,X (zg.s x.1.u),O Q6 (zg.l x.1.u),AV.vec 3],
 [AO.vec zu x.1.2.1,AO.vec zi x.1.r.1,AO.vec zW x.1.t.1,AO.vec ze.sl x.2])
def Je(x:zX):Bool:=L (M x.1.2.1<=1000000)&&L (M x.1.r.1<=1000000)&&L (M x.1.t.1<=1000000)&&oI 16 x.1.u&&L (M x.2<=1000000)&&List.all x.2 (λr=>L (M r<=1000000))
variable {α:Type}
theorem XT(l:List α)(d:α)(i:Nat)(h:i<M l):l.set i (l.getD i d)=l:=by rw[bf,zQ h,cD];exact List.set_getElem_self h
theorem ZP(x:zX)(c:Je x=true):b6 S8 100000000 (zav x)=Y (Md x):=by
 unfold Je at c;simp only[ar,aT,dg]at c;have⟨⟨⟨⟨⟨D,F⟩,G⟩,p⟩,H⟩,y⟩:=c
 have z:=di (t:=S8) (β:=Unit) (M x.2) (λ_ i=>.h7 (M x.2:Int) (i:Int) x.1.1 x.1.q.1 (zg.op x.1.u) (zg.v x.1.u).1 (zg.v x.1.u).2.1 (zg.v x.1.u).q
   (zg.s x.1.u) (zg.l x.1.u) [] 0 [] 0 0 [] [] x.1.2.1 x.1.r.1 x.1.t.1 x.2) (λ_ _=>True) (λr=>r=Md x) 1 (by
   intro b i h _;have d:M (List.getD x.2 i (zk ze.sl))<=1000000:=y _ (by rw[bf,zQ h,cD];exact bN h);simp only[S8,Tr.val,z6 h,zx h,zj,bB,zL h,XT _ _ _ h];rw[zz i um,zf (zL S)];exact Or.inl ⟨(),trivial,rfl⟩) (by
   intro b n _ hn;obtain⟨n,rfl⟩:∃k,n=k+1:=⟨n-1,S⟩;rw[cq];simp only[S8,Tr.val,aw];exact⟨_,rfl,rfl⟩) (M x.2) 0 () 100000000 rfl (zU _) trivial S
 obtain⟨r,A,rfl⟩:=z;unfold b6;have g:L (M x.1.2.1<=1073741824)=true:=zL S;have j:L (M x.1.r.1<=1073741824)=true:=zL S;have m:L (M x.1.t.1<=1073741824)=true:=zL S;have o:L (M x.2<=1073741824)=true:=zL S;simp only[zav,Tr.val,g,j,m,o,zt,p,zj];exact A
def zkv:zV:=au ([zl].map Y) (ziG [zl] (λx=>Je x.1) (λx=>Md x.1))
theorem zfz:FK 179 zkv:=zgh (ks:=[zl]) (keep:=Wo) (gas:=400) (n:=100000000) (e:=UD) (t:=S8) (i:=λx=>zav x.1) R6 zpS (λx=>znk x.1) zqm (λx h=>ZP x.1 h)
def ZW:=Vp.add 179 zkv
theorem JG:zm ZW:=MB.add zfz
def zht(x:zX):K (Empty⊕ac):=
 let h:=(x.1.1,x.1.2.1,x.1.q.1,x.1.r.1,x.1.t.1,zP x.1.u)
 let b:=wy x.2 (-1)
 let c:=wy x.2 x.1.q.1
 chk (Je (h,x.2))
 (br (!gO h)
  (chk b.isSome (re (agg [X x.1.1,AV.vec 0,I x.1.q.1,AV.vec 1,AV.vec 2,X (zg.op x.1.u),I (zg.v x.1.u).1,I (zg.v x.1.u).2.1,X (zg.v x.1.u).q,X (zg.s x.1.u),O Q6 (zg.l x.1.u),AV.vec 3]) [AO.vec zu x.1.2.1,AO.vec zi x.1.r.1,
  AO.vec zW x.1.t.1,AO.vec ze.sl (b.getD [])]))
  (chk c.isSome (re (agg [X x.1.1,AV.vec 0,I x.1.q.1,AV.vec 1,AV.vec 2,X (zg.op x.1.u),I (zg.v x.1.u).1,I (zg.v x.1.u).2.1,X (zg.v x.1.u).q,X (zg.s x.1.u),O Q6 (zg.l x.1.u),AV.vec 3]) [AO.vec zu x.1.2.1,AO.vec zi x.1.r.1,
  AO.vec zW x.1.t.1,AO.vec ze.sl (c.getD [])])))
def Cw(x:zX):=aA [zl] t0 100000000 (zht x)
def wo(x:zX):=(Cw x).isSome
def Fx(x:zX):=o1 (Cw x)
def zec:=FT [zl] [zl] λx=>Cw x.1
theorem TF:FK 131 zec:=JG.T1 (f:=f131) (keep:=k0) (e:=e0)
def fm:=Ve.add 131 zec
theorem fK:zm fm:=EH.add TF
abbrev zdI:Nat->aR:=λj=>if j=7 then{slots:=[2,3,6,9,10,11,34,35,36]}else if j=15 then{slots:=[6,9,11,14,15,57,58,59],prom:=[(14,Y 11,.sl Q)]}else{ }
inductive FY where
 |h7 (l2:zo) (i10:zy) (l34:List (N ze.sl)) (i35:Int) (i36:Int) (z0:zn [CP.d ao]) (z1:zn sS) (z2:zn sP) (mh_3:List ((Int×Int×zD)×List (N ze.sl)))
 |h15 (i15:Int) (l57:zo) (i58:Int) (i59:Int) (z0:zn sS) (z1:zn sP) (z3:zn Mc) (mh_2:List ((Int×Int×zD)×List (N ze.sl)))
abbrev Rq:FY->Nat×St
 |.h7 s i n b c z p t h=>(7,⟨tm 86 [(2,O Q s),(3,ptr 0 0),(6,ptr 1 0),(9,ptr 2 0),(10,I i),(11,AV.mp 3),(34,O ze.sl n),(35,I b),(36,I c)],[Qb (fD [] [CP.d ao] z),Qb (fD [] sS p),Qb (fD [] sP t),AO.gmap ze.sl h]⟩)
 |.h15 x o g j z p q m=>(15,⟨tm 86 [(6,ptr 0 0),(9,ptr 1 0),(11,AV.mp 2),(14,ptr 3 0),(15,I x),(57,O Q o),(58,I g),(59,I j)],[Qb (fD [] sS z),Qb (fD [] sP p),AO.gmap ze.sl m,Qb (fD [4] Mc q),AO.vec ze.sl q.2.1]⟩)
def Si(x:an)(h:N zl.sl)(g:N ze.sl):K (FY⊕ac):=
 let b:=(x.1,x.2.1,x.q.1,(x.r.1.1,x.r.1.2.1,x.r.1.q.1,x.r.1.r.1,x.r.1.t.1,zP x.r.1.u),x.t)
 let c:=(b,h)
 let d:=List.getD h (Int.toNat 0) (zk zl)
 chk (xF b h)
 (br (KE b h !=0)
  (re (tup [agg ([X [],nils,I 0,nils,nils]++zE++[nils]),I 0,I 1]) [])
  (chk (T7 c) (chk (zT 0 (M h)) (Tr.to (FY.h7 g (zgt c) d.2 (M d.2:Int) 0 (x,()) ([],0,[],0,0,[],[],()) ((x,h),()) [])))))
def H1:FY->K (FY⊕ac)
 | .h7 H s j y b A z z2 n=>
  br (L (b<y))
  (chk (zT b (M j)) (chk (zT s (M (j.getD b.toNat (zk ze.sl)))) Tr.err))
  (Tr.to (FY.h15 0 H (M H:Int) 0 z z2 (A.1.r.1,[],()) (lr n (0,0,[]))))
 | .h15 d c g i A z h m=>
  let D:=((z.1.1.1,z.1.1.2.1,z.1.1.q.1,(z.1.1.r.1.1,z.1.1.r.1.2.1,z.1.1.r.1.q.1,z.1.1.r.1.r.1,z.1.1.r.1.t.1,zP z.1.1.r.1.u),z.1.1.t),z.1.2)
  let o:=c.getD i.toNat (zk Q)
  let F:=jW m o
  let p:=zgu D o F
  let G:=((h.1.1,h.1.2.1,h.1.q.1,h.1.r.1,h.1.t.1,zP h.1.u),h.2.1)
  let x:=Fx G
  br (L (i<g))
  (chk (zT i (M c)) (chk (T9 D o F) (chk (L (M h.2.1+M p.1<=1073741824)) (Tr.to (FY.h15 (Γ Δ (d+p.2)) c g (Γ Δ (i+1)) A z (h.1,h.2.1++p.1,()) (lr m o))))))
  (chk (wo G) (re (tup [agg ([X x.1.1,O zu x.1.2.1,I x.1.q.1,O zi x.1.r.1,O zW x.1.t.1]++xE x.1.u++[O ze.sl x.2]),I d,I 0]) []))
open Go
def Tr.asks:K α->List Bool
 |.chk c t=>c::t.asks
 |_=>[]
def Tr.leaf:K α->Option α
 |.chk _ t=>t.leaf
 |.ok a=>Y a
 |_=>Q2
theorem Tr.val_leaf{a:α}:∀{t:K α},t.leaf=Y a->t.asks.all id=true->t.val=Y a
 |.err,h,_=>by cases h
 |.br ..,h,_=>by cases h
 |.ok _,h,_=>h
 | .chk c t,h,x=>by
  simp only[Tr.asks,List.all_cons,id,ar]at x;rw[Tr.val,zf x.1];exact Tr.val_leaf h x.2
structure sr (w:World) (U:Nat->Prop) (ρ:Nat->Option Value) (hp:Nat->AO) (w':World) (U':Nat->Prop) (ρ':Nat->Option Value) (hp':Nat->AO):Prop where
 ext:jt w w'
 same:∀b,b<w.heap.size->(∀id,¬zY ρ id (hp id) b)->w'.heap[b]?=w.heap[b]?
 u1:∀b,b<w.heap.size->U' b->U b
 u2:∀b,b<w.heap.size->U b->(∀id,¬zY ρ id (hp id) b)->U' b
 rho:∀id v,ρ id=Y v->ρ' id=Y v
 own:∀id b,zY ρ' id (hp' id) b->(∃id,zY ρ id (hp id) b)\/w.heap.size<=b
section
variable {E:bS} {gl:Nat->R} {C:eS} {a:Act} {w w':World} {U U':Nat->Prop} {ρ ρ':Nat->Option Value} {hp hp':Nat->AO}
def AF(w:World)(U:Nat->Prop)(ρ:Nat->Option Value)(hp:Nat->AO):eS:={w0:=w,U0:=U,B0:=λb=>∃id,zY ρ id (hp id) b,ρ0:=ρ}
theorem Ph(x:Wd gl C w U):Wd gl (AF w U ρ hp) w U:=⟨jt.refl w,λ_ _ _=>rfl,x.ub,λ_ _ h=>h,λ_ _ h _=>h,x.gl⟩
theorem Pg(h:fE C w U ρ hp):fE (AF w U ρ hp) w U ρ hp:=⟨h.ob,h.inj,λid _ x=>.inl ⟨id,x⟩⟩
theorem AA(g:fE (AF w U ρ hp) w' U' ρ' hp')(x:Wd gl (AF w U ρ hp) w' U')(i:∀id v,ρ id=Y v->ρ' id=Y v):sr w U ρ hp w' U' ρ' hp':=
 ⟨x.ext,λb c d=>x.same b c λ⟨id,h⟩=>d id h,x.u1,λb c j d=>x.u2 b c j λ⟨id,h⟩=>d id h,i,g.blk⟩
theorem OE(h:fE C w U ρ hp)(d:Wd gl C w U)(g:sr w U ρ hp w' U' ρ' hp')(j:∀b,U' b->b<w'.heap.size)(o:lR gl w' U'):Wd gl C w' U':=by
 have n:∀b,b<C.w0.heap.size->¬C.B0 b->∀id,¬zY ρ id (hp id) b:=λb x c id p=>(h.blk id b p).elim c (λq=>by omega)
 have m:∀b,b<C.w0.heap.size->b<w.heap.size:=λb x=>cM x d.ext.sz
 exact⟨d.ext.trans g.ext,λb x c=>(g.same b (m b x) (n b x c)).trans (d.same b x c),j,λb x i=>d.u1 b x (g.u1 b (m b x) i),λb x i c=>g.u2 b (m b x) (d.u2 b x i c) (n b x c),o⟩
theorem OD(h:fE C w U ρ hp)(c:Wd gl C w U)(x:fE (AF w U ρ hp) w' U' ρ' hp'):fE C w' U' ρ' hp':=
 ⟨x.ob,x.inj,λid b g=>(x.blk id b g).elim (λ⟨i,d⟩=>h.blk i b d) λq=>.inr (aB c.ext.sz q)⟩
theorem K4(m:zm E){id:Nat}{ops:Array Oper}{draw:Bool}{d s:St}(h:(iT E ops.toList draw d).val=Y s)(c:Cn C d a w U ρ)(g:Wd E.gl C w U):
  (Code.region id ops draw).wp E.P (λe i w'=>e=.normal/\∃U' ρ',Cn C s i w' U' ρ'/\Wd E.gl C w' U'/\sr w U ρ d.hp w' U' ρ' s.hp) a w:=by refine wp_mono (rk (C:=AF w U ρ d.hp) m h ⟨c.tm,Pg c.hp,c.new,c.df,λ_ _ h=>h⟩ (Ph g)) ?_;rintro e i w' ⟨rfl,U',ρ',x,b⟩;have j:=AA x.hp b x.r0;exact⟨rfl,U',ρ',⟨x.tm,OD c.hp g x.hp,x.new,x.df,λid v q=>x.r0 id v (c.r0 id v q)⟩,OE c.hp g j b.ub b.gl,j⟩
theorem KD(t:zm E){ops:List Oper}{Q:Exit->Act->World->Prop}{st':RS}{m:Nat}(u:∀c w' U' ρ',wO C st' c w' U' ρ'->Wd E.gl C w' U'->∀k,k+m=M ops->wpOps E.P ops.toArray Q (List.range' k m) c w'):
  ∀(r:List Oper)(k:Nat)(d:RS)(a:Act)(w:World)(U:Nat->Prop)(ρ:Nat->Option Value)(s:List Oper),M s=m->r++s=ops.drop k->k+M r+m=M ops->(bP E ops r d).val=Y st'->wO C d a w U ρ->Wd E.gl C w U->
   wpOps E.P ops.toArray Q (List.range' k (M r+m)) a w
 | [],k,d,a,w,U,ρ,_,_,_,p,h,j,g=>by
  simp[bP]at h;subst h;have:=u a w U ρ j g k (by simpa using p);simpa using this
 | o::r,k,d,a,w,U,ρ,s,hs,hr,p,h,j,g=>by
  simp only[bP,Tr.val_bind,fV]at h;have⟨q,y,z⟩:=h;have b:ops.toArray[k]?=Y o:=by
   have:ops[k]?=Y o:=by
    have:=congrArg (·[0]?) hr;simpa[Aq]using this.symm
   simpa using this
  have x:r++s=ops.drop (k+1):=by
   have:=congrArg List.tail hr;simpa using this
  have e:(o::r).length+m=(M r+m)+1:=by rw[bx];omega
  rw[e,List.range'_succ];simp only[wpOps,b];exact FD t y j g _ _ (λc w' U' ρ' n i=>KD t u r (k+1) q c w' U' ρ' s hs x (by rw[bx]at p;omega) z n i)
theorem za0(p:zm E){o b:List Oper}{Q:Exit->Act->World->Prop}{s st':RS}(h:(bP E (o++b) o s).val=Y st')(c:wO C s a w U ρ)(j:Wd E.gl C w U)
  (t:∀i w' U' ρ',wO C st' i w' U' ρ'->Wd E.gl C w' U'->sr w U ρ s.hp w' U' ρ' st'.hp->wpOps E.P (o++b).toArray Q (List.range' (M o) (M b)) i w'):
  wpOps E.P (o++b).toArray Q (List.range (o++b).toArray.size) a w:=by
 have:=KD (C:=AF w U ρ s.hp) p (ops:=o++b) (Q:=Q) (st':=st') (m:=M b) (λi w' U' ρ' x d k n=>by
  have n:k=M o:=by rw[cL]at n;omega
  subst n;have g:=AA x.hp d x.r0;exact t i w' U' ρ' ⟨x.tm,OD c.hp j x.hp,x.new,x.kn,x.df,λid v q=>x.r0 id v (c.r0 id v q)⟩ (OE c.hp j g d.ub d.gl) g)
  o 0 s a w U ρ b rfl rfl sw h ⟨c.tm,Pg c.hp,c.new,c.kn,c.df,λ_ _ h=>h⟩ (Ph j)
 rw[List.range_eq_range'];simpa using this
theorem sr.trans{m:World}{j:Nat->Prop}{n:Nat->Option Value}{c:Nat->AO}(x:sr w U ρ hp w' U' ρ' hp')(g:sr w' U' ρ' hp' m j n c):sr w U ρ hp m j n c:=by
 have t:∀b,b<w.heap.size->(∀id,¬zY ρ id (hp id) b)->∀id,¬zY ρ' id (hp' id) b:=λb h d id q=>(x.own id b q).elim (λ⟨i,o⟩=>d i o) λq=>by omega
 have s:∀b,b<w.heap.size->b<w'.heap.size:=λb h=>cM h x.ext.sz
 exact⟨x.ext.trans g.ext,λb h d=>(g.same b (s b h) (t b h d)).trans (x.same b h d),λb h p=>x.u1 b h (g.u1 b (s b h) p),λb h p d=>g.u2 b (s b h) (x.u2 b h p d) (t b h d),
  λid v q=>g.rho id v (x.rho id v q),λid b q=>(g.own id b q).elim (λ⟨i,o⟩=>x.own i b o) λq=>.inr (aB x.ext.sz q)⟩
end
def kD(c0:Nat)(ents:Array MapEntry)(clock:Nat):Prop:=clock=c0+ents.size/\∀(i:Nat)(e:MapEntry),ents[i]?=Y e->e.born=c0+i
variable {ents:Array MapEntry}{clock:Nat}
theorem kD.push{c0:Nat}(h:kD c0 ents clock)(k v:Value):kD c0 (ents.push {key:=k,val:=v,born:=clock}) (clock+1):=by
 refine⟨by have:=h.1;simp;omega,λi e x=>?_⟩;rw[Array.getElem?_push]at x;split at x
 next b=>cases x;rw[b];exact h.1
 .exact h.2 i e x
theorem kD.modify{c0:Nat}(h:kD c0 ents clock)(j:Nat)(f:MapEntry->MapEntry)(c:∀e,(f e).born=e.born):kD c0 (ents.modify j f) clock:=by
 refine⟨by have:=h.1;simp;omega,λi e x=>?_⟩;rw[oe]at x;split at x
 .cases b:ents[i]? with
  |none=>rw[b]at x;simp at x
  | some e0=>
   rw[b]at x;simp at x;subst x;rw[c];exact h.2 i e0 b
 .exact h.2 i e x
def DA(es:List (K3×Value))(k:K3):List (K3×Value):=match fe es k 0 with
 |some _=>es
 |none=>es++[(k,.slice Q2 0 0)]
section
variable {P:Program} {w:World} {kt:TypeId} {k:K3}
variable {mt et:TypeId} {r:Nat} {ents:Array MapEntry} {clock c0:Nat} {es:List (K3×Value)}
theorem K5(H:P.underlying mt=Y (.map kt et))(s:gg P kt=true){i:TypeInfo}(hi:P.info? et=Y i)(hz:i.zero=Y (.slice Q2 0 0))(hk:ez k)
  (y:w.heap[r]?=Y (.map ents clock)) (z:(ents.toList.map λe=>(e.key,e.val))=sU es) (ho:∀p∈es,ez p.1) (A:kD c0 ents clock):
  ∃(h:Array MapEntry)(c n:Nat),(Instr.mapEntry mt (.map (Y r)) (cd k)).run P w=.ok (.tuple #[BD es k,.int .i64 (c0+n:Nat)]) {w with heap:=w.heap.setIfInBounds r (.map h c)}/\
   (h.toList.map λe=>(e.key,e.val))=sU (DA es k)/\kD c0 h c/\(DA es k)[n]?=Y (k,BD es k):=by
 have b:=lW (w:=w) s hk es ents.toList z ho;have G:ents.size=M es:=by have:=congrArg M z;simpa using this
 unfold DA BD;cases g:fe es k 0 with
 | none=>
  rw[g]at b;refine⟨ents.push {key:=cd k,val:=.slice Q2 0 0,born:=clock},clock+1,ents.size,?_,?_,A.push _ _,?_⟩
  .simp[Instr.mapEntry,bm H,fW y,bp s,b,mi _ y,Result.andThen,zeroValue,typeInfo,hi,hz,A.1];rfl
  .simp_all
  .simp only[];rw[G,nf (zK _),Nat.sub_self];rfl
 | some q=>
  obtain⟨j,m⟩:=q;rw[g]at b;obtain⟨_,o,_⟩:=rS g;rw[Nat.sub_zero]at o;have u:∃e,ents.toList[j]?=Y e/\e.key=cd k:=by
   have:(ents.toList.map λe=>(e.key,e.val))[j]?=Y (cd k,m):=by
    rw[z];simp[o]
   rw[b8,dG]at this;obtain⟨e,d,x⟩:=this;simp only[cz]at x;exact⟨e,d,x.1⟩
  obtain⟨e,d,x⟩:=u;have t:ents[j]?=Y e:=by rw[<-lx];exact d
  have D:=A.2 j e t;refine⟨ents.modify j λe=>{e with key:=cd k},clock,j,?_,?_,A.modify _ _ (λ_=>rfl),o⟩
  .have F:(Instr.keyThatStays (cd k) (cd k)).run P w=.ok (cd k) w:=by
    simp[Instr.keyThatStays,lY]
   simp[Instr.mapEntry,bm H,fW y,bp s,b,t,x,F,mi _ y,Result.andThen,D];rfl
  .apply kE;intro q;have h0:(ents.toList.map λe=>(e.key,e.val))[q]?=(sU es)[q]?:=by rw[z]
   grind
theorem K6{b:Nat}{v v':Value}(m:w.heap[r]?=Y (.map ents clock))(n:(ents.toList.map λe=>(e.key,e.val))=sU es)(i:kD c0 ents clock)(o:es[b]?=Y (k,v)):
  ∃(h:Array MapEntry),(Instr.entryStore mt (.map (Y r)) (.int .i64 (c0+b:Nat)) v').run P w=.ok () {w with heap:=w.heap.setIfInBounds r (.map h clock)}/\
   (h.toList.map λe=>(e.key,e.val))=sU (es.set b (k,v'))/\kD c0 h clock:=by
 have s:ents.size=M es:=by have:=congrArg M n;simpa using this
 have c:b<ents.size:=by have:=(cQ.1 o).1;omega
 have d:ents.findIdx? (λe=>(e.born:Int)==((c0+b:Nat):Int))=Y b:=by
  rw[Array.findIdx?_eq_some_iff_getElem];refine⟨c,?_,λj t=>?_⟩
  .have:=i.2 b ents[b] (oP c);simp[this]
  .have:=i.2 j (ents[j]'ow) (oP S);simp[this];omega
 refine⟨ents.modify b λe=>{e with val:=v'},?_,?_,i.modify _ _ (λ_=>rfl)⟩
 .rw[sA]at d;simp[Instr.entryStore,fW m,asInt,asIntOf,d,mi _ m,Result.andThen]
 .apply kE;intro q;have x:(ents.toList.map λe=>(e.key,e.val))[q]?=(sU es)[q]?:=by rw[n]
  simp only[b8,lx,oe,oh]at x|-;by_cases p:b=q
  .subst p;have g:b<M es:=by omega
   rw[oP c,o]at x;simp only[As,ax,cz]at x;simp[oP c,g,x.1]
  .simp_all
end
section
variable {e:Sh} {w w':World} {U U':Nat->Prop} {ρ:Nat->Option Value} {v:Value} {l:List (N e)}
def fF(e:Sh)(w:World)(U:Nat->Prop)(v:Value)(l:List (N e)):Prop:=aW w U (λ_=>Y v) 0 (.vec e l)
variable {id:Nat}
theorem Qz{ρ':Nat->Option Value}{id':Nat}(g:ρ id=Y v)(h:aW w U ρ id (.vec e l))(b:ρ' id'=Y v):aW w U ρ' id' (.vec e l):=by have:=h.ren' (ρ':=ρ') (f:=λi=>i) (id':=id') (λx c=>by rw[g]at c;cases c;exact b) (λi d=>by simp[AO.ids]at d);simpa[AO.ren]using this
theorem ziZ(x:ρ id=Y v)(h:aW w U ρ id (.vec e l)):fF e w U v l:=Qz x h rfl
theorem fF.to(h:fF e w U v l)(x:ρ id=Y v):aW w U ρ id (.vec e l):=Qz rfl h x
theorem fF.one(h:fF e w U v l):v.oneCell'=true:=by have⟨a,c,x,_⟩:=h;cases x;rfl
theorem fF.blk(h:fF e w U v l){b:Nat}(x:bz v=Y b):U b/\b<w.heap.size:=aW.inU h ⟨rfl,v,rfl,x⟩
theorem fF.mono(h:fF e w U v l)(i:w.heap.size<=w'.heap.size)(d:∀b,b<w.heap.size->¬U b->w'.heap[b]?=w.heap[b]?)(j:∀b,b<w.heap.size->U' b->U b)(g:∀b,bz v=Y b->w'.heap[b]?=w.heap[b]?/\U' b):fF e w' U' v l:=
 aW.mono i d j (λ_ _ h=>h) h λb ⟨_,x,m,c⟩=>by cases m;exact g b c
theorem fF.rv(h:fF e w U v l)(n:∀b,U' b->U b)(m:∀b,bz v=Y b->¬U' b):Rv w U' ρ (.sl e l) v:=by
 have g:Rv w U' (λ_=>Y v) (.sl e l) v:=sF (U:=U) (hp:=λ_=>.vec e l) (c:=.vec 0) (by simp[oX]) (.vec 0 v rfl h.one) n (λid d=>by simp[cJ]at d;subst d;exact h) λid _ b ⟨_,x,o,j⟩=>by
  cases o;exact m b j
 have:=g.ren (ρ':=ρ) (f:=λi=>i) (by simp[AV.ids]);simpa[AV.ren]using this
theorem fF.nil:fF e w U (.slice Q2 0 0) []:=⟨Q2,0,rfl,by simp[af],.inl ⟨rfl,rfl⟩⟩
structure qP (e:Sh) (w:World) (U:Nat->Prop) (r c0:Nat) (gs:List (K3×Value)) (es:List (K3×List (N e))):Prop where
 mp:∃(ents:Array MapEntry)(clock:Nat),w.heap[r]?=Y (.map ents clock)/\(ents.toList.map λe=>(e.key,e.val))=sU gs/\kD c0 ents clock
 keys:gs.map (·.1)=es.map (·.1)
 nd:(gs.map (·.1)).Nodup
 ok:∀p∈gs,ez p.1
 own:∀(j:Nat)(p:K3×Value)(q:K3×List (N e)),gs[j]?=Y p->es[j]?=Y q->fF e w U p.2 q.2
 apart:∀(i j:Nat)(p q:K3×Value)(b:Nat),gs[i]?=Y p->gs[j]?=Y q->bz p.2=Y b->bz q.2=Y b->i=j
 far:∀p∈gs,bz p.2≠Y r
 ur:U r
def IM(r:Nat)(gs:List (K3×Value))(b:Nat):Prop:=b=r\/∃p∈gs,bz p.2=Y b
def rK(es:List (K3×List (N e)))(k:K3):List (K3×List (N e)):=if k∈es.map (·.1)then es else es++[(k,[])]
variable {r c0:Nat} {gs:List (K3×Value)} {es:List (K3×List (N e))} {k:K3}
theorem Sb:(∃q,fe gs k 0=Y q)↔k∈gs.map (·.1):=by
 cases h:fe gs k 0 with
 | none=>
  refine⟨λ⟨_,q⟩=>(by cases q),λb=>?_⟩;obtain⟨p,hp,rfl⟩:=aN.1 b;exact zp rfl (BC h p hp)
 | some q=>
  have⟨_,x,_⟩:=rS h;exact⟨λ_=>aN.2 ⟨_,fw x,rfl⟩,λ_=>⟨q,rfl⟩⟩
theorem Jq(b:gs.map (·.1)=es.map (·.1)):(k∈es.map (·.1)/\DA gs k=gs/\rK es k=es)\/(k∉es.map (·.1)/\DA gs k=gs++[(k,.slice Q2 0 0)]/\rK es k=es++[(k,[])]):=by
 have c:=Sb (gs:=gs) (k:=k);unfold DA rK;cases h:fe gs k 0 with
 | none=>
  have d:k∉es.map (·.1):=λq=>by
   rw[<-b]at q;have⟨x,g⟩:=c.2 q;rw[h]at g;cases g
  exact .inr ⟨d,rfl,zh d⟩
 | some q=>
  have i:k∈es.map (·.1):=by rw[<-b];exact c.1 ⟨q,h⟩
  exact .inl ⟨i,rfl,zf i⟩
theorem IM.ent{b:Nat}(x:gs.map (·.1)=es.map (·.1)):IM r (DA gs k) b↔IM r gs b:=by
 unfold IM;rcases Jq (k:=k) x with⟨_,h,_⟩|⟨_,h,_⟩
 .rw[h]
 .rw[h];simp[bz]
theorem qP.entry{P:Program}{mt kt et:TypeId}(G:qP e w U r c0 gs es)(H:ez k)(hm:P.underlying mt=Y (.map kt et))(u:gg P kt=true){i:TypeInfo}(hi:P.info? et=Y i)(hz:i.zero=Y (.slice Q2 0 0)):
  ∃(x:Array MapEntry)(c n:Nat),(Instr.mapEntry mt (.map (Y r)) (cd k)).run P w=.ok (.tuple #[BD gs k,.int .i64 (c0+n:Nat)]) {w with heap:=w.heap.setIfInBounds r (.map x c)}/\
   qP e {w with heap:=w.heap.setIfInBounds r (.map x c)} U r c0 (DA gs k) (rK es k)/\(DA gs k)[n]?=Y (k,BD gs k):=by
 obtain⟨ents,clock,F,he,hs⟩:=G.mp;obtain⟨x,c,n,h1,h2,h3,h4⟩:=K5 (w:=w) hm u hi hz H F he G.ok hs;have g:=om (o':=Obj.map x c) F
 have keep:∀{v:Value}{l:List (N e)},fF e w U v l->bz v≠Y r->fF e {w with heap:=w.heap.setIfInBounds r (.map x c)} U v l:=λh hr=>
  h.mono sw (λb _ hu=>g.2 b λq=>hu (q▸G.ur)) (λ_ _ h=>h) λb d=>⟨g.2 b λq=>hr (q▸d),(h.blk d).1⟩
 refine⟨x,c,n,h1,⟨⟨x,c,g.1,h2,h3⟩,?_,?_,?_,?_,?_,?_,G.ur⟩,h4⟩
 all_goals rcases Jq (k:=k) G.keys with⟨o,y,z⟩|⟨o,y,z⟩
 all_goals rw[y]
 all_goals try rw[z]
 .exact G.keys
 .rw[fx,fx,G.keys];rfl
 .exact G.nd
 .rw[fx];refine List.nodup_append.2 ⟨G.nd,sw,λa ha b d q=>o ?_⟩;have:b=k:=by simpa using d
  rw[<-this,<-q,<-G.keys];exact ha
 .exact G.ok
 .intro p hp;rcases bX.1 hp with h|h
  .exact G.ok p h
  .obtain rfl:=eh.1 h;exact H
 .exact λj p q hp m=>keep (G.own j p q hp m) (G.far p (fw hp))
 .intro j p q hp m;have hl:M gs=M es:=by simpa using congrArg M G.keys
  by_cases t:j<M gs
  .rw[qQ t]at hp;rw[qQ S]at m;exact keep (G.own j p q hp m) (G.far p (fw hp))
  .have s:j-M gs=0:=by
    rw[nf S]at hp;have:=(cQ.1 hp).1;simp at this;omega
   rw[nf S,s]at hp;rw[nf S,<-hl,s]at m;cases hp;cases m;exact fF.nil
 .exact G.apart
 .intro i j p q b hp m A D;have lt:∀(i:Nat)(p:K3×Value),(gs++[(k,Value.slice Q2 0 0)])[i]?=Y p->bz p.2=Y b->gs[i]?=Y p:=λi p hp d=>by
   by_cases t:i<M gs
   .rwa [qQ t]at hp
   .rw[nf S]at hp;have:=fw hp;obtain rfl:=eh.1 this;simp[bz]at d
  exact G.apart i j p q b (lt i p hp A) (lt j q m D) A D
 .exact G.far
 .intro p hp;rcases bX.1 hp with h|h
  .exact G.far p h
  .obtain rfl:=eh.1 h;simp[bz]
end
section
variable {e:Sh} {w w':World} {U U':Nat->Prop} {ρ:Nat->Option Value} {v:Value} {l:List (N e)} {r c0:Nat} {gs:List (K3×Value)} {es:List (K3×List (N e))} {k:K3}
theorem O6{ents h:Array MapEntry}{clock n:Nat}(_:w.heap[r]?=Y (.map ents clock)):jt w {w with heap:=w.heap.setIfInBounds r (.map h n)}:=by exact⟨sw,rfl,rfl,rfl⟩
structure TO (w:World) (U:Nat->Prop) (r:Nat) (gs:List (K3×Value)) (w':World) (U':Nat->Prop) (gs':List (K3×Value)):Prop where
 ext:jt w w'
 same:∀b,b<w.heap.size->¬IM r gs b->w'.heap[b]?=w.heap[b]?
 u1:∀b,b<w.heap.size->U' b->U b
 u2:∀b,b<w.heap.size->U b->¬IM r gs b->U' b
 ub:∀b,U' b->b<w'.heap.size
 new:∀b,IM r gs' b->IM r gs b\/w.heap.size<=b
theorem qP.inU(G:qP e w U r c0 gs es){b:Nat}(h:IM r gs b):U b/\b<w.heap.size:=by
 rcases h with rfl|⟨p,hp,x⟩
 .have⟨_,_,h,_⟩:=G.mp;exact⟨G.ur,(dq.1 h).1⟩
 .obtain⟨j,c,rfl⟩:=jf hp;have d:M gs=M es:=by simpa using congrArg M G.keys
  exact(G.own j _ (es[j]'ow) (zQ c) (zQ S)).blk x
variable {et:TypeId}{vx:Value}
theorem qP.store{E:bS}(hE:EnvOk E){n:Nat}{h0:TypeId}(G:qP e w U r c0 gs es)(H:gs[n]?=Y (k,v))(x9:es[n]?=Y (k,l))(hu:E.P.underlying et=Y (.slice h0))(a7:E.sh h0=Y e){d:N e}(hx:Rv w U ρ (.sl e [d]) vx)(a8:∀b,U b->b<w.heap.size)(i0:M l<=1000)(mt ty:TypeId):
  ∃D w2 w3 U3,(Builtin.append_ #[et,et] ty #[v,vx]).run E.P w=.ok D w2/\(Instr.entryStore mt (.map (Y r)) (.int .i64 (c0+n:Nat)) D).run E.P w2=.ok () w3/\
   qP e w3 U3 r c0 (gs.set n (k,D)) (es.set n (k,l++[d]))/\TO w U r gs w3 U3 (gs.set n (k,D)):=by
 have hv:=G.own n _ _ H x9;have x5:=G.far _ (fw H);obtain⟨ents,clock,g,he,hs⟩:=G.mp;have x1:r<w.heap.size:=(dq.1 g).1;have a1:aW w U (iM (λ_=>Q2) 0 v) 0 (.vec e l):=hv.to (by simp[iM]);have h8:∀{b:Nat},zY (iM (λ_=>Q2) 0 v) 0 (.vec e l) b->bz v=Y b:=λ⟨_,y,hy,g⟩=>by simp[iM]at hy;subst hy;exact g
 have a5:(ij E (λid=>if id=0 then .vec e l else .dead) 1 h0 (.vec 0) (.sl e [d])).val=Y {val:=.vec 1,wr:=[(0,.dead)],nw:=[.vec e (l++[d])]}:=by
  have hd:L (M l+[d].length<=1073741824)=true:=by simp;omega
  simp only[ij,a7,zj,oX,dite_true,Tr.val,hd]
 obtain⟨D,w2,U2,ρ2,a3,x,_⟩:=xp hE (w:=w) (U:=U) (ρ:=iM (λ_=>Q2) 0 v) (t:=et) (t':=et) (ty:=ty) (vb:=v) (vx:=vx) (fp:=[0]) a5 hu hu (.vec 0 v (by simp[iM]) hv.one)
  (by have:=hx.ren (ρ':=iM (λ_=>Q2) 0 v) (f:=λi=>i) (by simp[AV.ids]);simpa[AV.ren]using this) a8
  ⟨λid x8=>by simp at x8;subst x8;exact a1,λi hi j hj _ _ _=>by simp at hi hj;omega⟩ (by simp[AV.ids]) (by simp[AV.ids]) (by simp[iM])
 have x3:ρ2 1=Y D:=by have:=x.val;cases this with|vec _ _ h _=>exact h
 have a9:fF e w2 U2 D (l++[d]):=ziZ x3 (x.nw 0 _ rfl);have A:∀b,bz v≠Y b->∀id o,(id,o)∈([(0,AO.dead)]:List (Nat×AO))->¬zY (iM (λ_=>Q2) 0 v) id (ite (id=0) (.vec e l) (.dead)) b:=λb g id o h4 ho=>by
  simp at h4;obtain⟨rfl,_⟩:=h4;exact g (h8 ho)
 have s:∀b,bz D=Y b->w.heap.size<=b\/bz v=Y b:=λb c=>by
  rcases x.own 1 (.vec e (l++[d])) b (.inr ⟨zK _,rfl⟩) ⟨rfl,D,x3,c⟩with h|⟨i,o,h4,ho⟩
  .exact .inl h
  .simp at h4;obtain⟨rfl,_⟩:=h4;exact .inr (h8 ho)
 have x4:w2.heap[r]?=Y (.map ents clock):=(x.same r x1 (A r x5)).trans g;have x2:U2 r:=x.u2 r x1 G.ur (A r x5);have i1:(sU gs)[n]?=Y (cd k,v):=by rw[b8,H];rfl
 obtain⟨z,h1,h2,h3⟩:=K6 (P:=E.P) (mt:=mt) (w:=w2) (v':=D) x4 he hs H;have F:=om (o':=Obj.map z clock) x4;have a2:bz D≠Y r:=λq=>(s r q).elim (λh=>by omega) x5
 have Kf:∀{v:Value}{l:List (N e)},fF e w2 U2 v l->bz v≠Y r->fF e {w2 with heap:=w2.heap.setIfInBounds r (.map z clock)} U2 v l:=λh hr=>
  h.mono sw (λb _ hu=>F.2 b λq=>hu (q▸x2)) (λ_ _ h=>h) λb c=>⟨F.2 b λq=>hr (q▸c),(h.blk c).1⟩
 have x7:∀{u:Value}{m:List (N e)},fF e w U u m->(∀b,bz u=Y b->bz v≠Y b)->fF e w2 U2 u m:=λh hd=>
  h.mono x.ext.sz (λb g hu=>x.same b g (A b λq=>hu (hv.blk q).1)) x.u1 λb c=>⟨x.same b (h.blk c).2 (A b (hd b c)),x.u2 b (h.blk c).2 (h.blk c).1 (A b (hd b c))⟩
 have hl:M gs=M es:=by simpa using congrArg M G.keys
 have a6:=(cQ.1 H).1;have h9:∀{j:Nat}{p:K3×Value},(gs.set n (k,D))[j]?=Y p->(j=n/\p=(k,D))\/(j≠n/\gs[j]?=Y p):=λ{j p} hp=>by
  rw[oh]at hp;split at hp
  next q=>cases hp;exact .inl ⟨q.symm,rfl⟩
  next q=>exact .inr ⟨λh=>q h.symm,hp⟩
 have h7:(gs.set n (k,D)).map (·.1)=gs.map (·.1):=by
  rw[List.map_set];apply kE;intro i;rw[oh];split
  next q=>subst q;rw[b8,H,zf (by simpa using a6)];rfl
  .rfl
 have x0:(es.set n (k,l++[d])).map (·.1)=es.map (·.1):=by
  rw[List.map_set];apply kE;intro i;rw[oh];split
  next q=>subst q;rw[b8,x9,zf sg];rfl
  .rfl
 refine⟨D,w2,_,U2,a3,h1,⟨⟨z,clock,F.1,h2,h3⟩,by rw[h7,x0];exact G.keys,by rw[h7];exact G.nd,λp hp=>?_,λj p q hp hq=>?_,λi j p q b hp hq h5 h6=>?_,λp hp=>?_,x2⟩,?_⟩
 .rcases IS hp with h|rfl
  .exact G.ok p h
  .exact G.ok (k,v) (fw H)
 .rcases h9 hp with⟨rfl,rfl⟩|⟨hj,hp⟩
  .rw[Oq S]at hq;cases hq;exact Kf a9 a2
  .rw[wW (λq=>hj q.symm)]at hq;exact Kf (x7 (G.own j p q hp hq) λb h5 h6=>hj (G.apart j n p _ b hp H h5 h6)) (G.far p (fw hp))
 .have a4:∀{j:Nat}{p:K3×Value},gs[j]?=Y p->bz p.2=Y b->b<w.heap.size:=λ{j p} hp c=>(G.inU (.inr ⟨p,fw hp,c⟩)).2
  rcases h9 hp with⟨rfl,rfl⟩|⟨hi,x6⟩
  .rcases h9 hq with⟨rfl,rfl⟩|⟨hj,hq⟩
   .rfl
   .rcases s b h5 with h|h
    .have:=a4 hq h6;omega
    .exact G.apart _ j _ q b H hq h h6
  .rcases h9 hq with⟨rfl,rfl⟩|⟨hj,hq⟩
   .rcases s b h6 with h|h
    .have:=a4 x6 h5;omega
    .exact G.apart i _ p _ b x6 H h5 h
   .exact G.apart i j p q b x6 hq h5 h6
 .rcases IS hp with h|rfl
  .exact G.far p h
  .exact a2
 .have a0:∀b,¬IM r gs b->bz v≠Y b:=λb g q=>g (.inr ⟨_,fw H,q⟩)
  refine⟨x.ext.trans (O6 x4),λb g hg=>(F.2 b λq=>hg (.inl q)).trans (x.same b g (A b (a0 b hg))),x.u1,λb g hu hg=>x.u2 b g hu (A b (a0 b hg)),λb g=>by have:=x.ub b g;simpa using this,λb g=>?_⟩;rcases g with rfl|⟨p,hp,g⟩
  .exact .inl (.inl rfl)
  .rcases IS hp with h|rfl
   .exact .inl (.inr ⟨p,h,g⟩)
   .exact(s b g).elim .inr λh=>.inl (.inr ⟨_,fw H,h⟩)
theorem qP.add{E:bS}(hE:EnvOk E){mt kt elem:TypeId}(G:qP e w U r c0 gs es)(hk:ez k)(hm:E.P.underlying mt=Y (.map kt et))(h5:gg E.P kt=true){i:TypeInfo}(hi:E.P.info? et=Y i)(hz:i.zero=Y (.slice Q2 0 0))(z:E.P.underlying et=Y (.slice elem))(h0:E.sh elem=Y e)
  {x:N e}  (hx:Rv w U ρ (.sl e [x]) vx) (h4:∀b,U b->b<w.heap.size) (o:∀q∈es,M q.2<=1000) (ty:TypeId):
  ∃v s w1 v' w2 A D y n l,(Instr.mapEntry mt (.map (Y r)) (cd k)).run E.P w=.ok (.tuple #[v,s]) w1/\(Builtin.append_ #[et,et] ty #[v,vx]).run E.P w1=.ok v' w2/\(Instr.entryStore mt (.map (Y r)) s v').run E.P w2=.ok () A/\
   (rK es k)[n]?=Y (k,l)/\qP e A D r c0 y ((rK es k).set n (k,l++[x]))/\TO w U r gs A D y:=by
 have⟨g,d,n,h1,G1,hn⟩:=G.entry (P:=E.P) hk hm h5 hi hz;have⟨ents,clock,F,_⟩:=G.mp;have p:=om (o':=Obj.map g d) F;obtain⟨l,t⟩:∃l,(rK es k)[n]?=Y (k,l):=by
  have e1:((rK es k).map (·.1))[n]?=Y k:=by rw[<-G1.keys,b8,hn];rfl
  rw[b8,dG]at e1;obtain⟨⟨k',l⟩,h,rfl⟩:=e1;exact⟨l,h⟩
 have hl:M l<=1000:=by
  have:=fw t;unfold rK at this;split at this
  .exact o _ this
  .rcases bX.1 this with h|h
   .exact o _ h
   .have:=eh.1 h;cases this;exact zU _
 have h6:Rv {w with heap:=w.heap.setIfInBounds r (.map g d)} U ρ (.sl e [x]) vx:=hx.mono sw (λb _ z=>p.2 b λq=>z (q▸G.ur)) (λ_ _ h=>h) λ_ _ h=>h
 have⟨v',w2,A,D,h2,h3,G3,c⟩:=G1.store hE hn t z h0 h6 (λb F=>by have:=h4 b F;simpa using this) hl mt ty;have u:∀b,IM r (DA gs k) b↔IM r gs b:=λb=>IM.ent G.keys
 have m:({w with heap:=w.heap.setIfInBounds r (.map g d)}:World).heap.size=w.heap.size:=by simp
 refine⟨_,_,_,v',w2,A,D,_,n,l,h1,h2,h3,t,G3,⟨(O6 F).trans c.ext,λb j H=>(c.same b (by rw[m];exact j) (λq=>H ((u b).1 q))).trans (p.2 b λq=>H (.inl q)),λb j=>c.u1 b (by rw[m];exact j),λb j z H=>c.u2 b (by rw[m];exact j) z (λq=>H ((u b).1 q)),c.ub,λb j=>?_⟩⟩;rcases c.new b j with h|h
 .exact .inl ((u b).1 h)
 .rw[m]at h;exact .inr h
end
end
end Cad
