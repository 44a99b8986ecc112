/- What each operation says. -/
import Derived.Test.YtjdjldbhjmgmkaaGreatDoorN02
namespace Cad
open Go
open List renaming length->N
open Bool renaming true->Z
open Option renaming none->Q2,some->Q1,some->Y
open Tr (chk br)
open AV (nils agg tup ptr kb str sl)
open Cad renaming ow->S,Sem->L,zj->Q
section
variable {P:Program} {w:World} {U:Nat->Prop} {ρ:Nat->Option Value}
theorem mQ{k:IntKind}{i:Int}{y:Nat}(c:BoundsCode)(h:0<=i)(x:i<=y):(Instr.sliceBound (.int k i) y c).run P w=.ok i.toNat w:=by simp[Instr.sliceBound,asIntOf,h,x]
theorem Ql(s:zN)(l h:Nat):(⟨s.toArray⟩:ByteArray).extract l h=⟨((s.drop l).take (h-l)).toArray⟩:=by apply ByteArray.ext;simp[List.extract_eq_take_drop]
variable {v:Value}
theorem D6{c:AV}{k:Int}(h:rA c=Y k)(x:Rv w U ρ c v):∃i,v=.int i k:=by
 unfold rA at h;split at h
 .cases h;cases x;exact⟨_,rfl⟩
 .cases h
variable {s u:Option AV}
theorem Iz{isS:Bool}{len cap:Nat}{d j:Option Value}{l h:Int}
  (e:(match s with|none=>Y 0|some a=>rA a)=Y l) (k:(match u with|none=>Y (len:Int)|some a=>rA a)=Y h)
  (g:∀a v,s=Y a->d=Y v->Rv w U ρ a v) (m:∀a v,u=Y a->j=Y v->Rv w U ρ a v)
  (x:s.isSome=d.isSome) (i:u.isSome=j.isSome) (n:0<=l) (q:l<=h) (z:h<=len) (A:len<=cap):
  (Instr.sliceBounds isS len cap d j Q2).run P w=.ok (l.toNat,h.toNat,cap) w:=by
 cases u with
 | none=>
  cases j with
  |some v=>simp at i
  |none=>
  simp at k;subst k;cases s with
  | none=>
   cases d with
   |some v=>simp at x
   |none=>simp at e;subst e;simp[Instr.sliceBounds]
  | some a=>
   cases d with
   |none=>simp at x
   | some v=>
    obtain⟨p,rfl⟩:=D6 e (g _ _ rfl rfl);simp[Instr.sliceBounds,mQ _ n q]
 | some b=>
  cases j with
  |none=>simp at i
  |some B=>
  obtain⟨p,rfl⟩:=D6 k (m _ _ rfl rfl);have o:∀c,(Instr.sliceBound (.int p h) cap c).run P w=.ok h.toNat w:=λc=>mQ c S S
  cases s with
  | none=>
   cases d with
   |some v=>simp at x
   |none=>simp at e;subst e;simp[Instr.sliceBounds,o]
  | some a=>
   cases d with
   |none=>simp at x
   | some v=>
    obtain⟨t,rfl⟩:=D6 e (g _ _ rfl rfl);simp[Instr.sliceBounds,o,mQ (y:=h.toNat) _ n S]
variable {t:TypeId}
theorem vX{c:AV}{mx:Option AV}{vlo vhi vmx:Option Value}{f:gB}(h:(xj P t c s u mx).val=Y f)
  (hx:Rv w U ρ c v) (h8:∀a g,s=Y a->vlo=Y g->Rv w U ρ a g) (B:∀a g,u=Y a->vhi=Y g->Rv w U ρ a g)
  (h9:∀a g,mx=Y a->vmx=Y g->Rv w U ρ a g) (D:s.isSome=vlo.isSome) (C:u.isSome=vhi.isSome) (E:mx.isSome=vmx.isSome):
  ∃r x,f={val:=r}/\(Instr.sliceAt t v vlo vhi vmx).run P w=.ok x w/\Rv w U ρ r x:=by
 have z:∀(a:Option Addr)(h7 h4:Nat)(n:TypeId)(k k':IntKind),P.underlying t=Y (.slice n)->(gR P n).isSome->
   (Instr.sliceAt t (.slice a h7 h4) Q2 (Y (.int k 0)) (Y (.int k' 0))).run P w=.ok (.slice a 0 0) w:=by
  intro a h7 h4 n k k' A hs;have⟨sz,hs⟩:=Option.isSome_iff_exists.1 hs;simp[Instr.sliceAt,Instr.slice,bN A,Instr.sliceBounds,Instr.sliceBound,asIntOf,dv hs]
 unfold xj at h;split at h
 .rename_i m A;cases vmx with
  |some g=>simp at E
  |none=>
  split at h
  .rename_i l p h3 H;simp at h;obtain⟨⟨⟨h0,G⟩,F⟩,rfl⟩:=h;cases hx with
   |str _ hs=>
   have hb:=Iz (P:=P) (w:=w) (U:=U) (ρ:=ρ) (isS:=false) (len:=N m) (cap:=N m) h3 H h8 B D C h0 G F (zR _);refine⟨_,.string ⟨((m.drop l.toNat).take (p.toNat-l.toNat)).toArray⟩,rfl,?_,.str _ sg⟩;simp[Instr.sliceAt,Instr.slice,bN A,Hc,hb,Ql]
  .simp at h
 .rename_i n e m A;cases vmx with
  |some g=>simp at E
  |none=>
  split at h
  .rename_i y;split at h
   .rename_i l p h3 H;simp at h;obtain⟨⟨⟨h0,G⟩,F⟩,rfl⟩:=h
    have h6:∀(a:Option Addr)(d:Nat),N m<=d->(Instr.sliceAt t (.slice a (N m) d) vlo vhi Q2).run P w=
      .ok (.slice (ite (d=l.toNat) a (a.map (·.add (l.toNat*e.size)))) (p.toNat-l.toNat) (d-l.toNat)) w:=by
     intro a d hc;have hb:=Iz (P:=P) (w:=w) (U:=U) (ρ:=ρ) (isS:=Z) (len:=N m) (cap:=d) h3 H h8 B D C h0 G F hc;simp[Instr.sliceAt,Instr.slice,bN A,hb,dv y]
    have q:((m.drop l.toNat).take (p.toNat-l.toNat)).length=p.toNat-l.toNat:=by simp;omega
    by_cases x2:l.toNat<p.toNat
    .cases hx with
     |sl0 _ a d=>simp at F;omega
     |sl _ _ b o d x0 hc hm hb hU x1 hr=>
     refine⟨_,_,rfl,h6 _ _ hc,?_⟩;rw[zh S];simp only[Ir,Addr.add_none]
     suffices hs:Rv w U ρ (.sl e ((m.drop l.toNat).take (p.toNat-l.toNat))) (.slice (Y ⟨b,o+l.toNat*e.size,Q2⟩) ((m.drop l.toNat).take (p.toNat-l.toNat)).length (d-l.toNat)) by
      rw[q]at hs;exact hs
     refine .sl e _ b (o+l.toNat*e.size) (d-l.toNat) (λi j=>x0 (l.toNat+i) j) (by rw[q];omega) (by rw[q];omega) hb hU (λi j u hj=>?_) (λi u j c' hx=>?_)
     .grind
     grind
    .have h5:(m.drop l.toNat).take (p.toNat-l.toNat)=[]:=by
      rw[show p.toNat-l.toNat=0 by omega];simp
     rw[h5];obtain⟨a,d,rfl,hm,hc⟩:=MG hx;refine⟨_,_,rfl,h6 a d hc,?_⟩;rw[show p.toNat-l.toNat=0 by omega];exact .sl0 e _ _
   .simp at h
  .simp at h
 .rename_i n e m k A;split at h
  .rename_i k';split at h
   .rename_i y;simp at h;subst h;cases vlo with
    |some g=>simp at D
    |none=>
    cases vhi with
    |none=>simp at C
    |some vh=>
    cases vmx with
    |none=>simp at E
    |some vm=>
    have G:=B _ _ rfl rfl;have F:=h9 _ _ rfl rfl;cases G;cases F;obtain⟨a,d,rfl,hm,hc⟩:=MG hx;exact⟨_,_,rfl,z _ _ _ n _ _ A y,.nils _⟩
   .simp at h
  .simp at h
 .rename_i n k A;split at h
  .rename_i k';split at h
   .rename_i y;simp at h;subst h;cases vlo with
    |some g=>simp at D
    |none=>
    cases vhi with
    |none=>simp at C
    |some vh=>
    cases vmx with
    |none=>simp at E
    |some vm=>
    have G:=B _ _ rfl rfl;have F:=h9 _ _ rfl rfl;cases G;cases F;cases hx;exact⟨_,_,rfl,z _ _ _ n _ _ A y,.nils _⟩
   .simp at h
  .simp at h
 .simp at h
structure lz (w w':World):Prop where
 sz:w.heap.size<=w'.heap.size
 os:w'.os=w.os
 out:w'.output=w.output
 tape:w'.tape=w.tape
 fr:∀a:Addr,a.block<w.heap.size->w'.frozen? a=w.frozen? a
theorem lz.refl(w:World):lz w w:=⟨zR _,rfl,rfl,rfl,λ_ _=>rfl⟩
theorem lz.trans{a b c:World}(h:lz a b)(d:lz b c):lz a c:=
 ⟨aV h.sz d.sz,d.os.trans h.os,d.out.trans h.out,d.tape.trans h.tape,λx e=>(d.fr x (ie e h.sz)).trans (h.fr x e)⟩
structure Ef (n:Nat) (hp:Nat->AO) (f:gB) (w:World) (U:Nat->Prop) (ρ:Nat->Option Value) (v:Value) (w':World) (U':Nat->Prop) (ρ':Nat->Option Value):Prop where
 ext:lz w w'
 val:Rv w' U' ρ' f.val v
 wr:∀id o,(id,o)∈f.wr->bz w' U' ρ' id o
 nw:∀(j:Nat) o,f.nw[j]?=Y o->bz w' U' ρ' (n+j) o
 rho:∀id,(id<n\/n+f.nw.length<=id)->ρ' id=ρ id
 rhon:∀id v,ρ id=Y v->ρ' id=Y v
 same:∀b,b<w.heap.size->(∀id o,(id,o)∈f.wr->¬ar ρ id (hp id) b)->w'.heap[b]?=w.heap[b]?
 ub:∀b,U' b->b<w'.heap.size
 u1:∀b,b<w.heap.size->U' b->U b
 u2:∀b,b<w.heap.size->U b->(∀id o,(id,o)∈f.wr->¬ar ρ id (hp id) b)->U' b
 own:∀id o b,((id,o)∈f.wr\/(n<=id/\f.nw[id-n]?=Y o))->ar ρ' id o b->w.heap.size<=b\/∃id' o',(id',o')∈f.wr/\ar ρ id' (hp id') b
 inj:∀id1 o1 id2 o2 b,((id1,o1)∈f.wr\/(n<=id1/\f.nw[id1-n]?=Y o1))->((id2,o2)∈f.wr\/(n<=id2/\f.nw[id2-n]?=Y o2))->
  ar ρ' id1 o1 b->ar ρ' id2 o2 b->id1=id2
variable {n:Nat}{h:Nat->AO}
theorem Ef.pure{r:AV}(a:∀b,U b->b<w.heap.size)(x:Rv w U ρ r v):Ef n h {val:=r} w U ρ v w U ρ where
 ext:=lz.refl w
 val:=x
 wr:=by simp
 nw:=by simp
 rho:=λ_ _=>rfl
 rhon:=λ_ _ x=>x
 same:=λ_ _ _=>rfl
 ub:=a
 u1:=λ_ _ x=>x
 u2:=λ_ _ x _=>x
 own:=by simp
 inj:=by simp
theorem bQ(w:World)(o:Obj)(b:Nat)(h:b<w.heap.size):(w.alloc o).heap[b]?=w.heap[b]?:=by show(w.heap.push o)[b]?=w.heap[b]?;grind
theorem cT(w:World)(o:Obj):(w.alloc o).heap[w.heap.size]?=Y o:=by show(w.heap.push o)[w.heap.size]?=Y o;rw[Array.getElem?_push,zf rfl]
theorem bE(w:World)(o:Obj):(w.alloc o).heap.size=w.heap.size+1:=by simp_all
theorem lz.alloc(w:World)(c:Array Value)(t:TypeId):lz w (w.alloc (.cells c t)) where
 sz:=by rw[bE];omega
 os:=rfl
 out:=rfl
 tape:=rfl
 fr:=λa h=>BF (bQ w _ _ h)
def kz(ρ:Nat->Option Value)(n:Nat)(v:Value):Nat->Option Value:=λid=>if id=n then Y v else ρ id
theorem fK(a:ρ n=Q2):∀id x,ρ id=Y x->kz ρ n v id=Y x:=by intro id x h;unfold kz;grind
theorem Ef.box{cs:List AV}{a:Array Value}(y:∀b,U b->b<w.heap.size)(k:ρ n=Q2)
  (s:dn w U ρ cs a.toList) (i:∀v∈a.toList,v.oneCell'=Z):
  Ef n h {val:=.ptr n 0,nw:=[.box cs]} w U ρ (.pointer (Y ⟨w.heap.size,0,Q2⟩)) (w.alloc (.cells a t)) (λb=>U b\/b=w.heap.size) (kz ρ n (.pointer (Y ⟨w.heap.size,0,Q2⟩))):=by
 have q:∀b,b<w.heap.size->¬U b->(w.alloc (.cells a t)).heap[b]?=w.heap[b]?:=λb c _=>bQ w _ b c
 have l:∀b,b<w.heap.size->(U b\/b=w.heap.size)->U b:=λb c x=>x.elim id (λe=>by omega)
 have u:w.heap.size<=(w.alloc (.cells a t)).heap.size:=by rw[bE];omega
 refine⟨lz.alloc w a t,.ptr n 0 _ (by simp[kz]),sw,?_,?_,fK k,λb c _=>bQ w _ b c,?_,λb c x=>l b c x,λb _ x _=>.inl x,?_,?_⟩
 .intro j o g;cases j with
  |succ j=>simp at g
  | zero=>
   simp at g;subst g;exact⟨w.heap.size,t,a,by simp[kz],.inr rfl,cT w _,s.mono u q l (fK k),i⟩
 .intro id x;unfold kz;rw[zh (by simp at x;omega)]
 .intro b x;rw[bE];grind
 .rintro id o b (x|⟨i,h2⟩) ho
  .simp at x
  .have:id-n=0:=by
    by_cases p:id-n=0
    .exact p
    .simp_all
   have d:id=n:=by omega
   subst d;have⟨_,v,m,c⟩:=ho;simp[kz]at m;subst m;simp[cf]at c;exact .inl S
 grind
end
section
variable {P:Program} {w:World} {U:Nat->Prop} {ρ:Nat->Option Value}
variable {a:Array Value}{t:TypeId}
theorem La(w:World)(b o:Nat)(v:Value){x:Nat×Nat}(h:w.heap[b]?=Y (.cells a t x)):
  (w.setCell ⟨b,o,Q2⟩ v).heap[b]?=Y (.cells (a.setIfInBounds o v) t x):=by simp[World.setCell,uN,h]
theorem wg(w:World)(b o x:Nat)(v:Value)(h:x≠b):(w.setCell ⟨b,o,Q2⟩ v).heap[x]?=w.heap[x]?:=by simp only[World.setCell,uN];rw[zh (λe=>h e.symm)]
theorem kq:∀(d:List Value)(w:World)(b o:Nat){a:Array Value}{x:TypeId}{c:Nat×Nat},w.heap[b]?=Y (.cells a x c)->
  (w.setCells b o d).heap[b]?=Y (.cells (qz a.toList o d).toArray x c)
 |[],_,_,_,_,_,_,h=>by simpa[World.setCells,qz]using h
 | v::r,w,b,o,a,x,c,h=>by
  rw[World.setCells];have:=kq r _ b (o+1) (La w b o v h);rw[this];simp[qz]
theorem cO:∀(a:List Value)(w:World)(b o x:Nat),x≠b->(w.setCells b o a).heap[x]?=w.heap[x]?
 |[],_,_,_,_,_=>rfl
 | v::r,w,b,o,x,h=>by
  rw[World.setCells,cO r _ b (o+1) x h,wg w b o x v h]
theorem yD(w:World)(a:Addr)(v:Value):(w.setCell a v).heap.size=w.heap.size:=by simp[World.setCell]
theorem lz.setCells:∀(x:List Value)(w:World)(b o:Nat),lz w (w.setCells b o x)
 |[],w,_,_=>lz.refl w
 | v::r,w,b,o=>by
  have h:lz w (w.setCell ⟨b,o,Q2⟩ v):=⟨by rw[yD];exact zR _,rfl,rfl,rfl,λa _=>by rw[World.frozen?_setCell]⟩;rw[World.setCells];exact h.trans (lz.setCells r _ b (o+1))
theorem ky:∀(h:List Value)(w:World)(b o:Nat),(w.setCells b o h).heap.size=w.heap.size
 |[],_,_,_=>rfl
 |v::r,w,b,o=>by rw[World.setCells,ky r,yD]
theorem mR:∀(l h:List Value)(o q:Nat),(qz h o l)[q]?=if o<=q/\q<o+N l/\q<N h then l[q-o]? else h[q]?
 | [],h,o,q=>by
  rw[zh sg];rfl
 | v::l,h,o,q=>by
  rw[qz,mR l _ (o+1) q];grind
variable {n:Nat}
theorem qS{v:Value}{o sz:Nat}{k:TypeId}(b:gR P t=Y sz)(m:v.cells.toList.length=sz)
  (c:w.heap[n]?=Y (.cells a k (0,0))) (i:o+sz<=a.size) (d:∀x∈v.cells.toList,x.oneCell'=Z):
  (storeVar t ⟨n,o,Q2⟩ v).run P w=.ok () (w.setCells n o v.cells.toList):=by
 have e:∀j,j<v.cells.toList.length->(w.cell? ⟨n,o+0+j,Q2⟩).isSome=Z:=by
  intro j l;have:o+j<a.size:=by omega
  simp[World.cell?,c,uD this]
 have g:∀j,j<v.cells.toList.length->w.frozen? ⟨n,o+0+j,Q2⟩=false:=by
  intro j l;simp[World.frozen?,c]
 have:=run_storeCells_cells (P:=P) n o v.cells.toList 0 w e g d;rw[vC]at this;have h:v.cells.size=sz:=by simpa using m
 simp[storeVar,dv b,h,this]
variable {id off:Nat}{h:Nat->AO}{b:List AV}{q:List Value}
theorem Ef.store{p:List AV}{d:Nat}(F:∀d,U d->d<w.heap.size)(j:h id=.box b)
  (u:ρ id=Y (.pointer (Y ⟨d,0,Q2⟩))) (s:U d) (z:w.heap[d]?=Y (.cells a t (0,0))) (D:dn w U ρ b a.toList) (y:∀v∈a.toList,v.oneCell'=Z)
  (G:dn w U ρ p q) (o:∀x∈q,x.oneCell'=Z):
  Ef n h {val:=.tup [],wr:=[(id,.box (setCells b off p))]} w U ρ undef (w.setCells d off q) U ρ:=by
 have k:ar ρ id (h id) d:=⟨by rw[j];rfl,_,u,rfl⟩;have A:∀g,g<w.heap.size->¬U g->(w.setCells d off q).heap[g]?=w.heap[g]?:=λg _ i=>cO _ _ _ _ _ (λe=>i (e▸s))
 have E:w.heap.size<=(w.setCells d off q).heap.size:=by rw[ky];exact zR _
 refine⟨lz.setCells q w d off,.tup [] [] rfl sw,?_,sw,λ_ _=>rfl,λ_ _ c=>c,?_,?_,λ_ _ c=>c,λ_ _ c _=>c,?_,?_⟩
 .intro l H c;simp at c;obtain⟨rfl,rfl⟩:=c;refine⟨d,t,(qz a.toList off q).toArray,u,s,kq q w d off z,?_,?_⟩
  .simpa using(DG p q b a.toList off D G).mono E A (λ_ _ c=>c) (λ_ _ c=>c)
  .simpa using G7 q a.toList off y o
 .intro g _ B;exact cO _ _ _ _ _ (λe=>B id _ (by simp;rfl) (e▸k))
 .grind
 .rintro l H g (c|⟨_,c⟩) C
  .simp at c;obtain⟨rfl,rfl⟩:=c;refine .inr ⟨l,_,by simp;rfl,?_⟩;have⟨_,v,m,i⟩:=C;exact⟨by rw[j];rfl,v,m,i⟩
  .simp at c
 simp_all
variable {z:AO}
theorem tp{U':Nat->Prop}(g:bz w U ρ id z)(x:pX z=Z)(n:∀b,U' b->U b)(o:∀b,ar ρ id z b->¬U' b):bz w U' ρ id (Fh z):=by
 cases z with
 | frz e l=>
  have⟨v,d,m⟩:=g;exact⟨v,d,m.weak n⟩
 | vec e l=>
  have i:=g;have⟨a,c,d,m,q⟩:=g
  have:=wM (w:=w) (U:=U) (U':=U') (ρ:=ρ) (hp:=λ_=>.vec e l) (e:=e) (c:=.vec id) (l:=l) (by simp[vE]) (.vec id _ d rfl) n
   (λj h=>by simp[du]at h;subst h;exact i) (λj h=>by simp[du]at h;subst h;exact o)
  exact⟨_,d,this⟩
 |dead=>simp[pX]at x
 |box p=>simp[pX]at x
 |fmap k=>simp[pX]at x
 |vmap u k=>simp[pX]at x
 |gmap e k=>simp[pX]at x
variable {i:List Nat}
theorem dX(x:(id,z)∈io h i):id∈i/\z=Fh (h id):=by simp only[io,bt,cQ]at x;grind
theorem tq(x:id∈i):(id,Fh (h id))∈io h i:=by simp only[io,bt,cQ];exact⟨id,x,rfl,rfl⟩
theorem rR(h:pX z=Z):(Fh z).owns=false:=by cases z<;>simp[pX]at h<;>rfl
theorem Of:∀(e:Sh)(y:L e)(q:Nat)(c:AV),(zF e y)[q]?=Y c->du c=[]:=by
 intro e
 induction e with
 |unit=>intro y q c h;simp[zF]at h
 |bool=>intro y q c h;cases q<;>simp[zF]at h;subst h;rfl
 |int k=>intro y q c h;cases q<;>simp[zF]at h;subst h;rfl
 |str=>intro y q c h;cases q<;>simp[zF]at h;subst h;rfl
 |sl e d=>intro y q c h;cases q<;>simp[zF]at h;subst h;rfl
 | pr a b i x=>
  intro y q c h;simp only[zF]at h;grind
 | expr=>
  intro y q c h
  match q with
  |0=>simp[zF]at h;subst h;rfl
  |1=>simp[zF]at h;subst h;rfl
  |2=>simp[zF]at h;subst h;rfl
  |3=>simp[zF]at h;subst h;rfl
  |4=>simp[zF]at h;subst h;rfl
  |5=>simp[zF]at h;subst h;rfl
  |_+6=>simp[zF]at h
theorem yE:∀(x e:List AV)(o:Nat)(c:AV),c∈setCells e o x->c∈e\/c∈x
 |[],_,_,_,h=>.inl h
 | v::x,e,o,c,h=>by
  rcases yE x _ _ c h with h|h
  .grind
  .exact .inr (by simp[h])
theorem Ef.storeVec{m:Nat}{e:Sh}{l:List (L e)}{x:L e}{g c:Nat}(a9:∀g,U g->g<w.heap.size)(h8:h id=.vec e l)
  (hρ:ρ id=Y (.slice (Y ⟨g,0,Q2⟩) (N l) c)) (hc:0<c) (hU:U g) (hb:w.heap[g]?=Y (.cells a t (0,0))) (hm:N l<=aF) (a4:a.size=c*e.size) (x8:N l<=c)
  (hr:∀m(hi:m<N l)(j:Nat)(c:AV),(zF e l[m])[j]?=Y c->∃v,a[m*e.size+j]?=Y v/\Rv w U ρ c v)
  (hv:dn w U ρ b q) (a7:off+N b<=e.size) (hi:m<N l)
  (h9:dD h e (setCells (zF e l[m]) off b)=Y (x,[]))
  (C:∀j∈b.flatMap du,pX (h j)=Z/\j≠id) (a2:∀j∈b.flatMap du,bz w U ρ j (h j))
  (x0:∀j∈b.flatMap du,∀g,ar ρ j (h j) g->¬ar ρ id (h id) g):
  Ef n h {val:=.tup [],wr:=(id,.vec e (l.set m x))::io h (b.flatMap du)} w U ρ undef (w.setCells g (m*e.size+off) q)
   (λg=>U g/\¬∃j∈b.flatMap du,ar ρ j (h j) g) ρ:=by
 have E:ar ρ id (h id) g:=⟨by rw[h8];rfl,_,hρ,by simp[cf];omega⟩;have x9:¬∃j∈b.flatMap du,ar ρ j (h j) g:=λ⟨j,s,u⟩=>x0 j s g u E
 generalize F:(λg=>U g/\¬∃j∈b.flatMap du,ar ρ j (h j) g)=D;have z:∀g,D g->U g:=λg d=>by rw[<-F]at d;exact d.1
 have x6:∀j∈b.flatMap du,∀g,ar ρ j (h j) g->¬D g:=λj s g u d=>by grind
 have h4:D g:=by rw[<-F];exact⟨hU,x9⟩
 have hk:∀A,A<w.heap.size->¬D A->(w.setCells g (m*e.size+off) q).heap[A]?=w.heap[A]?:=λA _ G=>cO _ _ _ _ _ (λe=>G (e▸h4))
 have hs:w.heap.size<=(w.setCells g (m*e.size+off) q).heap.size:=by rw[ky];exact zR _
 have h3:∀{y:AV}{v:Value},Rv w D ρ y v->Rv (w.setCells g (m*e.size+off) q) D ρ y v:=λd=>d.mono hs hk (λ_ _ d=>d) (λ_ _ d=>d)
 have h5:=kq q w g (m*e.size+off) hb;have a6:N q=N b:=hv.len.symm;have x2:(m+1)*e.size<=c*e.size:=fM _ S;rw[jP]at x2;have x5:∀(j:Nat)(y:AV),(zF e x)[j]?=Y y->Rv w D ρ y ((qz a.toList (m*e.size+off) q)[m*e.size+j]?.getD undef):=by
  have a3:dn w U ρ (zF e l[m]) ((List.range e.size).map λj=>(a[m*e.size+j]?).getD undef):=by
   refine⟨by simp[au],λj y v p hv=>?_⟩;simp only[dN,dV]at hv;obtain⟨j',s,rfl⟩:=hv;have⟨h0,x7⟩:=Bl s;subst x7;have⟨v,h1,h2⟩:=hr m hi _ y p;rw[h1];exact h2
  have x3:=DG b q _ _ off a3 hv;refine(pV (w:=w) (U:=U) (U':=D) (ρ:=ρ) (hp:=h) z e _ x [] (λj=>(qz a.toList (m*e.size+off) q)[m*e.size+j]?.getD undef) h9 ?_ ?_).q
  .intro j y s;have h0:j<e.size:=by
    have:=(dF.1 s).1
    rwa [qT,au]at this
   refine x3.rv j y _ s ?_;have x1:m*e.size+j<a.size:=by omega
   rw[mR,mR];grind
  .intro j s;have a8:j∈b.flatMap du:=by
    simp only[BI]at s|-;have⟨y,p,s⟩:=s;rcases yE _ _ _ _ p with d|d
    .have⟨i,hq⟩:=List.mem_iff_getElem?.1 d;rw[Of e _ i y hq]at s;simp at s
    .exact⟨y,d,s⟩
   grind
 refine⟨lz.setCells q w g _,.tup [] [] rfl sw,?_,sw,λ_ _=>rfl,λ_ _ d=>d,?_,?_,λA _ d=>z A d,?_,?_,?_⟩
 .intro k o' d;simp only[ce,cQ]at d;rcases d with⟨rfl,rfl⟩|d
  .refine⟨_,c,by rw[hρ];simp,by simpa using hm,.inr ⟨g,t,(qz a.toList (m*e.size+off) q).toArray,rfl,hc,h4,h5,by simp[ja,a4],by simpa using x8,?_⟩⟩;intro i' h7 j y p;simp only[nt]at h7;by_cases H:m=i'
   .subst H;have h6:(zF e x)[j]?=Y y:=by simpa using p
    have h0:j<e.size:=by have:=(dF.1 h6).1;rwa [au]at this
    have x1:m*e.size+j<(qz a.toList (m*e.size+off) q).length:=by rw[ja];simp;omega
    grind
   .rw[List.getElem_set_ne H]at p;have⟨v,h1,h2⟩:=hr i' h7 j y p;refine⟨v,?_,h3 (h2.weak z)⟩;have h0:j<e.size:=by have:=(dF.1 p).1;rwa [au]at this
    have a0:¬(m*e.size+off<=i'*e.size+j/\i'*e.size+j<m*e.size+off+N q/\i'*e.size+j<a.toList.length):=by
     rintro⟨q1,q2,_⟩;rcases Nat.lt_or_gt_of_ne H with B|B
     .have:=fM e.size (Im B);grind
     .have:=fM e.size (Im B);grind
    simp only[Tg];rw[mR,zh a0];simpa using h1
  .obtain⟨o,rfl⟩:=dX d;refine(tp (a2 k o) (C k o).1 z (x6 k o)).mono hs hk (λ_ _ d=>d) (λ_ _ d=>d) ?_;intro A u;have:=rR (C k o).1;rw[ar,this]at u;simp at u
 .intro A _ hn;exact cO _ _ _ _ _ (λe'=>hn id _ (by simp;exact .inl rfl) (e'▸E))
 .grind
 .intro A _ d hn;rw[<-F];exact⟨d,λ⟨j,s,u⟩=>hn j _ (np _ (tq s)) u⟩
 .rintro k o' A (d|⟨_,d⟩) u
  .simp only[ce,cQ]at d;rcases d with⟨rfl,rfl⟩|d
   .refine .inr ⟨k,_,uO,?_⟩;have⟨_,v,a5,G⟩:=u;exact⟨by rw[h8];rfl,v,a5,G⟩
   .obtain⟨o,rfl⟩:=dX d;have:=rR (C k o).1;rw[ar,this]at u;simp at u
  .simp at d
 .rintro i0 o1 i1 o2 A (d|⟨_,d⟩) (h'|⟨_,h'⟩) u a1
  .have x4:∀k o',(k,o')∈((id,AO.vec e (l.set m x))::io h (b.flatMap du))->ar ρ k o' A->k=id:=by
    intro k o' d u;simp only[ce,cQ]at d;rcases d with⟨rfl,_⟩|d
    .rfl
    .obtain⟨o,rfl⟩:=dX d;have:=rR (C k o).1;rw[ar,this]at u;simp at u
   rw[x4 _ _ d u,x4 _ _ h' a1]
  all_goals simp at d h'
end
section
variable {P:Program} {w:World} {U:Nat->Prop} {ρ:Nat->Option Value}
structure DO (w:World) (U:Nat->Prop) (ρ:Nat->Option Value) (hp:Nat->AO) (fp:List Nat):Prop where
 ob:∀id∈fp,bz w U ρ id (hp id)
 inj:∀id1∈fp,∀id2∈fp,∀b,ar ρ id1 (hp id1) b->ar ρ id2 (hp id2) b->id1=id2
variable {n:Nat}{h:Nat->AO}{t:TypeId}{v:Value}
theorem RD{c C:AV}{A:Value}{f:gB}{fp:List Nat}(d:(K6 P h t c C).val=Q1 f)
  (ha:Rv w U ρ c v) (hx:Rv w U ρ C A) (x3:∀b,U b->b<w.heap.size) (y:DO w U ρ h fp) (u:∀id∈c.ids,id∈fp) (h8:∀id∈eC C,id∈fp):
  ∃w' U',(Instr.storeAt t v A).run P w=.ok () w'/\Ef n h f w U ρ undef w' U' ρ/\∀id o,(id,o)∈f.wr->id∈fp:=by
 unfold K6 at d;split at d
 .rename_i vs sz h6 x1;have⟨hv,F⟩:=iM h6 hx;split at d
  .rename_i B;split at d
   .rename_i id off;cases ha with
    |ptr _ _ b hb=>
    have H:=y.ob id (u id (by simp[AV.ids]));split at d
    .rename_i cs q;rw[q]at H;have⟨b',k,a1,h1,h2,h3,h4,h5⟩:=H;rw[hb]at h1;cases h1;split at d
     .rename_i h9;simp at d;subst d;refine⟨_,U,?_,Ef.store x3 q hb h2 h3 h4 h5 hv F,?_⟩
      .have:=qS (P:=P) (w:=w) (o:=off) x1 (by rw[<-hv.len];exact B) h3 (by have:=h4.len;simp at this;omega) F;simp[Instr.storeAt,Instr.sureAddr,this]
      .intro x9 o' D;simp at D;rw[D.1];exact u id (by simp[AV.ids])
     .simp at d
    .simp at d
   .rename_i id sz' i off;cases ha with
    |vptr _ _ _ _ b n' g hb=>
    have m:=u id (by simp[AV.ids]);have H:=y.ob id m;split at d
    .rename_i e l q;split at d
     .rename_i E;obtain⟨rfl,a0,p⟩:=E;split at d
      .rename_i x z;simp at d;obtain⟨hi,rfl⟩:=d;have x7:=H;rw[q]at H;have⟨a,c',h1,hm,h3⟩:=H;rw[hb]at h1;cases h1;rcases h3 with⟨rfl,_⟩|⟨b',k,a2,x4,hc,hU,h0,x2,h9,x8⟩
       .simp at hi
       .cases x4;have h7:l[i]?.getD (Q e)=l[i]:=by simp[aj hi]
        rw[bD,h7]at z;have s:∀j∈vs.flatMap du,j∈fp:=λj G=>h8 j (by simpa[eC,h6]using G)
        simp only[ep,aO,bne_iff_ne,ne_eq]at p
        refine⟨_,_,?_,Ef.storeVec x3 q hb hc hU h0 hm x2 h9 x8 hv S hi z p (λj G=>y.ob j (s j G))
         (λj G b' x5 x6=>(p j G).2 (y.inj j (s j G) id m b' x5 x6)),?_⟩
        .have x0:(i+1)*e.size<=g*e.size:=fM _ S;rw[jP]at x0;have:=qS (P:=P) (w:=w) (o:=i*e.size+off) x1 (by rw[<-hv.len];exact B) h0 S F;simp[Instr.storeAt,Instr.sureAddr,this]
        .intro x9 o' D;simp only[ce,cQ]at D;rcases D with⟨rfl,_⟩|D
         .exact m
         .exact s _ (dX D).1
      .simp at d
     .simp at d
    .simp at d
   .simp at d
  .simp at d
 .simp at d
theorem BL{hp:Nat->AO}{e:Sh}{c:AV}{x:L e}(h:BK hp e c=Y x):∃a,cellsOf c=Y a/\dD hp e a=Y (x,[]):=by unfold BK at h;grind
theorem Ak{hp:Nat->AO}{e:Sh}{U':Nat->Prop}(d:∀b,U' b->U b):∀(m:List AV)(a:List Value)(l:List (L e)),Aj hp e m=Y l->dn w U ρ m a->
  (∀id∈m.flatMap eC,bz w U ρ id (hp id)/\∀b,ar ρ id (hp id) b->¬U' b)->
  l.length=N a/\(∀v∈a,v.cells.size=e.size/\∀x∈v.cells.toList,x.oneCell'=Z)/\
  ∀i(D:i<N l)(y:i<N a)(j:Nat)(c:AV),(zF e l[i])[j]?=Y c->∃v,a[i].cells[j]?=Y v/\Rv w U' ρ c v
 | [],a,l,h,k,_=>by
  simp[Aj]at h;subst h;have:=k.len;grind
 |v::m,[],l,_,k,_=>by have:=k.len;simp at this
 | v :: m,u::a,l,h,k,hob=>by
  simp only[Aj]at h;split at h
  .rename_i x G F E;cases h;have⟨B,n,p⟩:=BL F;have⟨g,z⟩:=iM n (k.rv 0 v u rfl rfl)
   have⟨C,h2,h3⟩:=Ak d m a G E ⟨by have:=k.len;simpa using this,λj c v s y=>k.rv (j+1) c v s y⟩
    (λid o=>hob id (by simp_all))
   have⟨H,q2,q3⟩:=pV (w:=w) (U:=U) (U':=U') (ρ:=ρ) (hp:=hp) d e B x [] (λj=>(u.cells.toList[j]?).getD undef) p
    (λj c A=>by
     have q:j<u.cells.toList.length:=by rw[<-g.len];exact(dF.1 A).1
     exact g.rv j c _ A (by simp[aj q]))
    (λid o=>hob id (by simp only[List.flatMap_cons,dl];exact .inl (by simpa[eC,n]using o)))
   have t:u.cells.size=e.size:=by
    have:=g.len;simp at this H;omega
   refine⟨by simp[C],?_,?_⟩
   .grind
   .intro i D y j c s;cases i with
    | zero=>
     simp only[List.getElem_cons_zero]at s|-;have q:j<u.cells.size:=by rw[t];have:=(dF.1 s).1;rwa [au]at this
     grind
    | succ i=>
     grind
  .cases h
theorem AI(s:Nat):∀(h:List Value)(k:Nat)(c:List Value),(∀v∈h,v.cells.size=s)->(k+N h)*s<=N c->
  ∃r:List Value,Instr.fill (λi=>Y (i*s,s)) c.toArray ((h.zipIdx k).map λp=>(p.2,p.1))=Y r.toArray/\N r=N c/\
   (∀q,q<k*s->r[q]?=c[q]?)/\∀i(g:i<N h) j,j<s->r[(k+i)*s+j]?=h[i].cells[j]?
 |[],k,c,_,_=>⟨c,by simp[Instr.fill],rfl,λ_ _=>rfl,sw⟩
 | v::h,k,c,hsz,hle=>by
  have u:=hsz v sw;simp only[fB]at hle;have o:k*s+s<=N c:=by
   have d:(k+1)*s<=(k+(N h+1))*s:=fM _ S;rw[jP]at d;omega
  have⟨r,a,b,e,m⟩:=AI s h (k+1) (qz c (k*s) v.cells.toList) (λx l=>hsz x (by simp[l]))
   (by rw[ja,show k+1+N h=k+(N h+1) by omega];exact hle)
  refine⟨r,?_,by rw[b,ja],?_,?_⟩
  .simp only[List.zipIdx_cons,er,Instr.fill];rw[zh sg];rw[<-a];congr 1;have:=Ff c v.cells.toList 0 (k*s);rw[vC]at this;rw[<-this,<-Array.foldl_toList,Array.toList_zipIdx]
  .intro q t;rw[e q (by rw[jP];omega),mR,zh S]
  .intro i g j n;cases i with
   | zero=>
    simp only[vC,List.getElem_cons_zero];rw[e _ (by rw[jP];omega),mR,zf sg,show k*s+j-k*s=j by omega];simp
   | succ i=>
    grind
structure EnvOk (E:cy):Prop where
 sh:∀t e,E.sh t=Y e->∃i z,E.P.info? t=Y i/\i.size=e.size/\0<e.size/\i.bytes<=131072/\i.zero=Y z/\z.cells.size=i.size
theorem rV:∀(x:List (Nat×AV))(n:Nat),xw n x=Z->x=((x.map (·.2)).zipIdx n).map λp=>(p.2,p.1)
 |[],_,_=>rfl
 | (i,v)::r,n,h=>by
  simp[xw]at h;obtain⟨rfl,h⟩:=h;simp only[er,List.zipIdx_cons];congr 1;exact rV r (i+1) h
theorem Ef.allocFrz{ids:List Nat}{a:Array Value}{T:TypeId}{r:AV}(C:∀b,U b->b<w.heap.size)(m:∀j∈ids,pX (h j)=Z)
  (t:∀j∈ids,bz w U ρ j (h j)) (g:Rv (w.alloc (.cells a T)) (λb=>U b/\¬∃j∈ids,ar ρ j (h j) b) ρ r v):
  Ef n h {val:=r,wr:=io h ids} w U ρ v (w.alloc (.cells a T)) (λb=>U b/\¬∃j∈ids,ar ρ j (h j) b) ρ:=by
 generalize l:(λb=>U b/\¬∃j∈ids,ar ρ j (h j) b)=p at g|-;have e:∀b,p b->U b:=λb x=>by rw[<-l]at x;exact x.1
 have s:∀j∈ids,∀b,ar ρ j (h j) b->¬p b:=λj u b i x=>by grind
 have z:∀d,d<w.heap.size->¬p d->(w.alloc (.cells a T)).heap[d]?=w.heap[d]?:=λd q _=>bQ w _ d q
 have B:w.heap.size<=(w.alloc (.cells a T)).heap.size:=by rw[bE];omega
 have k:∀id o b,(id,o)∈io h ids->ar ρ id o b->False:=by
  intro id o b x i;obtain⟨c,rfl⟩:=dX x;rw[ar,rR (m id c)]at i;simp at i
 refine⟨lz.alloc w a T,g,?_,sw,λ_ _=>rfl,λ_ _ x=>x,λd q _=>bQ w _ d q,?_,λd _ x=>e d x,?_,?_,?_⟩
 .intro id o x;have y:=x;obtain⟨c,rfl⟩:=dX x;exact(tp (t id c) (m id c) e (s id c)).mono B z (λ_ _ x=>x) (λ_ _ x=>x) (λd i=>(k id _ d y i).elim)
 .grind
 .intro d _ x A;rw[<-l];exact⟨x,λ⟨j,u,i⟩=>A j _ (tq u) i⟩
 .simp_all
 simp_all
theorem CA{E:cy}(hE:EnvOk E){o:Nat}{q:List (Nat×AV)}{vps:List (Nat×Value)}{f:gB}{i:List Nat}
  (a:(pO E h t o q).val=Y f) (hi:q.map (·.1)=vps.map (·.1)) (hr:dn w U ρ (q.map (·.2)) (vps.map (·.2)))
  (h9:∀b,U b->b<w.heap.size) (x3:DO w U ρ h i) (h8:∀id∈q.flatMap (λp=>eC p.2),id∈i):
  ∃v w' U',(Instr.buildSlice t o vps.toArray).run E.P w=.ok v w'/\Ef n h f w U ρ v w' U' ρ/\∀id d,(id,d)∈f.wr->id∈i:=by
 unfold pO at a;split at a
 .rename_i m hu;split at a
  .split at a
   .rename_i F;simp at F;obtain⟨rfl,B⟩:=F;have C:vps=[]:=by
     have:=congrArg N hi;simp at this;exact DY S
    subst C;simp at a;subst a;have⟨sz,B⟩:=Option.isSome_iff_exists.1 B
    have A:∃x0,(Instr.buildSlice t 0 #[]).run E.P w=.ok (.slice (Y ⟨w.heap.size,0,Q2⟩) 0 0) (w.alloc (.cells x0 m)):=
     ⟨_,by simp[Instr.buildSlice,bN hu,dv B,Instr.fill,newRow];rfl⟩
    have⟨x0,A⟩:=A;exact⟨_,_,_,A,Ef.allocFrz (ids:=[]) (T:=m) h9 sw sw (.nils _),sw⟩
   .simp at a
  .rename_i a3;split at a
   .rename_i e he;split at a
    .rename_i s;simp at s;have⟨⟨⟨x6,x8⟩,a8⟩,a7⟩:=s;split at a
     .rename_i l hl;simp at a;subst a;have⟨g,z,u,x5,a9,_,hz,i1⟩:=hE.sh m e he;have B:gR E.P m=Y e.size:=by simp[gR,u,x5]
      have x4:∀id∈(q.map (·.2)).flatMap eC,id∈q.flatMap (λp=>eC p.2):=by
       intro id h7;simpa[List.flatMap_map]using h7
      have x9:∀j∈q.flatMap (λp=>eC p.2),pX (h j)=Z:=by
       intro j D;simp only[BI]at D;have⟨p,a4,D⟩:=D;exact a7 p.1 p.2 a4 j D
      generalize x1:(λb=>U b/\¬∃j∈q.flatMap (λp=>eC p.2),ar ρ j (h j) b)=U';have h4:∀b,U' b->U b:=λb a=>by rw[<-x1]at a;exact a.1
      have⟨h1,h2,h3⟩:=Ak (w:=w) (U:=U) (ρ:=ρ) (U':=U') h4 _ _ l hl hr
       (λid h7=>⟨x3.ob id (h8 id (x4 id h7)),λb ho a=>by grind⟩)
      have C:vps=((vps.map (·.2)).zipIdx 0).map λp=>(p.2,p.1):=by
       have h1:=rV q 0 x8;have H:q.map (·.1)=List.range' 0 (N q):=by
        have:=congrArg (List.map (·.1)) h1;rw[qL]at this;rw[this];have e2:((λx:Nat×AV=>x.1)∘λp:AV×Nat=>(p.2,p.1))=Prod.snd:=rfl;rw[e2,List.zipIdx_map_snd];simp
       have a0:N q=N vps:=by have:=congrArg N hi;simpa using this
       rw[hi,a0]at H;apply List.ext_getElem
       .simp
       .intro k hk i0;have:(vps.map (·.1))[k]?=(List.range' 0 (N vps))[k]?:=by rw[H]
        grind
      have y:N vps=o:=by rw[<-x6];have:=congrArg N hi;simpa using this.symm
      have⟨r,e1,e2,e3,e4⟩:=AI e.size (vps.map (·.2)) 0 (((Array.range (o*e.size)).map (z.cells[· %z.cells.size]!)).toList)
       (λv hv=>(h2 v hv).1) (by simp[y])
      rw[<-C]at e1;have x7:o*e.size≠0:=by
       have:o≠0:=λh0=>a3 h0
       exact Nat.mul_ne_zero this S
      have x2:¬(2^24<o*e.size):=by omega
      have a1:N l=o:=by rw[h1];simpa using y
      refine⟨.slice (Y ⟨w.heap.size,0,Q2⟩) o o,w.alloc (.cells r.toArray m),_,?_,Ef.allocFrz h9 x9 (λj D=>x3.ob j (h8 j D)) ?_,λid d a=>h8 id (dX a).1⟩
      .simp only[Th]at e1;simp only[Instr.buildSlice,dB,bN hu,dv B,qJ];simp only[gt_iff_lt,x2,zm,x7,Sem.run_pure,qJ,dB,zeroValue,typeInfo,run_program,u,hz,e1,newRow,run_newObj];rfl
      .rw[x1];have hk:∀b',b'<w.heap.size->¬U' b'->(w.alloc (.cells r.toArray m)).heap[b']?=w.heap[b']?:=λb' hb _=>bQ w _ b' hb
       have hs:w.heap.size<=(w.alloc (.cells r.toArray m)).heap.size:=by rw[bE];omega
       suffices h5:Rv (w.alloc (.cells r.toArray m)) U' ρ (.sl e l) (.slice (Y ⟨w.heap.size,0,Q2⟩) (N l) o) by rw[a1]at h5;exact h5
       refine .sl e l w.heap.size 0 o (λg j=>(r[g*e.size+j]?).getD undef) S (by unfold aF;grind) (by rw[bE];omega)
        (λa=>by have:=h9 _ (h4 _ a);omega) (λi' j h6 D=>?_) (λi' h6 j c hc=>?_)
       .have a2:i'*e.size+j<N r:=by
         rw[e2];have:(i'+1)*e.size<=o*e.size:=fM _ S;rw[jP]at this;simp;omega
        unfold World.cell?;rw[cT];simp[aj a2]
       .have G:i'<(vps.map (·.2)).length:=by rw[<-h1];exact h6
        have⟨v,a5,a6⟩:=h3 i' h6 G j c hc;have D:j<e.size:=by have:=(dF.1 hc).1;rwa [au]at this
        have:=e4 i' G j D;rw[eI]at this;rw[this,a5];exact a6.mono hs hk (λ_ _ a=>a) (λ_ _ a=>a)
     .simp at a
    .simp at a
   .simp at a
 .simp at a
end
section
variable {P:Program} {w:World} {U:Nat->Prop} {ρ:Nat->Option Value}
def SlR(w:World)(U:Nat->Prop)(ρ:Nat->Option Value)(e:Sh)(l:List (L e))(v:Value):Prop:=
 ∃a h,v=.slice a (N l) h/\N l<=h/\N l<=aF/\(l=[]\/∃b o,a=Y ⟨b,o,Q2⟩/\
  ∀i(d:i<N l)(j:Nat)(c:AV),(zF e l[i])[j]?=Y c->∃x,w.cell? ⟨b,o+i*e.size+j,Q2⟩=Y x/\Rv w U ρ c x)
variable {e:Sh}{v:Value}
theorem MH{l:List (L e)}(h:Rv w U ρ (.sl e l) v):SlR w U ρ e l v:=by
 cases h with
 |sl0 _ a c=>exact⟨a,c,rfl,sw,sw,.inl rfl⟩
 | sl _ _ b o c d n p t s x q=>
  refine⟨_,c,rfl,n,p,.inr ⟨b,o,rfl,λi k j m g=>⟨d i j,x i j k ?_,q i k j m g⟩⟩⟩;grind[au]
theorem Qs{id:Nat}{l:List (L e)}(h:bz w U ρ id (.vec e l))(A:ρ id=Y v):SlR w U ρ e l v:=by
 have⟨a,c,g,u,q⟩:=h;rw[A]at g;cases g;rcases q with⟨rfl,rfl⟩|⟨b,d,n,rfl,C,B,s,z,m,y⟩
 .exact⟨a,0,rfl,sw,sw,.inl rfl⟩
 .refine⟨_,c,rfl,m,u,.inr ⟨b,0,rfl,λi t j o k=>?_⟩⟩;have⟨x,g,p⟩:=y i t j o k;exact⟨x,by simp[World.cell?,s,g],p⟩
variable {h:Nat->AO}
theorem Iu{c:AV}{l:List (L e)}(x:vE h e c=Y l)(g:Rv w U ρ c v)
  (d:∀id∈c.ids,bz w U ρ id (h id)):SlR w U ρ e l v:=by
 cases c<;>simp[vE]at x
 case nils=>
  subst x;cases g;exact⟨_,0,rfl,sw,sw,.inl rfl⟩
 case sl j n=>
  obtain⟨rfl,x⟩:=x;subst x;exact MH g
 case vec id=>
  cases g with
  |vec _ _ o _=>
  have m:=d id (by simp[AV.ids]);cases a:h id with
  |dead=>simp[a]at x
  |box p=>simp[a]at x
  |fmap k=>simp[a]at x
  |vmap u k=>simp[a]at x
  |gmap e k=>simp[a]at x
  | frz j n=>
   simp[a]at x;obtain⟨rfl,x⟩:=x;subst x;rw[a]at m;have⟨q,b,i⟩:=m;rw[o]at b;cases b;exact MH i
  | vec j n=>
   grind[Qs]
def fu(size n:Nat)(vals:Nat->Nat->Value):List Value:=(List.range (n*size)).map λq=>vals (q/size) (q%size)
variable {n:Nat}{x:Nat->Nat->Value}
theorem Bp{h:Nat}{m p:Nat}(e:m<h)(b:p<n):(fu n h x)[m*n+p]?=Y (x m p):=by
 have a:m*n+p<h*n:=by
  have:=fM n (Im e);rw[jP]at this;omega
 have c:(m*n+p)/n=m:=by
  rw[kY,Nat.add_mul_div_right _ _ S,Nat.div_eq_of_lt b];omega
 have d:(m*n+p)%n=p:=by
  rw[kY,Nat.add_mul_mod_self_right,Nat.mod_eq_of_lt b]
 simp[fu,BG a,c,d]
theorem g8{size:Nat}{vals:Nat->Nat->Value}:(fu size n vals).length=n*size:=by simp[fu]
theorem SlR.cells{l:List (L e)}(h:SlR w U ρ e l v)(d:0<e.size):∃(a:Option Addr)(cap:Nat)(vals:Nat->Nat->Value),v=.slice a (N l) cap/\N l<=cap/\
  (∀i(p:i<N l)(j:Nat)(c:AV),(zF e l[i])[j]?=Y c->Rv w U ρ c (vals i j))/\(∀x∈fu e.size (N l) vals,x.oneCell'=Z)/\
  (a=Q2->l=[])/\∀u,a=Y u->∀(q:Nat) x,(fu e.size (N l) vals)[q]?=Y x->w.cell? (u.add q)=Y x:=by
 obtain⟨a,cap,rfl,m,G,h⟩:=h;rcases h with rfl|⟨b,o,rfl,F⟩
 .simp_all[fu]
 .have n:∀i j,i<N l->j<e.size->∃x,w.cell? ⟨b,o+i*e.size+j,Q2⟩=Y x/\x.oneCell'=Z/\∀(p:i<N l) c,(zF e l[i])[j]?=Y c->Rv w U ρ c x:=by
   intro i j p E;have g:(zF e l[i])[j]?=Y ((zF e l[i])[j]'(by rw[au];exact E)):=aj _;have⟨x,y,s⟩:=F i p j _ g;exact⟨x,y,gJ e l[i] j _ x g s,λp c m=>by rw[g]at m;cases m;exact s⟩
  let vals:Nat->Nat->Value:=λi j=>(w.cell? ⟨b,o+i*e.size+j,Q2⟩).getD undef
  refine⟨_,cap,vals,rfl,m,λi p j c m=>?_,λx D=>?_,(λh=>by cases h),λu z q x t=>?_⟩
  .grind
  .simp only[fu,bt,ry]at D;obtain⟨q,t,rfl⟩:=D;have⟨x,y,s,_⟩:=n (q/e.size) (q%e.size) ((Nat.div_lt_iff_lt_mul d).2 t) (Nat.mod_lt _ d);grind
  .cases z;simp only[fu,dN,dV]at t;obtain⟨k,B,rfl⟩:=t;have⟨A,C⟩:=Bl B;subst C;have⟨x,y,s,_⟩:=n (k/e.size) (k%e.size) ((Nat.div_lt_iff_lt_mul d).2 A) (Nat.mod_lt _ d);rw[Addr.add_none];have:o+k=o+k/e.size*e.size+k%e.size:=by have:=Nat.div_add_mod k e.size;rw[Nat.mul_comm]at this;omega
   grind
theorem Ef.newVec{wr:List (Nat×AO)}(k:∀id o,(id,o)∈wr->o=.dead){l:List (L e)}{y:World}{g:Nat->Prop}(t:ρ n=Q2)(d:v.oneCell'=Z)(c:lz w y)
  (a:∀b,b<w.heap.size->(∀id o,(id,o)∈wr->¬ar ρ id (h id) b)->y.heap[b]?=w.heap[b]?) (j:∀b,g b->b<y.heap.size) (m:∀b,b<w.heap.size->(g b↔U b))
  (q:bz y g (kz ρ n v) n (.vec e l)) (s:∀b,cf v=Y b->w.heap.size<=b\/∃id o,(id,o)∈wr/\ar ρ id (h id) b):
  Ef n h {val:=.vec n,wr:=wr,nw:=[.vec e l]} w U ρ v y g (kz ρ n v):=by
 have p:∀id o,(n<=id/\([AO.vec e l]:List AO)[id-n]?=Y o)->id=n:=by
  rintro id o ⟨h1,h2⟩;have:=(dF.1 h2).1;simp at this;omega
 refine⟨c,.vec n v (by simp[kz]) d,?_,?_,?_,fK t,a,j,λb i x=>(m b i).1 x,λb i x _=>(m b i).2 x,?_,?_⟩
 .intro id o x;rw[k id o x];trivial
 .grind
 .intro id x;unfold kz;rw[zh (by simp at x;omega)]
 .grind[ar,AO.owns,kz]
 grind[ar,AO.owns]
variable {f g:Nat->Nat->Value}
theorem Xm{x m:Nat}{p B:Nat}(b:B<n)(c:p<x+m):
  (fu n x f++fu n m g)[p*n+B]?=Y (ite (p<x) (f p B) (g (p-x) B)):=by
 by_cases h:p<x
 .grind[List.getElem?_append_left,Bp]
 .rw[zh h];have a:x*n<=p*n:=fM _ S;rw[pE (by rw[g8];omega),g8];rw[show p*n+B-x*n=(p-x)*n+B by rw[Nat.sub_mul];omega];exact Bp S b
variable {t:TypeId}
theorem Src.ofSlR{l:List (L e)}{a:Option Addr}{cap:Nat}{k:TypeId}(i:P.underlying t=Y (.slice k))
  (c:∀h∈fu e.size (N l) x,h.oneCell'=Z) (g:a=Q2->l=[]) (d:∀b,a=Y b->∀(q:Nat) h,(fu e.size (N l) x)[q]?=Y h->w.cell? (b.add q)=Y h):
  Src P e.size t (.slice a (N l) cap) (N l) (fu e.size (N l) x) w:=by
 cases a with
 | none=>
  grind[fu,Src.ofNil]
 |some b=>grind[Src.ofSlice,g8]
theorem Hx(z:Array Value)(n:Nat):(Builtin.zeroCells z n).size=n*z.size:=by simp[Builtin.zeroCells]
theorem Ju{l0 l':List (L e)}{elem:TypeId}{z:Value}{newCap:Nat}(y:ρ n=Q2)
  (q:z.cells.size=e.size) (x:N l0+N l'<=newCap) (k:0<newCap) (t:N l0+N l'<=1073741824)
  (C:∀i(m:i<N l0)(j:Nat)(c:AV),(zF e l0[i])[j]?=Y c->Rv w U ρ c (f i j)) (u:∀i(m:i<N l')(j:Nat)(c:AV),(zF e l'[i])[j]?=Y c->Rv w U ρ c (g i j)):
  bz (w.drew.alloc (.cells ((fu e.size (N l0) f++fu e.size (N l') g).toArray++Builtin.zeroCells z.cells (newCap-(N l0+N l'))) elem))
   (λb=>U b\/b=w.heap.size) (kz ρ n (.slice (Y ⟨w.heap.size,0,Q2⟩) (N l0+N l') newCap)) n (.vec e (l0++l')):=by
 generalize d:Obj.cells ((fu e.size (N l0) f++fu e.size (N l') g).toArray++Builtin.zeroCells z.cells (newCap-(N l0+N l'))) elem=o;have v:∀b,b<w.heap.size->¬U b->(w.drew.alloc o).heap[b]?=w.heap[b]?:=λb s _=>bQ w.drew _ b s
 have B:∀b,b<w.heap.size->(U b\/b=w.heap.size)->U b:=λb s h=>h.elim id (λe=>by omega)
 have A:w.heap.size<=(w.drew.alloc o).heap.size:=by rw[bE];exact Nat.le_succ _
 have a:(w.drew.alloc o).heap[w.heap.size]?=Y o:=cT w.drew o;refine⟨_,newCap,by simp[kz],by simp;unfold aF;omega,.inr ⟨w.heap.size,elem,_,rfl,k,.inr rfl,by rw[a,<-d],?_,by simpa using x,?_⟩⟩
 .simp only[Array.size_append,List.size_toArray,jK,g8,Hx,q];rw[<-rt,<-rt];congr 1;omega
 .intro i m j c l;simp only[jK]at m;have D:j<e.size:=by have:=(dF.1 l).1;rwa [au]at this
  refine⟨if i<N l0 then f i j else g (i-N l0) j,?_,?_⟩
  .grind[Array.getElem?_append_left,Xm]
  .by_cases p:i<N l0
   .grind[Rv.mono,fK]
   .rw[zh p];rw[List.getElem_append_right S]at l;exact(u _ _ j c l).mono A v B (fK y)
theorem lz.drew(w:World):lz w w.drew:=⟨zR _,rfl,rfl,rfl,λ_ _=>rfl⟩
theorem BW{E:cy}(hE:EnvOk E){p t' i9 ty:TypeId}{c C:AV}{vb vx:Value}{f:gB}{fp:List Nat}
  (d:(oQ E h n p c C).val=Y f) (hu:E.P.underlying t=Y (.slice p)) (i1:E.P.underlying t'=Y (.slice i9))
  (G:Rv w U ρ c vb) (hx:Rv w U ρ C vx) (a4:∀b,U b->b<w.heap.size) (a8:DO w U ρ h fp) (i6:∀id∈c.ids,id∈fp) (a5:∀id∈C.ids,id∈fp) (hn:ρ n=Q2):
  ∃v w' U' ρ',(Builtin.append_ #[t,t'] ty #[vb,vx]).run E.P w=.ok v w'/\Ef n h f w U ρ v w' U' ρ'/\∀id o,(id,o)∈f.wr->id∈fp:=by
 have x8:∀(a:Option Addr)(i:TypeInfo),E.P.info? p=Y i->∀x,(Builtin.lenOf x).run E.P w=.ok 0 w->(Builtin.firstCells i.size 0 x).run E.P w=.ok #[] w->
   (Builtin.append_ #[t,t'] ty #[.slice a 0 0,x]).run E.P w=.ok (.slice a 0 0) w:=by
  intro a i hi x hl hf;cases a<;>simp[Builtin.append_,bN hu,bN i1,Go.sizeOf,typeInfo,hi,hl,hf,storeCells]
 unfold oQ at d;split at d
 ·
  rename_i e he;have⟨i,z,A,s,h9,h4,hz,i3⟩:=hE.sh p e he;split at d
  .rename_i l hl;simp at d;obtain⟨x5,rfl⟩:=d;cases G with
   |nils a=>
   obtain⟨a',H,g,rfl,j4,hg,x7,h8,h7⟩:=(Iu hl hx (λid x0=>a8.ob id (a5 id x0))).cells h9;have u:=Src.ofSlR (P:=E.P) (w:=w) (e:=e) (cap:=H) i1 x7 h8 h7;rw[<-s]at u;by_cases h0:l=[]
   .subst h0;refine⟨.slice a 0 0,w,U,_,x8 a i A _ (u.len w) (by simpa[fu]using u.cells),Ef.newVec sw hn rfl (lz.refl w) (λ_ _ _=>rfl) a4 (λ_ _=>Iff.rfl) ?_ ?_,sw⟩
    .exact⟨a,0,by simp[kz],sw,.inl ⟨rfl,rfl⟩⟩
    .intro b G;cases a<;>simp[cf]at G
   .have j5:0<N l:=List.length_pos_iff.2 h0;have x6:(Builtin.firstCells i.size 0 (.slice a 0 0)).run E.P w.drew=.ok ([]:List Value).toArray w.drew:=by
     cases a<;>simp[Builtin.firstCells,loadCells,loadCellsFrom]
    have B:=run_append_grow_src (P:=E.P) w t t' ty p i z hu A hz a 0 0 [] x6 (.slice a' (N l) H) (N l) _ u S S
     (growslice_fits S (by have:(0+N l)*i.bytes<=1073741824*131072:=Is S h4;omega))
    have a2:=grownCap_ge w (0+N l) 0 p
    have h6:=Ju (w:=w) (U:=U) (ρ:=ρ) (n:=n) (e:=e) (l0:=[]) (l':=l) (elem:=p) (z:=z) (newCap:=grownCap w (0+N l) 0 p) (f:=λ_ _=>undef) (g:=g) hn
     (by rw[i3,s]) (by simpa using a2) S (by simpa using x5) sw hg
    have e0:fu e.size ([]:List (L e)).length (λ_ _=>undef)=[]:=by simp[fu]
    rw[e0]at h6;simp only[qK]at h6;rw[s]at B;refine⟨_,_,_,_,B,Ef.newVec sw hn rfl ((lz.drew w).trans (lz.alloc w.drew _ _)) (λb G _=>bQ w.drew _ b G) ?_ ?_ h6 ?_,sw⟩
    .intro b G;rw[bE];rcases G with G|G
     .have:=a4 b G;exact Nat.lt_succ_of_lt this
     .rw[G];exact Nat.lt_succ_self _
    .grind
    grind[cf]
  .simp at d
 ·
  rename_i e id he;have⟨i,z,A,s,h9,h4,hz,i3⟩:=hE.sh p e he;split at d
  .rename_i F D x0;split at d
   .rename_i j1;subst j1;split at d
    .rename_i l' hl;simp at d;obtain⟨x5,rfl⟩:=d;have x4:=i6 id (by simp[AV.ids]);cases G with
     |vec _ _ hv k6=>
     have i0:=a8.ob id x4;rw[x0]at i0;obtain⟨a',H,g,rfl,j4,hg,x7,h8,h7⟩:=(Iu hl hx (λid x0=>a8.ob id (a5 id x0))).cells h9;have u:=Src.ofSlR (P:=E.P) (w:=w) (e:=F) (cap:=H) i1 x7 h8 h7;obtain⟨a0,y,f0,rfl,j9,j2,j6,a3,x9⟩:=(Qs i0 hv).cells h9;have i2:∀x1 o,(x1,o)∈[(id,AO.dead)]->o=.dead:=by intro x1 o d;simp at d;exact d.2
     have x3:∀x1 o,(x1,o)∈[(id,AO.dead)]->x1∈fp:=by intro x1 o d;simp at d;rw[d.1];exact x4
     by_cases h5:N D+N l'<=y
     ·
      have⟨a1,c1,a6,k3,h3⟩:=i0;rw[hv]at a6;cases a6;rcases h3 with⟨rfl,rfl⟩|⟨b,m,i8,rfl,hc,i4,a7,j8,k1,j7⟩
      .have j3:l'=[]:=by simpa using h5
       subst j3;rw[<-s]at u;refine⟨.slice a0 0 0,w,U,_,x8 a0 i A _ (u.len w) (by simpa[fu]using u.cells),Ef.newVec i2 hn rfl (lz.refl w) (λ_ _ _=>rfl) a4 (λ_ _=>Iff.rfl) ?_ ?_,x3⟩
       .exact⟨a0,0,by simp[kz],sw,.inl ⟨sw,rfl⟩⟩
       .intro b G;cases a0<;>simp[cf]at G
      .have k4:=g8 (size:=F.size) (n:=N l') (vals:=g);have i7:(N D+N l')*F.size<=y*F.size:=fM _ h5;rw[rt]at i7
       have B:=run_append_room_src (P:=E.P) w t t' ty p i hu A b 0 (N D) y (.slice a' (N l') H) (N l') _ (by rw[s];exact u) h5
        (λj hj=>by
         have:0+N D*i.size+j<i8.size:=by rw[s];omega
         simp only[World.cell?,a7,Option.isSome_none,zA,zm,uD this,dz])
        (λj hj=>by simp[World.frozen?,a7])
       rw[s,eI]at B;have k2:ar ρ id (h id) b:=⟨by rw[x0];rfl,_,hv,by simp[cf];omega⟩;have hk:∀b',b'<w.heap.size->¬U b'->(w.setCells b (N D*F.size) (fu F.size (N l') g)).heap[b']?=w.heap[b']?:=λb' _ j0=>cO _ _ _ _ _ (λe=>j0 (e▸i4))
       have hs:w.heap.size<=(w.setCells b (N D*F.size) (fu F.size (N l') g)).heap.size:=by rw[ky];exact zR _
       refine⟨_,_,U,_,B,Ef.newVec i2 hn rfl (lz.setCells _ w b _) ?_ ?_ (λ_ _=>Iff.rfl) ?_ ?_,x3⟩
       .grind[cO]
       .grind
       .refine⟨Y ⟨b,0,Q2⟩,y,by simp[kz],by simp;unfold aF;omega,.inr ⟨b,m,_,rfl,hc,i4,kq _ w b _ a7,by simp[ja,j8],by simpa using h5,?_⟩⟩;intro i' i5 j k x2;simp only[jK]at i5;have hj:j<F.size:=by have:=(dF.1 x2).1;rwa [au]at this
        have hq:i'*F.size+j<(N D+N l')*F.size:=by
         have:=fM F.size (Im i5);rw[jP]at this;omega
        rw[rt]at hq;simp only[Tg];rw[mR];by_cases a9:i'<N D
        .have k5:i'*F.size+j<N D*F.size:=by
          have:=fM F.size (Im a9);rw[jP]at this;omega
         rw[zh S];rw[List.getElem_append_left a9]at x2;have⟨x,h1,h2⟩:=j7 i' a9 j k x2;exact⟨x,by simpa using h1,h2.mono hs hk (λ_ _ d=>d) (fK hn)⟩
        .have a2:N D*F.size<=i'*F.size:=fM _ S;rw[zf (by grind)];rw[List.getElem_append_right S]at x2;refine⟨g (i'-N D) j,?_,(hg _ _ j k x2).mono hs hk (λ_ _ d=>d) (fK hn)⟩;rw[show i'*F.size+j-N D*F.size=(i'-N D)*F.size+j by rw[Nat.sub_mul];omega];exact Bp S hj
       grind[cf]
     ·
      have x6:(Builtin.firstCells i.size (N D) (.slice a0 (N D) y)).run E.P w.drew=.ok (fu F.size (N D) f0).toArray w.drew:=by
       cases a0 with
       | none=>
        have:=a3 rfl;subst this;simp[Builtin.firstCells,fu]
       | some ad=>
        exact run_firstCells_some w.drew i.size (N D) ad (N D) y _ (by rw[g8,s]) (λq x hq=>by simpa using x9 ad rfl q x hq)
      have B:=run_append_grow_src (P:=E.P) w t t' ty p i z hu A hz a0 (N D) y _ x6 (.slice a' (N l') H) (N l') _ (by rw[s];exact u) S S
       (growslice_fits S (by have:(N D+N l')*i.bytes<=1073741824*131072:=Is S h4;omega))
      have a2:=grownCap_ge w (N D+N l') y p
      have h6:=Ju (w:=w) (U:=U) (ρ:=ρ) (n:=n) (e:=F) (l0:=D) (l':=l') (elem:=p) (z:=z) (newCap:=grownCap w (N D+N l') y p) (f:=f0) (g:=g) hn
       (by rw[i3,s]) a2 S x5 j2 hg
      refine⟨_,_,_,_,B,Ef.newVec i2 hn rfl ((lz.drew w).trans (lz.alloc w.drew _ _)) (λb G _=>bQ w.drew _ b G) ?_ ?_ h6 ?_,x3⟩
      .intro b G;rw[bE];rcases G with G|G
       .have:=a4 b G;exact Nat.lt_succ_of_lt this
       .rw[G];exact Nat.lt_succ_self _
      .grind
      grind[cf]
    .simp at d
   .simp at d
  .simp at d
 .simp at d
end
end Cad
