/- What each operation says. -/
import Derived.Test.YtjdjldbhjmgmkaaGreatDoorS02
namespace Cad
open Go
open List renaming length→Io
open Bool renaming true→Q3
open Option renaming none→Q2,some→Q1
open Tr (chk br)
open AV (nils agg tup ptr kb str sl)
section
variable {P:Program} {w:World} {U:Nat->Prop} {ρ:Nat->Option Value}
variable {u:Int}
theorem lP{k:IntKind}{y:Nat}(c:BoundsCode)(h:0<=u)(x:u<=y):(Instr.sliceBound (.int k u) y c).run P w=.ok u.toNat w:=by simp[Instr.sliceBound,asIntOf,h,x]
theorem NB(s:zH)(l h:Nat):(⟨s.toArray⟩:ByteArray).extract l h=⟨((s.drop l).take (h-l)).toArray⟩:=by apply ByteArray.ext;simp[List.extract_eq_take_drop]
variable {v:Value}
theorem B5{c:AV}(h:pW c=Q1 u)(x:Rv w U ρ c v):∃i,v=.int i u:=by
 unfold pW at h;split at h
 .cases h;cases x;exact⟨_,rfl⟩
 .cases h
variable {q s:Option AV}
theorem F9{isS:Bool}{len cap:Nat}{d j:Option Value}{h:Int}
  (e:(match q with|none=>Q1 0|some a=>pW a)=Q1 u) (k:(match s with|none=>Q1 (len:Int)|some a=>pW a)=Q1 h)
  (g:∀a v,q=Q1 a->d=Q1 v->Rv w U ρ a v) (l:∀a v,s=Q1 a->j=Q1 v->Rv w U ρ a v)
  (x:q.isSome=d.isSome) (i:s.isSome=j.isSome) (m:0<=u) (p:u<=h) (z:h<=len) (A:len<=cap):
  (Instr.sliceBounds isS len cap d j Q2).run P w=.ok (u.toNat,h.toNat,cap) w:=by
 cases s with
 | none=>
  cases j with
  |some v=>simp at i
  |none=>
  simp at k;subst k;cases q with
  | none=>
   cases d with
   |some v=>simp at x
   |none=>simp at e;subst e;simp[Instr.sliceBounds]
  | some a=>
   cases d with
   |none=>simp at x
   | some v=>
    obtain⟨o,rfl⟩:=B5 e (g _ _ rfl rfl);simp[Instr.sliceBounds,lP _ m p]
 | some b=>
  cases j with
  |none=>simp at i
  |some B=>
  obtain⟨o,rfl⟩:=B5 k (l _ _ rfl rfl);have n:∀c,(Instr.sliceBound (.int o h) cap c).run P w=.ok h.toNat w:=λc=>lP c ow ow
  cases q with
  | none=>
   cases d with
   |some v=>simp at x
   |none=>simp at e;subst e;simp[Instr.sliceBounds,n]
  | some a=>
   cases d with
   |none=>simp at x
   | some v=>
    obtain⟨t,rfl⟩:=B5 e (g _ _ rfl rfl);simp[Instr.sliceBounds,n,lP (y:=h.toNat) _ m ow]
variable {t:TypeId}
theorem tI{c:AV}{mx:Option AV}{vlo vhi vmx:Option Value}{f:fM}(h:(uV P t c q s mx).val=Q1 f)
  (M:Rv w U ρ c v) (X:∀a g,q=Q1 a->vlo=Q1 g->Rv w U ρ a g) (B:∀a g,s=Q1 a->vhi=Q1 g->Rv w U ρ a g)
  (Y:∀a g,mx=Q1 a->vmx=Q1 g->Rv w U ρ a g) (D:q.isSome=vlo.isSome) (C:s.isSome=vhi.isSome) (E:mx.isSome=vmx.isSome):
  ∃r x,f={val:=r}/\(Instr.sliceAt t v vlo vhi vmx).run P w=.ok x w/\Rv w U ρ r x:=by
 have z:∀(a:Option Addr)(W N:Nat)(n:TypeId)(k k':IntKind),P.underlying t=Q1 (.slice n)->(gh P n).isSome->
   (Instr.sliceAt t (.slice a W N) Q2 (Q1 (.int k 0)) (Q1 (.int k' 0))).run P w=.ok (.slice a 0 0) w:=by
  intro a W N n k k' A J;obtain⟨sz,J⟩:=Option.isSome_iff_exists.1 J;simp[Instr.sliceAt,Instr.slice,bA A,Instr.sliceBounds,Instr.sliceBound,asIntOf,cX J]
 unfold uV at h;split at h
 .rename_i m A;cases vmx with
  |some g=>simp at E
  |none=>
  split at h
  .rename_i l p I H;simp at h;obtain⟨⟨⟨h0,G⟩,F⟩,rfl⟩:=h;cases M with
   |str _ J=>
   have O:=F9 (P:=P) (w:=w) (U:=U) (ρ:=ρ) (isS:=false) (len:=Io m) (cap:=Io m) I H X B D C h0 G F (ah _);refine⟨_,.string ⟨((m.drop l.toNat).take (p.toNat-l.toNat)).toArray⟩,rfl,?_,.str _ sg⟩;simp[Instr.sliceAt,Instr.slice,bA A,EP,O,NB]
  .simp at h
 .rename_i n e m A;cases vmx with
  |some g=>simp at E
  |none=>
  split at h
  .rename_i y;split at h
   .rename_i l p I H;simp at h;obtain⟨⟨⟨h0,G⟩,F⟩,rfl⟩:=h
    have T:∀(a:Option Addr)(d:Nat),Io m<=d->(Instr.sliceAt t (.slice a (Io m) d) vlo vhi Q2).run P w=
      .ok (.slice (ite (d=l.toNat) a (a.map (·.add (l.toNat*e.size)))) (p.toNat-l.toNat) (d-l.toNat)) w:=by
     intro a d L;have O:=F9 (P:=P) (w:=w) (U:=U) (ρ:=ρ) (isS:=Q3) (len:=Io m) (cap:=d) I H X B D C h0 G F L;simp[Instr.sliceAt,Instr.slice,bA A,O,cX y]
    have u:((m.drop l.toNat).take (p.toNat-l.toNat)).length=p.toNat-l.toNat:=by simp;omega
    by_cases h4:l.toNat<p.toNat
    .cases M with
     |sl0 _ a d=>simp at F;omega
     |sl _ _ b o d Z L hm O hU h3 hr=>
     refine⟨_,_,rfl,T _ _ L,?_⟩;rw[zg ow];simp only[B3,Addr.add_none]
     suffices J:Rv w U ρ (.sl e ((m.drop l.toNat).take (p.toNat-l.toNat))) (.slice (Q1 ⟨b,o+l.toNat*e.size,Q2⟩) ((m.drop l.toNat).take (p.toNat-l.toNat)).length (d-l.toNat)) by
      rw[u]at J;exact J
     refine .sl e _ b (o+l.toNat*e.size) (d-l.toNat) (λi j=>Z (l.toNat+i) j) (by rw[u];omega) (by rw[u];omega) O hU (λi j s hj=>?_) (λi s j c' M=>?_)
     .grind
     grind
    .have S:(m.drop l.toNat).take (p.toNat-l.toNat)=[]:=by
      rw[show p.toNat-l.toNat=0 by omega];simp
     rw[S];obtain⟨a,d,rfl,hm,L⟩:=J2 M;refine⟨_,_,rfl,T a d L,?_⟩;rw[show p.toNat-l.toNat=0 by omega];exact .sl0 e _ _
   .simp at h
  .simp at h
 .rename_i n e m k A;split at h
  .rename_i k';split at h
   .rename_i y;simp at h;subst h;cases vlo with
    |some g=>simp at D
    |none=>
    cases vhi with
    |none=>simp at C
    |some vh=>
    cases vmx with
    |none=>simp at E
    |some vm=>
    have G:=B _ _ rfl rfl;have F:=Y _ _ rfl rfl;cases G;cases F;obtain⟨a,d,rfl,hm,L⟩:=J2 M;exact⟨_,_,rfl,z _ _ _ n _ _ A y,.nils _⟩
   .simp at h
  .simp at h
 .rename_i n k A;split at h
  .rename_i k';split at h
   .rename_i y;simp at h;subst h;cases vlo with
    |some g=>simp at D
    |none=>
    cases vhi with
    |none=>simp at C
    |some vh=>
    cases vmx with
    |none=>simp at E
    |some vm=>
    have G:=B _ _ rfl rfl;have F:=Y _ _ rfl rfl;cases G;cases F;cases M;exact⟨_,_,rfl,z _ _ _ n _ _ A y,.nils _⟩
   .simp at h
  .simp at h
 .simp at h
structure kF (w w':World):Prop where
 sz:w.heap.size<=w'.heap.size
 os:w'.os=w.os
 out:w'.output=w.output
 tape:w'.tape=w.tape
 fr:∀a:Addr,a.block<w.heap.size->w'.frozen? a=w.frozen? a
theorem kF.refl(w:World):kF w w:=⟨ah _,rfl,rfl,rfl,λ_ _=>rfl⟩
theorem kF.trans{a b c:World}(h:kF a b)(d:kF b c):kF a c:=
 ⟨aT h.sz d.sz,d.os.trans h.os,d.out.trans h.out,d.tape.trans h.tape,λx e=>(d.fr x (gF e h.sz)).trans (h.fr x e)⟩
structure Ef (n:Nat) (hp:Nat->AO) (f:fM) (w:World) (U:Nat->Prop) (ρ:Nat->Option Value) (v:Value) (w':World) (U':Nat->Prop) (ρ':Nat->Option Value):Prop where
 ext:kF w w'
 val:Rv w' U' ρ' f.val v
 wr:∀id o,(id,o)∈f.wr->bl w' U' ρ' id o
 nw:∀(j:Nat) o,f.nw[j]?=Q1 o->bl w' U' ρ' (n+j) o
 rho:∀id,(id<n\/n+f.nw.length<=id)->ρ' id=ρ id
 rhon:∀id v,ρ id=Q1 v->ρ' id=Q1 v
 same:∀b,b<w.heap.size->(∀id o,(id,o)∈f.wr->¬af ρ id (hp id) b)->w'.heap[b]?=w.heap[b]?
 ub:∀b,U' b->b<w'.heap.size
 u1:∀b,b<w.heap.size->U' b->U b
 u2:∀b,b<w.heap.size->U b->(∀id o,(id,o)∈f.wr->¬af ρ id (hp id) b)->U' b
 own:∀id o b,((id,o)∈f.wr\/(n<=id/\f.nw[id-n]?=Q1 o))->af ρ' id o b->w.heap.size<=b\/∃id' o',(id',o')∈f.wr/\af ρ id' (hp id') b
 inj:∀id1 o1 id2 o2 b,((id1,o1)∈f.wr\/(n<=id1/\f.nw[id1-n]?=Q1 o1))->((id2,o2)∈f.wr\/(n<=id2/\f.nw[id2-n]?=Q1 o2))->
  af ρ' id1 o1 b->af ρ' id2 o2 b->id1=id2
variable {n:Nat}{h:Nat->AO}
theorem Ef.pure{r:AV}(a:∀b,U b->b<w.heap.size)(x:Rv w U ρ r v):Ef n h {val:=r} w U ρ v w U ρ where
 ext:=kF.refl w
 val:=x
 wr:=by simp
 nw:=by simp
 rho:=λ_ _=>rfl
 rhon:=λ_ _ x=>x
 same:=λ_ _ _=>rfl
 ub:=a
 u1:=λ_ _ x=>x
 u2:=λ_ _ x _=>x
 own:=by simp
 inj:=by simp
theorem bE(w:World)(o:Obj)(b:Nat)(h:b<w.heap.size):(w.alloc o).heap[b]?=w.heap[b]?:=by show(w.heap.push o)[b]?=w.heap[b]?;grind
theorem cC(w:World)(o:Obj):(w.alloc o).heap[w.heap.size]?=Q1 o:=by show(w.heap.push o)[w.heap.size]?=Q1 o;rw[Array.getElem?_push,ze rfl]
theorem bt(w:World)(o:Obj):(w.alloc o).heap.size=w.heap.size+1:=by simp_all
theorem kF.alloc(w:World)(c:Array Value)(t:TypeId):kF w (w.alloc (.cells c t)) where
 sz:=by rw[bt];omega
 os:=rfl
 out:=rfl
 tape:=rfl
 fr:=λa h=>yI (bE w _ _ h)
def jJ(ρ:Nat->Option Value)(n:Nat)(v:Value):Nat->Option Value:=λid=>if id=n then Q1 v else ρ id
theorem fg(a:ρ n=Q2):∀id x,ρ id=Q1 x->jJ ρ n v id=Q1 x:=by intro id x h;unfold jJ;grind
theorem Ef.box{cs:List AV}{a:Array Value}(y:∀b,U b->b<w.heap.size)(k:ρ n=Q2)
  (s:dg w U ρ cs a.toList) (i:∀v∈a.toList,v.oneCell'=Q3):
  Ef n h {val:=.ptr n 0,nw:=[.box cs]} w U ρ (.pointer (Q1 ⟨w.heap.size,0,Q2⟩)) (w.alloc (.cells a t)) (λb=>U b\/b=w.heap.size) (jJ ρ n (.pointer (Q1 ⟨w.heap.size,0,Q2⟩))):=by
 have q:∀b,b<w.heap.size->¬U b->(w.alloc (.cells a t)).heap[b]?=w.heap[b]?:=λb c _=>bE w _ b c
 have l:∀b,b<w.heap.size->(U b\/b=w.heap.size)->U b:=λb c x=>x.elim id (λe=>by omega)
 have u:w.heap.size<=(w.alloc (.cells a t)).heap.size:=by rw[bt];omega
 refine⟨kF.alloc w a t,.ptr n 0 _ (by simp[jJ]),sw,?_,?_,fg k,λb c _=>bE w _ b c,?_,λb c x=>l b c x,λb _ x _=>.inl x,?_,?_⟩
 .intro j o g;cases j with
  |succ j=>simp at g
  | zero=>
   simp at g;subst g;exact⟨w.heap.size,t,a,by simp[jJ],.inr rfl,cC w _,s.mono u q l (fg k),i⟩
 .intro id x;unfold jJ;rw[zg (by simp at x;omega)]
 .intro b x;rw[bt];grind
 .rintro id o b (x|⟨i,h2⟩) ho
  .simp at x
  .have:id-n=0:=by
    by_cases p:id-n=0
    .exact p
    .simp_all
   have d:id=n:=by omega
   subst d;obtain⟨_,v,m,c⟩:=ho;simp[jJ]at m;subst m;simp[bJ]at c;exact .inl ow
 grind
end
section
variable {P:Program} {w:World} {U:Nat->Prop} {ρ:Nat->Option Value}
variable {a:Array Value}{t:TypeId}
theorem IJ(w:World)(b o:Nat)(v:Value){x:Nat×Nat}(h:w.heap[b]?=Q1 (.cells a t x)):
  (w.setCell ⟨b,o,Q2⟩ v).heap[b]?=Q1 (.cells (a.setIfInBounds o v) t x):=by simp[World.setCell,pP,h]
theorem tP(w:World)(b o x:Nat)(v:Value)(h:x≠b):(w.setCell ⟨b,o,Q2⟩ v).heap[x]?=w.heap[x]?:=by simp only[World.setCell,pP];rw[zg (λe=>h e.symm)]
theorem jF:∀(c:List Value)(w:World)(b o:Nat){a:Array Value}{T:TypeId}{x:Nat×Nat},w.heap[b]?=Q1 (.cells a T x)->
  (w.setCells b o c).heap[b]?=Q1 (.cells (pe a.toList o c).toArray T x)
 |[],_,_,_,_,_,_,h=>by simpa[World.setCells,pe]using h
 | v::r,w,b,o,a,T,x,h=>by
  rw[World.setCells];have:=jF r _ b (o+1) (IJ w b o v h);rw[this];simp[pe]
theorem cw:∀(a:List Value)(w:World)(b o x:Nat),x≠b->(w.setCells b o a).heap[x]?=w.heap[x]?
 |[],_,_,_,_,_=>rfl
 | v::r,w,b,o,x,h=>by
  rw[World.setCells,cw r _ b (o+1) x h,tP w b o x v h]
theorem wl(w:World)(a:Addr)(v:Value):(w.setCell a v).heap.size=w.heap.size:=by simp[World.setCell]
theorem kF.setCells:∀(x:List Value)(w:World)(b o:Nat),kF w (w.setCells b o x)
 |[],w,_,_=>kF.refl w
 | v::r,w,b,o=>by
  have h:kF w (w.setCell ⟨b,o,Q2⟩ v):=⟨by rw[wl];exact ah _,rfl,rfl,rfl,λa _=>by rw[World.frozen?_setCell]⟩;rw[World.setCells];exact h.trans (kF.setCells r _ b (o+1))
theorem jI:∀(h:List Value)(w:World)(b o:Nat),(w.setCells b o h).heap.size=w.heap.size
 |[],_,_,_=>rfl
 |v::r,w,b,o=>by rw[World.setCells,jI r,wl]
theorem lR:∀(l h:List Value)(o q:Nat),(pe h o l)[q]?=if o<=q/\q<o+Io l/\q<Io h then l[q-o]? else h[q]?
 | [],h,o,q=>by
  rw[zg sg];rfl
 | v::l,h,o,q=>by
  rw[pe,lR l _ (o+1) q];grind
variable {n:Nat}
theorem py{v:Value}{o sz:Nat}{T:TypeId}(b:gh P t=Q1 sz)(l:v.cells.toList.length=sz)
  (c:w.heap[n]?=Q1 (.cells a T (0,0))) (i:o+sz<=a.size) (d:∀x∈v.cells.toList,x.oneCell'=Q3):
  (storeVar t ⟨n,o,Q2⟩ v).run P w=.ok () (w.setCells n o v.cells.toList):=by
 have e:∀j,j<v.cells.toList.length->(w.cell? ⟨n,o+0+j,Q2⟩).isSome=Q3:=by
  intro j k;have:o+j<a.size:=by omega
  simp[World.cell?,c,pD this]
 have g:∀j,j<v.cells.toList.length->w.frozen? ⟨n,o+0+j,Q2⟩=false:=by
  intro j k;simp[World.frozen?,c]
 have:=run_storeCells_cells (P:=P) n o v.cells.toList 0 w e g d;rw[pM]at this;have h:v.cells.size=sz:=by simpa using l
 simp[storeVar,cX b,h,this]
variable {id off:Nat}{h:Nat->AO}{b:List AV}{p:List Value}
theorem Ef.store{q:List AV}{d:Nat}(F:∀d,U d->d<w.heap.size)(j:h id=.box b)
  (u:ρ id=Q1 (.pointer (Q1 ⟨d,0,Q2⟩))) (s:U d) (z:w.heap[d]?=Q1 (.cells a t (0,0))) (D:dg w U ρ b a.toList) (y:∀v∈a.toList,v.oneCell'=Q3)
  (G:dg w U ρ q p) (o:∀x∈p,x.oneCell'=Q3):
  Ef n h {val:=.tup [],wr:=[(id,.box (setCells b off q))]} w U ρ undef (w.setCells d off p) U ρ:=by
 have k:af ρ id (h id) d:=⟨by rw[j];rfl,_,u,rfl⟩;have A:∀g,g<w.heap.size->¬U g->(w.setCells d off p).heap[g]?=w.heap[g]?:=λg _ i=>cw _ _ _ _ _ (λe=>i (e▸s))
 have E:w.heap.size<=(w.setCells d off p).heap.size:=by rw[jI];exact ah _
 refine⟨kF.setCells p w d off,.tup [] [] rfl sw,?_,sw,λ_ _=>rfl,λ_ _ c=>c,?_,?_,λ_ _ c=>c,λ_ _ c _=>c,?_,?_⟩
 .intro l H c;simp at c;obtain⟨rfl,rfl⟩:=c;refine⟨d,t,(pe a.toList off p).toArray,u,s,jF p w d off z,?_,?_⟩
  .simpa using(BH q p b a.toList off D G).mono E A (λ_ _ c=>c) (λ_ _ c=>c)
  .simpa using EL p a.toList off y o
 .intro g _ B;exact cw _ _ _ _ _ (λe=>B id _ (by simp;rfl) (e▸k))
 .grind
 .rintro l H g (c|⟨_,c⟩) C
  .simp at c;obtain⟨rfl,rfl⟩:=c;refine .inr ⟨l,_,by simp;rfl,?_⟩;obtain⟨_,v,m,i⟩:=C;exact⟨by rw[j];rfl,v,m,i⟩
  .simp at c
 simp_all
variable {y:AO}
theorem rr{U':Nat->Prop}(g:bl w U ρ id y)(x:oK y=Q3)(n:∀b,U' b->U b)(o:∀b,af ρ id y b->¬U' b):bl w U' ρ id (Df y):=by
 cases y with
 | frz e l=>
  obtain⟨v,d,m⟩:=g;exact⟨v,d,m.weak n⟩
 | vec e l=>
  have i:=g;obtain⟨a,c,d,m,q⟩:=g
  have:=uy (w:=w) (U:=U) (U':=U') (ρ:=ρ) (hp:=λ_=>.vec e l) (e:=e) (c:=.vec id) (l:=l) (by simp[tj]) (.vec id _ d rfl) n
   (λj h=>by simp[cW]at h;subst h;exact i) (λj h=>by simp[cW]at h;subst h;exact o)
  exact⟨_,d,this⟩
 |dead=>simp[oK]at x
 |box p=>simp[oK]at x
 |fmap k=>simp[oK]at x
 |vmap u k=>simp[oK]at x
 |gmap e k=>simp[oK]at x
variable {i:List Nat}
theorem dE(x:(id,y)∈gN h i):id∈i/\y=Df (h id):=by simp only[gN,bh,cd]at x;grind
theorem rt(x:id∈i):(id,Df (h id))∈gN h i:=by simp only[gN,bh,cd];exact⟨id,x,rfl,rfl⟩
theorem qh(h:oK y=Q3):(Df y).owns=false:=by cases y<;>simp[oK]at h<;>rfl
theorem LU:∀(e:Sh)(y:Sem e)(q:Nat)(c:AV),(zz e y)[q]?=Q1 c->cW c=[]:=by
 intro e
 induction e with
 |unit=>intro y q c h;simp[zz]at h
 |bool=>intro y q c h;cases q<;>simp[zz]at h;subst h;rfl
 |int k=>intro y q c h;cases q<;>simp[zz]at h;subst h;rfl
 |str=>intro y q c h;cases q<;>simp[zz]at h;subst h;rfl
 |sl e d=>intro y q c h;cases q<;>simp[zz]at h;subst h;rfl
 | pr a b i x=>
  intro y q c h;simp only[zz]at h;grind
 | expr=>
  intro y q c h
  match q with
  |0=>simp[zz]at h;subst h;rfl
  |1=>simp[zz]at h;subst h;rfl
  |2=>simp[zz]at h;subst h;rfl
  |3=>simp[zz]at h;subst h;rfl
  |4=>simp[zz]at h;subst h;rfl
  |5=>simp[zz]at h;subst h;rfl
  |_+6=>simp[zz]at h
theorem wm:∀(x e:List AV)(o:Nat)(c:AV),c∈setCells e o x->c∈e\/c∈x
 |[],_,_,_,h=>.inl h
 | v::x,e,o,c,h=>by
  rcases wm x _ _ c h with h|h
  .grind
  .exact .inr (by simp[h])
theorem Ef.storeVec{m:Nat}{e:Sh}{l:List (Sem e)}{x:Sem e}{g c:Nat}(x7:∀g,U g->g<w.heap.size)(S:h id=.vec e l)
  (hρ:ρ id=Q1 (.slice (Q1 ⟨g,0,Q2⟩) (Io l) c)) (hc:0<c) (hU:U g) (hb:w.heap[g]?=Q1 (.cells a t (0,0))) (hm:Io l<=aI) (x2:a.size=c*e.size) (h6:Io l<=c)
  (hr:∀m(hi:m<Io l)(j:Nat)(c:AV),(zz e l[m])[j]?=Q1 c->∃v,a[m*e.size+j]?=Q1 v/\Rv w U ρ c v)
  (hv:dg w U ρ b p) (x5:off+Io b<=e.size) (hi:m<Io l)
  (T:dh h e (setCells (zz e l[m]) off b)=Q1 (x,[]))
  (C:∀j∈b.flatMap cW,oK (h j)=Q3/\j≠id) (x0:∀j∈b.flatMap cW,bl w U ρ j (h j))
  (W:∀j∈b.flatMap cW,∀g,af ρ j (h j) g->¬af ρ id (h id) g):
  Ef n h {val:=.tup [],wr:=(id,.vec e (l.set m x))::gN h (b.flatMap cW)} w U ρ undef (w.setCells g (m*e.size+off) p)
   (λg=>U g/\¬∃j∈b.flatMap cW,af ρ j (h j) g) ρ:=by
 have E:af ρ id (h id) g:=⟨by rw[S];rfl,_,hρ,by simp[bJ];omega⟩;have h7:¬∃j∈b.flatMap cW,af ρ j (h j) g:=λ⟨j,s,u⟩=>W j s g u E
 generalize F:(λg=>U g/\¬∃j∈b.flatMap cW,af ρ j (h j) g)=D;have z:∀g,D g->U g:=λg d=>by rw[<-F]at d;exact d.1
 have h4:∀j∈b.flatMap cW,∀g,af ρ j (h j) g->¬D g:=λj s g u d=>by grind
 have L:D g:=by rw[<-F];exact⟨hU,h7⟩
 have hk:∀A,A<w.heap.size->¬D A->(w.setCells g (m*e.size+off) p).heap[A]?=w.heap[A]?:=λA _ G=>cw _ _ _ _ _ (λe=>G (e▸L))
 have hs:w.heap.size<=(w.setCells g (m*e.size+off) p).heap.size:=by rw[jI];exact ah _
 have J:∀{y:AV}{v:Value},Rv w D ρ y v->Rv (w.setCells g (m*e.size+off) p) D ρ y v:=λd=>d.mono hs hk (λ_ _ d=>d) (λ_ _ d=>d)
 have M:=jF p w g (m*e.size+off) hb;have x4:Io p=Io b:=hv.len.symm;have Y:(m+1)*e.size<=c*e.size:=gE _ ow;rw[hV]at Y;have h3:∀(j:Nat)(y:AV),(zz e x)[j]?=Q1 y->Rv w D ρ y ((pe a.toList (m*e.size+off) p)[m*e.size+j]?.getD undef):=by
  have x1:dg w U ρ (zz e l[m]) ((List.range e.size).map λj=>(a[m*e.size+j]?).getD undef):=by
   refine⟨by simp[ag],λj y v o hv=>?_⟩;simp only[du,dt]at hv;obtain⟨j',s,rfl⟩:=hv;obtain⟨I,h5⟩:=yh s;subst h5;obtain⟨v,h1,h2⟩:=hr m hi _ y o;rw[h1];exact h2
  have Z:=BH b p _ _ off x1 hv;refine(oI (w:=w) (U:=U) (U':=D) (ρ:=ρ) (hp:=h) z e _ x [] (λj=>(pe a.toList (m*e.size+off) p)[m*e.size+j]?.getD undef) T ?_ ?_).2.2
  .intro j y s;have I:j<e.size:=by
    have:=(dc.1 s).1
    rwa [pz,ag]at this
   refine Z.rv j y _ s ?_;have X:m*e.size+j<a.size:=by omega
   rw[lR,lR];grind
  .intro j s;have x6:j∈b.flatMap cW:=by
    simp only[KV]at s|-;obtain⟨y,o,s⟩:=s;rcases wm _ _ _ _ o with d|d
    .obtain⟨q,hq⟩:=List.mem_iff_getElem?.1 d;rw[LU e _ q y hq]at s;simp at s
    .exact⟨y,d,s⟩
   grind
 refine⟨kF.setCells p w g _,.tup [] [] rfl sw,?_,sw,λ_ _=>rfl,λ_ _ d=>d,?_,?_,λA _ d=>z A d,?_,?_,?_⟩
 .intro i o' d;simp only[b8,cd]at d;rcases d with⟨rfl,rfl⟩|d
  .refine⟨_,c,by rw[hρ];simp,by simpa using hm,.inr ⟨g,t,(pe a.toList (m*e.size+off) p).toArray,rfl,hc,L,M,by simp[ir,x2],by simpa using h6,?_⟩⟩;intro i' O j y o;simp only[yM]at O;by_cases H:m=i'
   .subst H;have N:(zz e x)[j]?=Q1 y:=by simpa using o
    have I:j<e.size:=by have:=(dc.1 N).1;rwa [ag]at this
    have X:m*e.size+j<(pe a.toList (m*e.size+off) p).length:=by rw[ir];simp;omega
    grind
   .rw[List.getElem_set_ne H]at o;obtain⟨v,h1,h2⟩:=hr i' O j y o;refine⟨v,?_,J (h2.weak z)⟩;have I:j<e.size:=by have:=(dc.1 o).1;rwa [ag]at this
    have h8:¬(m*e.size+off<=i'*e.size+j/\i'*e.size+j<m*e.size+off+Io p/\i'*e.size+j<a.toList.length):=by
     rintro⟨q1,q2,_⟩;rcases Nat.lt_or_gt_of_ne H with B|B
     .have:=gE e.size (yK B);grind
     .have:=gE e.size (yK B);grind
    simp only[QH];rw[lR,zg h8];simpa using h1
  .obtain⟨k,rfl⟩:=dE d;refine(rr (x0 i k) (C i k).1 z (h4 i k)).mono hs hk (λ_ _ d=>d) (λ_ _ d=>d) ?_;intro A u;have:=qh (C i k).1;rw[af,this]at u;simp at u
 .intro A _ hn;exact cw _ _ _ _ _ (λe'=>hn id _ (by simp;exact .inl rfl) (e'▸E))
 .grind
 .intro A _ d hn;rw[<-F];exact⟨d,λ⟨j,s,u⟩=>hn j _ (jN _ (rt s)) u⟩
 .rintro i o' A (d|⟨_,d⟩) u
  .simp only[b8,cd]at d;rcases d with⟨rfl,rfl⟩|d
   .refine .inr ⟨i,_,ln,?_⟩;obtain⟨_,v,x3,G⟩:=u;exact⟨by rw[S];rfl,v,x3,G⟩
   .obtain⟨k,rfl⟩:=dE d;have:=qh (C i k).1;rw[af,this]at u;simp at u
  .simp at d
 .rintro x8 o1 x9 o2 A (d|⟨_,d⟩) (h'|⟨_,h'⟩) u h9
  .have h0:∀i o',(i,o')∈((id,AO.vec e (l.set m x))::gN h (b.flatMap cW))->af ρ i o' A->i=id:=by
    intro i o' d u;simp only[b8,cd]at d;rcases d with⟨rfl,_⟩|d
    .rfl
    .obtain⟨k,rfl⟩:=dE d;have:=qh (C i k).1;rw[af,this]at u;simp at u
   rw[h0 _ _ d u,h0 _ _ h' h9]
  all_goals simp at d h'
end
section
variable {P:Program} {w:World} {U:Nat->Prop} {ρ:Nat->Option Value}
structure Fj (w:World) (U:Nat->Prop) (ρ:Nat->Option Value) (hp:Nat->AO) (fp:List Nat):Prop where
 ob:∀id∈fp,bl w U ρ id (hp id)
 inj:∀id1∈fp,∀id2∈fp,∀b,af ρ id1 (hp id1) b->af ρ id2 (hp id2) b->id1=id2
variable {n:Nat}{h:Nat->AO}{t:TypeId}{v:Value}
theorem OS{c B:AV}{z:Value}{f:fM}{H:List Nat}(d:(IF P h t c B).val=Q1 f)
  (ha:Rv w U ρ c v) (hx:Rv w U ρ B z) (Z:∀b,U b->b<w.heap.size) (u:Fj w U ρ h H) (s:∀id∈c.ids,id∈H) (O:∀id∈ea B,id∈H):
  ∃w' U',(Instr.storeAt t v z).run P w=.ok () w'/\Ef n h f w U ρ undef w' U' ρ/\∀id o,(id,o)∈f.wr->id∈H:=by
 unfold IF at d;split at d
 .rename_i vs sz M X;obtain⟨hv,E⟩:=ia M hx;split at d
  .rename_i A;split at d
   .rename_i id off;cases ha with
    |ptr _ _ b J=>
    have G:=u.ob id (s id (by simp[AV.ids]));split at d
    .rename_i cs p;rw[p]at G;obtain⟨b',T,x2,I,h2,h3,h4,h5⟩:=G;rw[J]at I;cases I;split at d
     .rename_i S;simp at d;subst d;refine⟨_,U,?_,Ef.store Z p J h2 h3 h4 h5 hv E,?_⟩
      .have:=py (P:=P) (w:=w) (o:=off) X (by rw[<-hv.len];exact A) h3 (by have:=h4.len;simp at this;omega) E;simp[Instr.storeAt,Instr.sureAddr,this]
      .intro x0 o' C;simp at C;rw[C.1];exact s id (by simp[AV.ids])
     .simp at d
    .simp at d
   .rename_i id sz' i off;cases ha with
    |vptr _ _ _ _ b n' g J=>
    have k:=s id (by simp[AV.ids]);have G:=u.ob id k;split at d
    .rename_i e l p;split at d
     .rename_i D;obtain⟨rfl,x1,m⟩:=D;split at d
      .rename_i x y;simp at d;obtain⟨hi,rfl⟩:=d;have h8:=G;rw[p]at G;obtain⟨a,c',I,hm,h3⟩:=G;rw[J]at I;cases I;rcases h3 with⟨rfl,_⟩|⟨b',T,x3,h0,hc,hU,L,Y,S,h9⟩
       .simp at hi
       .cases h0;have N:l[i]?.getD (zi e)=l[i]:=by simp[z6 hi]
        rw[aY,N]at y;have q:∀j∈vs.flatMap cW,j∈H:=λj F=>O j (by simpa[ea,M]using F)
        simp only[dQ,aE,bne_iff_ne,ne_eq]at m
        refine⟨_,_,?_,Ef.storeVec Z p J hc hU L hm Y S h9 hv ow hi y m (λj F=>u.ob j (q j F))
         (λj F b' h6 h7=>(m j F).2 (u.inj j (q j F) id k b' h6 h7)),?_⟩
        .have W:(i+1)*e.size<=g*e.size:=gE _ ow;rw[hV]at W;have:=py (P:=P) (w:=w) (o:=i*e.size+off) X (by rw[<-hv.len];exact A) L ow E;simp[Instr.storeAt,Instr.sureAddr,this]
        .intro x0 o' C;simp only[b8,cd]at C;rcases C with⟨rfl,_⟩|C
         .exact k
         .exact q _ (dE C).1
      .simp at d
     .simp at d
    .simp at d
   .simp at d
  .simp at d
 .simp at d
theorem yP{hp:Nat->AO}{e:Sh}{c:AV}{x:Sem e}(h:yO hp e c=Q1 x):∃a,cellsOf c=Q1 a/\dh hp e a=Q1 (x,[]):=by unfold yO at h;grind
theorem wX{hp:Nat->AO}{e:Sh}{U':Nat->Prop}(d:∀b,U' b->U b):∀(m:List AV)(a:List Value)(l:List (Sem e)),wW hp e m=Q1 l->dg w U ρ m a->
  (∀id∈m.flatMap ea,bl w U ρ id (hp id)/\∀b,af ρ id (hp id) b->¬U' b)->
  l.length=Io a/\(∀v∈a,v.cells.size=e.size/\∀x∈v.cells.toList,x.oneCell'=Q3)/\
  ∀i(D:i<Io l)(y:i<Io a)(j:Nat)(c:AV),(zz e l[i])[j]?=Q1 c->∃v,a[i].cells[j]?=Q1 v/\Rv w U' ρ c v
 | [],a,l,h,k,_=>by
  simp[wW]at h;subst h;have:=k.len;grind
 |v::m,[],l,_,k,_=>by have:=k.len;simp at this
 | v :: m,u::a,l,h,k,hob=>by
  simp only[wW]at h;split at h
  .rename_i x G F E;cases h;obtain⟨B,n,p⟩:=yP F;obtain⟨g,z⟩:=ia n (k.rv 0 v u rfl rfl)
   obtain⟨C,I,J⟩:=wX d m a G E ⟨by have:=k.len;simpa using this,λj c v s y=>k.rv (j+1) c v s y⟩
    (λid o=>hob id (by simp_all))
   obtain⟨H,L,M⟩:=oI (w:=w) (U:=U) (U':=U') (ρ:=ρ) (hp:=hp) d e B x [] (λj=>(u.cells.toList[j]?).getD undef) p
    (λj c A=>by
     have q:j<u.cells.toList.length:=by rw[<-g.len];exact(dc.1 A).1
     exact g.rv j c _ A (by simp[z6 q]))
    (λid o=>hob id (by simp only[List.flatMap_cons,cz];exact .inl (by simpa[ea,n]using o)))
   have t:u.cells.size=e.size:=by
    have:=g.len;simp at this H;omega
   refine⟨by simp[C],?_,?_⟩
   .grind
   .intro i D y j c s;cases i with
    | zero=>
     simp only[List.getElem_cons_zero]at s|-;have q:j<u.cells.size:=by rw[t];have:=(dc.1 s).1;rwa [ag]at this
     grind
    | succ i=>
     grind
  .cases h
theorem xz(s:Nat):∀(h:List Value)(k:Nat)(c:List Value),(∀v∈h,v.cells.size=s)->(k+Io h)*s<=Io c->
  ∃r:List Value,Instr.fill (λi=>Q1 (i*s,s)) c.toArray ((h.zipIdx k).map λp=>(p.2,p.1))=Q1 r.toArray/\Io r=Io c/\
   (∀q,q<k*s->r[q]?=c[q]?)/\∀i(g:i<Io h) j,j<s->r[(k+i)*s+j]?=h[i].cells[j]?
 |[],k,c,_,_=>⟨c,by simp[Instr.fill],rfl,λ_ _=>rfl,sw⟩
 | v::h,k,c,hsz,hle=>by
  have u:=hsz v sw;simp only[eJ]at hle;have o:k*s+s<=Io c:=by
   have d:(k+1)*s<=(k+(Io h+1))*s:=gE _ ow;rw[hV]at d;omega
  obtain⟨r,a,b,e,m⟩:=xz s h (k+1) (pe c (k*s) v.cells.toList) (λx l=>hsz x (by simp[l]))
   (by rw[ir,show k+1+Io h=k+(Io h+1) by omega];exact hle)
  refine⟨r,?_,by rw[b,ir],?_,?_⟩
  .simp only[List.zipIdx_cons,dC,Instr.fill];rw[zg sg];rw[<-a];congr 1;have:=Dd c v.cells.toList 0 (k*s);rw[pM]at this;rw[<-this,<-Array.foldl_toList,Array.toList_zipIdx]
  .intro q t;rw[e q (by rw[hV];omega),lR,zg ow]
  .intro i g j n;cases i with
   | zero=>
    simp only[pM,List.getElem_cons_zero];rw[e _ (by rw[hV];omega),lR,ze sg,show k*s+j-k*s=j by omega];simp
   | succ i=>
    grind
structure EnvOk (E:cg):Prop where
 sh:∀t e,E.sh t=Q1 e->∃i z,E.P.info? t=Q1 i/\i.size=e.size/\0<e.size/\i.bytes<=131072/\i.zero=Q1 z/\z.cells.size=i.size
theorem ql:∀(x:List (Nat×AV))(n:Nat),vl n x=Q3->x=((x.map (·.2)).zipIdx n).map λp=>(p.2,p.1)
 |[],_,_=>rfl
 | (i,v)::r,n,h=>by
  simp[vl]at h;obtain⟨rfl,h⟩:=h;simp only[dC,List.zipIdx_cons];congr 1;exact ql r (i+1) h
theorem Ef.allocFrz{ids:List Nat}{a:Array Value}{T:TypeId}{r:AV}(C:∀b,U b->b<w.heap.size)(m:∀j∈ids,oK (h j)=Q3)
  (t:∀j∈ids,bl w U ρ j (h j)) (g:Rv (w.alloc (.cells a T)) (λb=>U b/\¬∃j∈ids,af ρ j (h j) b) ρ r v):
  Ef n h {val:=r,wr:=gN h ids} w U ρ v (w.alloc (.cells a T)) (λb=>U b/\¬∃j∈ids,af ρ j (h j) b) ρ:=by
 generalize l:(λb=>U b/\¬∃j∈ids,af ρ j (h j) b)=p at g|-;have e:∀b,p b->U b:=λb x=>by rw[<-l]at x;exact x.1
 have s:∀j∈ids,∀b,af ρ j (h j) b->¬p b:=λj u b i x=>by grind
 have z:∀d,d<w.heap.size->¬p d->(w.alloc (.cells a T)).heap[d]?=w.heap[d]?:=λd q _=>bE w _ d q
 have B:w.heap.size<=(w.alloc (.cells a T)).heap.size:=by rw[bt];omega
 have k:∀id o b,(id,o)∈gN h ids->af ρ id o b->False:=by
  intro id o b x i;obtain⟨c,rfl⟩:=dE x;rw[af,qh (m id c)]at i;simp at i
 refine⟨kF.alloc w a T,g,?_,sw,λ_ _=>rfl,λ_ _ x=>x,λd q _=>bE w _ d q,?_,λd _ x=>e d x,?_,?_,?_⟩
 .intro id o x;have y:=x;obtain⟨c,rfl⟩:=dE x;exact(rr (t id c) (m id c) e (s id c)).mono B z (λ_ _ x=>x) (λ_ _ x=>x) (λd i=>(k id _ d y i).elim)
 .grind
 .intro d _ x A;rw[<-l];exact⟨x,λ⟨j,u,i⟩=>A j _ (rt u) i⟩
 .simp_all
 simp_all
theorem AJ{E:cg}(hE:EnvOk E){o:Nat}{q:List (Nat×AV)}{vps:List (Nat×Value)}{f:fM}{i:List Nat}
  (a:(oC E h t o q).val=Q1 f) (hi:q.map (·.1)=vps.map (·.1)) (hr:dg w U ρ (q.map (·.2)) (vps.map (·.2)))
  (O:∀b,U b->b<w.heap.size) (h5:Fj w U ρ h i) (N:∀id∈q.flatMap (λp=>ea p.2),id∈i):
  ∃v w' S,(Instr.buildSlice t o vps.toArray).run E.P w=.ok v w'/\Ef n h f w U ρ v w' S ρ/\∀id d,(id,d)∈f.wr->id∈i:=by
 unfold oC at a;split at a
 .rename_i m hu;split at a
  .split at a
   .rename_i F;simp at F;obtain⟨rfl,B⟩:=F;have C:vps=[]:=by
     have:=congrArg Io hi;simp at this;exact AG ow
    subst C;simp at a;subst a;obtain⟨sz,B⟩:=Option.isSome_iff_exists.1 B
    have A:∃Y,(Instr.buildSlice t 0 #[]).run E.P w=.ok (.slice (Q1 ⟨w.heap.size,0,Q2⟩) 0 0) (w.alloc (.cells Y m)):=
     ⟨_,by simp[Instr.buildSlice,bA hu,cX B,Instr.fill,newRow];rfl⟩
    obtain⟨Y,A⟩:=A;exact⟨_,_,_,A,Ef.allocFrz (ids:=[]) (T:=m) O sw sw (.nils _),sw⟩
   .simp at a
  .rename_i x5;split at a
   .rename_i e he;split at a
    .rename_i s;simp at s;obtain⟨⟨⟨h8,x0⟩,a0⟩,x9⟩:=s;split at a
     .rename_i l hl;simp at a;subst a;obtain⟨g,z,u,h7,a1,_,hz,a3⟩:=hE.sh m e he;have B:gh E.P m=Q1 e.size:=by simp[gh,u,h7]
      have h6:∀id∈(q.map (·.2)).flatMap ea,id∈q.flatMap (λp=>ea p.2):=by
       intro id M;simpa[List.flatMap_map]using M
      have x1:∀j∈q.flatMap (λp=>ea p.2),oK (h j)=Q3:=by
       intro j D;simp only[KV]at D;obtain⟨p,x6,D⟩:=D;exact x9 p.1 p.2 x6 j D
      generalize Z:(λb=>U b/\¬∃j∈q.flatMap (λp=>ea p.2),af ρ j (h j) b)=S;have I:∀b,S b->U b:=λb a=>by rw[<-Z]at a;exact a.1
      obtain⟨h1,h2,h3⟩:=wX (w:=w) (U:=U) (ρ:=ρ) (U':=S) I _ _ l hl hr
       (λid M=>⟨h5.ob id (N id (h6 id M)),λb ho a=>by grind⟩)
      have C:vps=((vps.map (·.2)).zipIdx 0).map λp=>(p.2,p.1):=by
       have h1:=ql q 0 x0;have H:q.map (·.1)=List.range' 0 (Io q):=by
        have:=congrArg (List.map (·.1)) h1;rw[nh]at this;rw[this];have e2:((λx:Nat×AV=>x.1)∘λp:AV×Nat=>(p.2,p.1))=Prod.snd:=rfl;rw[e2,List.zipIdx_map_snd];simp
       have x2:Io q=Io vps:=by have:=congrArg Io hi;simpa using this
       rw[hi,x2]at H;apply List.ext_getElem
       .simp
       .intro k hk a2;have:(vps.map (·.1))[k]?=(List.range' 0 (Io vps))[k]?:=by rw[H]
        grind
      have y:Io vps=o:=by rw[<-h8];have:=congrArg Io hi;simpa using this.symm
      obtain⟨r,e1,e2,e3,e4⟩:=xz e.size (vps.map (·.2)) 0 (((Array.range (o*e.size)).map (z.cells[· %z.cells.size]!)).toList)
       (λv hv=>(h2 v hv).1) (by simp[y])
      rw[<-C]at e1;have h9:o*e.size≠0:=by
       have:o≠0:=λh0=>x5 h0
       exact Nat.mul_ne_zero this ow
      have h4:¬(2^24<o*e.size):=by omega
      have x3:Io l=o:=by rw[h1];simpa using y
      refine⟨.slice (Q1 ⟨w.heap.size,0,Q2⟩) o o,w.alloc (.cells r.toArray m),_,?_,Ef.allocFrz O x1 (λj D=>h5.ob j (N j D)) ?_,λid d a=>N id (dE a).1⟩
      .simp only[QI]at e1;simp only[Instr.buildSlice,cP,bA hu,cX B,nc];simp only[gt_iff_lt,h4,zm,h9,pO,nc,cP,zeroValue,typeInfo,run_program,u,hz,e1,newRow,run_newObj];rfl
      .rw[Z];have hk:∀W,W<w.heap.size->¬S W->(w.alloc (.cells r.toArray m)).heap[W]?=w.heap[W]?:=λW hb _=>bE w _ W hb
       have hs:w.heap.size<=(w.alloc (.cells r.toArray m)).heap.size:=by rw[bt];omega
       suffices J:Rv (w.alloc (.cells r.toArray m)) S ρ (.sl e l) (.slice (Q1 ⟨w.heap.size,0,Q2⟩) (Io l) o) by rw[x3]at J;exact J
       refine .sl e l w.heap.size 0 o (λg j=>(r[g*e.size+j]?).getD undef) ow (by unfold aI;grind) (by rw[bt];omega)
        (λa=>by have:=O _ (I _ a);omega) (λX j L D=>?_) (λX L j c hc=>?_)
       .have x4:X*e.size+j<Io r:=by
         rw[e2];have:(X+1)*e.size<=o*e.size:=gE _ ow;rw[hV]at this;simp;omega
        unfold World.cell?;rw[cC];simp[z6 x4]
       .have G:X<(vps.map (·.2)).length:=by rw[<-h1];exact L
        obtain⟨v,x7,x8⟩:=h3 X L G j c hc;have D:j<e.size:=by have:=(dc.1 hc).1;rwa [ag]at this
        have:=e4 X G j D;rw[ew]at this;rw[this,x7];exact x8.mono hs hk (λ_ _ a=>a) (λ_ _ a=>a)
     .simp at a
    .simp at a
   .simp at a
 .simp at a
end
section
variable {P:Program} {w:World} {U:Nat->Prop} {ρ:Nat->Option Value}
def SlR(w:World)(U:Nat->Prop)(ρ:Nat->Option Value)(e:Sh)(l:List (Sem e))(v:Value):Prop:=
 ∃a h,v=.slice a (Io l) h/\Io l<=h/\Io l<=aI/\(l=[]\/∃b o,a=Q1 ⟨b,o,Q2⟩/\
  ∀i(d:i<Io l)(j:Nat)(c:AV),(zz e l[i])[j]?=Q1 c->∃x,w.cell? ⟨b,o+i*e.size+j,Q2⟩=Q1 x/\Rv w U ρ c x)
variable {e:Sh}{v:Value}
theorem J3{l:List (Sem e)}(h:Rv w U ρ (.sl e l) v):SlR w U ρ e l v:=by
 cases h with
 |sl0 _ a c=>exact⟨a,c,rfl,sw,sw,.inl rfl⟩
 | sl _ _ b o c g n p t s x q=>
  refine⟨_,c,rfl,n,p,.inr ⟨b,o,rfl,λi k j m d=>⟨g i j,x i j k ?_,q i k j m d⟩⟩⟩;have:=(dc.1 d).1;rwa [ag]at this
theorem NO{id:Nat}{l:List (Sem e)}(h:bl w U ρ id (.vec e l))(z:ρ id=Q1 v):SlR w U ρ e l v:=by
 obtain⟨a,c,d,t,p⟩:=h;rw[z]at d;cases d;rcases p with⟨rfl,rfl⟩|⟨b,T,m,rfl,B,A,q,y,k,u⟩
 .exact⟨a,0,rfl,sw,sw,.inl rfl⟩
 .refine⟨_,c,rfl,k,t,.inr ⟨b,0,rfl,λi s j n g=>?_⟩⟩;obtain⟨x,d,o⟩:=u i s j n g;exact⟨x,by simp[World.cell?,q,d],o⟩
variable {h:Nat->AO}
theorem F5{c:AV}{l:List (Sem e)}(x:tj h e c=Q1 l)(i:Rv w U ρ c v)
  (g:∀id∈c.ids,bl w U ρ id (h id)):SlR w U ρ e l v:=by
 cases c<;>simp[tj]at x
 case nils=>
  subst x;cases i;exact⟨_,0,rfl,sw,sw,.inl rfl⟩
 case sl k o=>
  obtain⟨rfl,x⟩:=x;subst x;exact J3 i
 case vec id=>
  cases i with
  |vec _ _ n _=>
  have d:=g id (by simp[AV.ids]);cases a:h id with
  |dead=>simp[a]at x
  |box p=>simp[a]at x
  |fmap m=>simp[a]at x
  |vmap u m=>simp[a]at x
  |gmap e m=>simp[a]at x
  | frz k o=>
   simp[a]at x;obtain⟨rfl,x⟩:=x;subst x;rw[a]at d;obtain⟨q,b,j⟩:=d;rw[n]at b;cases b;exact J3 j
  | vec k o=>
   simp[a]at x;obtain⟨rfl,x⟩:=x;subst x;rw[a]at d;exact NO d n
def eF(size n:Nat)(vals:Nat->Nat->Value):List Value:=(List.range (n*size)).map λq=>vals (q/size) (q%size)
variable {size:Nat}{x:Nat->Nat->Value}
theorem yl{o:Nat}{m l:Nat}(d:m<o)(a:l<size):(eF size o x)[m*size+l]?=Q1 (x m l):=by
 have h:m*size+l<o*size:=by
  have:=gE size (yK d);rw[hV]at this;omega
 have b:(m*size+l)/size=m:=by
  rw[kf,Nat.add_mul_div_right _ _ ow,Nat.div_eq_of_lt a];omega
 have c:(m*size+l)%size=l:=by
  rw[kf,Nat.add_mul_mod_self_right,Nat.mod_eq_of_lt a]
 simp[eF,uu h,b,c]
variable {n:Nat}
theorem em{vals:Nat->Nat->Value}:(eF size n vals).length=n*size:=by simp[eF]
theorem SlR.cells{l:List (Sem e)}(h:SlR w U ρ e l v)(d:0<e.size):∃(a:Option Addr)(cap:Nat)(vals:Nat->Nat->Value),v=.slice a (Io l) cap/\Io l<=cap/\
  (∀i(p:i<Io l)(j:Nat)(c:AV),(zz e l[i])[j]?=Q1 c->Rv w U ρ c (vals i j))/\(∀x∈eF e.size (Io l) vals,x.oneCell'=Q3)/\
  (a=Q2->l=[])/\∀u,a=Q1 u->∀(q:Nat) x,(eF e.size (Io l) vals)[q]?=Q1 x->w.cell? (u.add q)=Q1 x:=by
 obtain⟨a,cap,rfl,k,G,h⟩:=h;rcases h with rfl|⟨b,o,rfl,F⟩
 .exact⟨a,cap,λ_ _=>undef,rfl,k,sw,by simp[eF],λ_=>rfl,by simp[eF]⟩
 .have n:∀i j,i<Io l->j<e.size->∃x,w.cell? ⟨b,o+i*e.size+j,Q2⟩=Q1 x/\x.oneCell'=Q3/\∀(p:i<Io l) c,(zz e l[i])[j]?=Q1 c->Rv w U ρ c x:=by
   intro i j p E;have g:(zz e l[i])[j]?=Q1 ((zz e l[i])[j]'(by rw[ag];exact E)):=z6 _;obtain⟨x,y,s⟩:=F i p j _ g;exact⟨x,y,fW e l[i] j _ x g s,λp c k=>by rw[g]at k;cases k;exact s⟩
  let vals:Nat->Nat->Value:=λi j=>(w.cell? ⟨b,o+i*e.size+j,Q2⟩).getD undef
  refine⟨_,cap,vals,rfl,k,λi p j c k=>?_,λx D=>?_,(λh=>by cases h),λu z q x t=>?_⟩
  .grind
  .simp only[eF,bh,pS]at D;obtain⟨q,t,rfl⟩:=D;obtain⟨x,y,s,_⟩:=n (q/e.size) (q%e.size) ((Nat.div_lt_iff_lt_mul d).2 t) (Nat.mod_lt _ d);grind
  .cases z;simp only[eF,du,dt]at t;obtain⟨m,B,rfl⟩:=t;obtain⟨A,C⟩:=yh B;subst C;obtain⟨x,y,s,_⟩:=n (m/e.size) (m%e.size) ((Nat.div_lt_iff_lt_mul d).2 A) (Nat.mod_lt _ d);rw[Addr.add_none];have:o+m=o+m/e.size*e.size+m%e.size:=by have:=Nat.div_add_mod m e.size;rw[Nat.mul_comm]at this;omega
   grind
theorem Ef.newVec{wr:List (Nat×AO)}(d:∀id o,(id,o)∈wr->o=.dead){l:List (Sem e)}{y:World}{z:Nat->Prop}(E:ρ n=Q2)(q:v.oneCell'=Q3)(m:kF w y)
  (g:∀b,b<w.heap.size->(∀id o,(id,o)∈wr->¬af ρ id (h id) b)->y.heap[b]?=w.heap[b]?) (A:∀b,z b->b<y.heap.size) (B:∀b,b<w.heap.size->(z b↔U b))
  (C:bl y z (jJ ρ n v) n (.vec e l)) (s:∀b,bJ v=Q1 b->w.heap.size<=b\/∃id o,(id,o)∈wr/\af ρ id (h id) b):
  Ef n h {val:=.vec n,wr:=wr,nw:=[.vec e l]} w U ρ v y z (jJ ρ n v):=by
 have c:∀id o,(n<=id/\([AO.vec e l]:List AO)[id-n]?=Q1 o)->id=n:=by
  rintro id o ⟨h1,h2⟩;have:=(dc.1 h2).1;simp at this;omega
 refine⟨m,.vec n v (by simp[jJ]) q,?_,?_,?_,fg E,g,A,λb k a=>(B b k).1 a,λb k a _=>(B b k).2 a,?_,?_⟩
 .intro id o a;rw[d id o a];trivial
 .grind
 .intro id a;unfold jJ;rw[zg (by simp at a;omega)]
 .rintro id o b (a|a) i
  .rw[d id o a]at i;simp[af,AO.owns]at i
  .have:=c id o a;subst this;obtain⟨_,x,D,k⟩:=i;simp[jJ]at D;subst D;exact s b k
 .rintro t o1 u o2 b (a|a) j i p
  .rw[d t o1 a]at i;simp[af,AO.owns]at i
  .rcases j with j|j
   .rw[d u o2 j]at p;simp[af,AO.owns]at p
   .rw[c t o1 a,c u o2 j]
variable {f g:Nat->Nat->Value}
theorem UK{x m:Nat}{l A:Nat}(a:A<n)(c:l<x+m):
  (eF n x f++eF n m g)[l*n+A]?=Q1 (ite (l<x) (f l A) (g (l-x) A)):=by
 by_cases h:l<x
 .rw[ze h,kG]
  .exact yl h a
  .rw[em];have:=gE n (yK h);rw[hV]at this;omega
 .rw[zg h];have b:x*n<=l*n:=gE _ ow;rw[jg (by rw[em];omega),em];rw[show l*n+A-x*n=(l-x)*n+A by rw[Nat.sub_mul];omega];exact yl ow a
variable {t:TypeId}
theorem Src.ofSlR{l:List (Sem e)}{a:Option Addr}{cap:Nat}{T:TypeId}(c:P.underlying t=Q1 (.slice T))
  (d:∀h∈eF e.size (Io l) x,h.oneCell'=Q3) (i:a=Q2->l=[]) (g:∀b,a=Q1 b->∀(q:Nat) h,(eF e.size (Io l) x)[q]?=Q1 h->w.cell? (b.add q)=Q1 h):
  Src P e.size t (.slice a (Io l) cap) (Io l) (eF e.size (Io l) x) w:=by
 cases a with
 | none=>
  have:=i rfl;subst this;simpa[eF]using Src.ofNil (P:=P) w (size:=e.size) c cap
 |some b=>exact Src.ofSlice w c b (Io l) cap _ em (g b rfl) d
theorem Fg(z:Array Value)(n:Nat):(Builtin.zeroCells z n).size=n*z.size:=by simp[Builtin.zeroCells]
theorem G6{l0 l':List (Sem e)}{elem:TypeId}{z:Value}{newCap:Nat}(v:ρ n=Q2)
  (q:z.cells.size=e.size) (d:Io l0+Io l'<=newCap) (o:0<newCap) (u:Io l0+Io l'<=1073741824)
  (B:∀i(k:i<Io l0)(j:Nat)(c:AV),(zz e l0[i])[j]?=Q1 c->Rv w U ρ c (f i j)) (C:∀i(k:i<Io l')(j:Nat)(c:AV),(zz e l'[i])[j]?=Q1 c->Rv w U ρ c (g i j)):
  bl (w.drew.alloc (.cells ((eF e.size (Io l0) f++eF e.size (Io l') g).toArray++Builtin.zeroCells z.cells (newCap-(Io l0+Io l'))) elem))
   (λb=>U b\/b=w.heap.size) (jJ ρ n (.slice (Q1 ⟨w.heap.size,0,Q2⟩) (Io l0+Io l') newCap)) n (.vec e (l0++l')):=by
 generalize m:Obj.cells ((eF e.size (Io l0) f++eF e.size (Io l') g).toArray++Builtin.zeroCells z.cells (newCap-(Io l0+Io l'))) elem=p;have t:∀b,b<w.heap.size->¬U b->(w.drew.alloc p).heap[b]?=w.heap[b]?:=λb s _=>bE w.drew _ b s
 have A:∀b,b<w.heap.size->(U b\/b=w.heap.size)->U b:=λb s h=>h.elim id (λe=>by omega)
 have y:w.heap.size<=(w.drew.alloc p).heap.size:=by rw[bt];exact Nat.le_succ _
 have l:(w.drew.alloc p).heap[w.heap.size]?=Q1 p:=cC w.drew p;refine⟨_,newCap,by simp[jJ],by simp;unfold aI;omega,.inr ⟨w.heap.size,elem,_,rfl,o,.inr rfl,by rw[l,<-m],?_,by simpa using d,?_⟩⟩
 .simp only[Array.size_append,List.size_toArray,ik,em,Fg,q];rw[<-oo,<-oo];congr 1;omega
 .intro i k j c a;simp only[ik]at k;have D:j<e.size:=by have:=(dc.1 a).1;rwa [ag]at this
  refine⟨if i<Io l0 then f i j else g (i-Io l0) j,?_,?_⟩
  .rw[Array.getElem?_append_left]
   .simpa using UK D k
   .simp only[List.size_toArray,ik,em];rw[<-oo];have:=gE e.size (yK k);rw[hV]at this;omega
  .by_cases x:i<Io l0
   .rw[ze x];rw[List.getElem_append_left x]at a;exact(B i x j c a).mono y t A (fg v)
   .rw[zg x];rw[List.getElem_append_right ow]at a;exact(C _ _ j c a).mono y t A (fg v)
theorem kF.drew(w:World):kF w w.drew:=⟨ah _,rfl,rfl,rfl,λ_ _=>rfl⟩
theorem Ab{E:cg}(hE:EnvOk E){m t' i0 ty:TypeId}{c B:AV}{vb vx:Value}{f:fM}{fp:List Nat}
  (d:(nu E h n m c B).val=Q1 f) (hu:E.P.underlying t=Q1 (.slice m)) (x9:E.P.underlying t'=Q1 (.slice i0))
  (A:Rv w U ρ c vb) (hx:Rv w U ρ B vx) (x1:∀b,U b->b<w.heap.size) (x6:Fj w U ρ h fp) (a6:∀id∈c.ids,id∈fp) (x2:∀id∈B.ids,id∈fp) (hn:ρ n=Q2):
  ∃v w' U' ρ',(Builtin.append_ #[t,t'] ty #[vb,vx]).run E.P w=.ok v w'/\Ef n h f w U ρ v w' U' ρ'/\∀id o,(id,o)∈f.wr->id∈fp:=by
 have h7:∀(a:Option Addr)(i:TypeInfo),E.P.info? m=Q1 i->∀x,(Builtin.lenOf x).run E.P w=.ok 0 w->(Builtin.firstCells i.size 0 x).run E.P w=.ok #[] w->
   (Builtin.append_ #[t,t'] ty #[.slice a 0 0,x]).run E.P w=.ok (.slice a 0 0) w:=by
  intro a i hi x hl hf;cases a<;>simp[Builtin.append_,bA hu,bA x9,Go.sizeOf,typeInfo,hi,hl,hf,storeCells]
 unfold nu at d;split at d
 ·
  rename_i e he;obtain⟨i,z,y,p,O,H,hz,a3⟩:=hE.sh m e he;split at d
  .rename_i l hl;simp at d;obtain⟨h4,rfl⟩:=d;cases A with
   |nils a=>
   obtain⟨a',G,g,rfl,i4,hg,h6,M,L⟩:=(F5 hl hx (λid S=>x6.ob id (x2 id S))).cells O;have s:=Src.ofSlR (P:=E.P) (w:=w) (e:=e) (cap:=G) x9 h6 M L;rw[<-p]at s;by_cases h0:l=[]
   .subst h0;refine⟨.slice a 0 0,w,U,_,h7 a i y _ (s.len w) (by simpa[eF]using s.cells),Ef.newVec sw hn rfl (kF.refl w) (λ_ _ _=>rfl) x1 (λ_ _=>Iff.rfl) ?_ ?_,sw⟩
    .exact⟨a,0,by simp[jJ],sw,.inl ⟨rfl,rfl⟩⟩
    .intro b A;cases a<;>simp[bJ]at A
   .have i5:0<Io l:=List.length_pos_iff.2 h0;have h5:(Builtin.firstCells i.size 0 (.slice a 0 0)).run E.P w.drew=.ok ([]:List Value).toArray w.drew:=by
     cases a<;>simp[Builtin.firstCells,loadCells,loadCellsFrom]
    have C:=run_append_grow_src (P:=E.P) w t t' ty m i z hu y hz a 0 0 [] h5 (.slice a' (Io l) G) (Io l) _ s ow ow
     (growslice_fits ow (by have:(0+Io l)*i.bytes<=1073741824*131072:=F3 ow H;omega))
    have h9:=grownCap_ge w (0+Io l) 0 m
    have J:=G6 (w:=w) (U:=U) (ρ:=ρ) (n:=n) (e:=e) (l0:=[]) (l':=l) (elem:=m) (z:=z) (newCap:=grownCap w (0+Io l) 0 m) (f:=λ_ _=>undef) (g:=g) hn
     (by rw[a3,p]) (by simpa using h9) ow (by simpa using h4) sw hg
    have e0:eF e.size ([]:List (Sem e)).length (λ_ _=>undef)=[]:=by simp[eF]
    rw[e0]at J;simp only[pn]at J;rw[p]at C;refine⟨_,_,_,_,C,Ef.newVec sw hn rfl ((kF.drew w).trans (kF.alloc w.drew _ _)) (λb A _=>bE w.drew _ b A) ?_ ?_ J ?_,sw⟩
    .intro b A;rw[bt];rcases A with A|A
     .have:=x1 b A;exact Nat.lt_succ_of_lt this
     .rw[A];exact Nat.lt_succ_self _
    .grind
    .intro b A;simp[bJ]at A;exact .inl ow
  .simp at d
 ·
  rename_i e id he;obtain⟨i,z,y,p,O,H,hz,a3⟩:=hE.sh m e he;split at d
  .rename_i F D S;split at d
   .rename_i i1;subst i1;split at d
    .rename_i N hl;simp at d;obtain⟨h4,rfl⟩:=d;have Z:=a6 id (by simp[AV.ids]);cases A with
     |vec _ _ hv j5=>
     have x8:=x6.ob id Z;rw[S]at x8;obtain⟨a',G,g,rfl,i4,hg,h6,M,L⟩:=(F5 hl hx (λid S=>x6.ob id (x2 id S))).cells O;have s:=Src.ofSlR (P:=E.P) (w:=w) (e:=F) (cap:=G) x9 h6 M L;obtain⟨a0,u,f0,rfl,j0,i2,i7,x0,h8⟩:=(NO x8 hv).cells O;have a2:∀W o,(W,o)∈[(id,AO.dead)]->o=.dead:=by intro W o d;simp at d;exact d.2
     have Y:∀W o,(W,o)∈[(id,AO.dead)]->W∈fp:=by intro W o d;simp at d;rw[d.1];exact Z
     by_cases I:Io D+Io N<=u
     ·
      obtain⟨a1,c1,x3,j2,h3⟩:=x8;rw[hv]at x3;cases x3;rcases h3 with⟨rfl,rfl⟩|⟨b,T,a9,rfl,hc,a4,x5,i9,j1,i8⟩
      .have i3:N=[]:=by simpa using I
       subst i3;rw[<-p]at s;refine⟨.slice a0 0 0,w,U,_,h7 a0 i y _ (s.len w) (by simpa[eF]using s.cells),Ef.newVec a2 hn rfl (kF.refl w) (λ_ _ _=>rfl) x1 (λ_ _=>Iff.rfl) ?_ ?_,Y⟩
       .exact⟨a0,0,by simp[jJ],sw,.inl ⟨sw,rfl⟩⟩
       .intro b A;cases a0<;>simp[bJ]at A
      .have j3:=em (size:=F.size) (n:=Io N) (vals:=g);have a7:(Io D+Io N)*F.size<=u*F.size:=gE _ I;rw[oo]at a7
       have C:=run_append_room_src (P:=E.P) w t t' ty m i hu y b 0 (Io D) u (.slice a' (Io N) G) (Io N) _ (by rw[p];exact s) I
        (λj hj=>by
         have:0+Io D*i.size+j<a9.size:=by rw[p];omega
         simp only[World.cell?,x5,Option.isSome_none,zE,zm,pD this,fG])
        (λj hj=>by simp[World.frozen?,x5])
       rw[p,ew]at C;have a8:af ρ id (h id) b:=⟨by rw[S];rfl,_,hv,by simp[bJ];omega⟩;have hk:∀b',b'<w.heap.size->¬U b'->(w.setCells b (Io D*F.size) (eF F.size (Io N) g)).heap[b']?=w.heap[b']?:=λb' _ x4=>cw _ _ _ _ _ (λe=>x4 (e▸a4))
       have hs:w.heap.size<=(w.setCells b (Io D*F.size) (eF F.size (Io N) g)).heap.size:=by rw[jI];exact ah _
       refine⟨_,_,U,_,C,Ef.newVec a2 hn rfl (kF.setCells _ w b _) ?_ ?_ (λ_ _=>Iff.rfl) ?_ ?_,Y⟩
       .intro b' _ i6;exact cw _ _ _ _ _ (λe=>i6 id _ (by simp;rfl) (e▸a8))
       .grind
       .refine⟨Q1 ⟨b,0,Q2⟩,u,by simp[jJ],by simp;unfold aI;omega,.inr ⟨b,T,_,rfl,hc,a4,jF _ w b _ x5,by simp[ir,i9],by simpa using I,?_⟩⟩;intro i' a5 j k X;simp only[ik]at a5;have hj:j<F.size:=by have:=(dc.1 X).1;rwa [ag]at this
        have hq:i'*F.size+j<(Io D+Io N)*F.size:=by
         have:=gE F.size (yK a5);rw[hV]at this;omega
        rw[oo]at hq;simp only[QH];rw[lR];by_cases x7:i'<Io D
        .have j4:i'*F.size+j<Io D*F.size:=by
          have:=gE F.size (yK x7);rw[hV]at this;omega
         rw[zg ow];rw[List.getElem_append_left x7]at X;obtain⟨x,h1,h2⟩:=i8 i' x7 j k X;exact⟨x,by simpa using h1,h2.mono hs hk (λ_ _ d=>d) (fg hn)⟩
        .have h9:Io D*F.size<=i'*F.size:=gE _ ow;rw[ze (by grind)];rw[List.getElem_append_right ow]at X;refine⟨g (i'-Io D) j,?_,(hg _ _ j k X).mono hs hk (λ_ _ d=>d) (fg hn)⟩;rw[show i'*F.size+j-Io D*F.size=(i'-Io D)*F.size+j by rw[Nat.sub_mul];omega];exact yl ow hj
       .intro b' x4;simp[bJ]at x4;simp_all
     ·
      have h5:(Builtin.firstCells i.size (Io D) (.slice a0 (Io D) u)).run E.P w.drew=.ok (eF F.size (Io D) f0).toArray w.drew:=by
       cases a0 with
       | none=>
        have:=x0 rfl;subst this;simp[Builtin.firstCells,eF]
       | some ad=>
        exact run_firstCells_some w.drew i.size (Io D) ad (Io D) u _ (by rw[em,p]) (λq x hq=>by simpa using h8 ad rfl q x hq)
      have C:=run_append_grow_src (P:=E.P) w t t' ty m i z hu y hz a0 (Io D) u _ h5 (.slice a' (Io N) G) (Io N) _ (by rw[p];exact s) ow ow
       (growslice_fits ow (by have:(Io D+Io N)*i.bytes<=1073741824*131072:=F3 ow H;omega))
      have h9:=grownCap_ge w (Io D+Io N) u m
      have J:=G6 (w:=w) (U:=U) (ρ:=ρ) (n:=n) (e:=F) (l0:=D) (l':=N) (elem:=m) (z:=z) (newCap:=grownCap w (Io D+Io N) u m) (f:=f0) (g:=g) hn
       (by rw[a3,p]) h9 ow h4 i2 hg
      refine⟨_,_,_,_,C,Ef.newVec a2 hn rfl ((kF.drew w).trans (kF.alloc w.drew _ _)) (λb A _=>bE w.drew _ b A) ?_ ?_ J ?_,Y⟩
      .intro b A;rw[bt];rcases A with A|A
       .have:=x1 b A;exact Nat.lt_succ_of_lt this
       .rw[A];exact Nat.lt_succ_self _
      .grind
      .intro b A;simp[bJ]at A;exact .inl ow
    .simp at d
   .simp at d
  .simp at d
 .simp at d
end
end Cad
