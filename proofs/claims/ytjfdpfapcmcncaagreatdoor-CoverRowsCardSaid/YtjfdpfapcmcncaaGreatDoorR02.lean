/- What each operation says. -/
import Derived.Test.YtjfdpfapcmcncaaGreatDoorR01
namespace Cad
open Go
open List renaming length→Io
open Bool renaming false→Q4,true→Q3
open Option renaming none→Q2,some→Q1
open Tr (chk br)
open AV (nils agg tup ptr kb str sl)
section
variable {P:Program} {w:World} {U:Nat->Prop} {ρ:Nat->Option Value}
theorem lM{k:IntKind}{i:Int}{y:Nat}(h:BoundsCode)(o:0<=i)(u:i<=y):(Instr.sliceBound (.int k i) y h).run P w=.ok i.toNat w:=by
 simp[Instr.sliceBound,asIntOf,o,u]
theorem MY(s:zD)(l h:Nat):(⟨s.toArray⟩:ByteArray).extract l h=⟨((s.drop l).take (h-l)).toArray⟩:=by
 apply ByteArray.ext;simp[List.extract_eq_take_drop]
theorem Cq{o:AV}{v:Value}{k:Int}(h:pN o=Q1 k)(u:Rv w U ρ o v):∃z,v=.int z k:=by
 unfold pN at h;split at h
 ·cases h;cases u;exact⟨_,rfl⟩
 ·cases h
theorem Gf{isS:Bool}{len cap:Nat}{B E:Option AV}{vlo vhi:Option Value}{l h:Int}
  (z:(match B with|none=>Q1 0|some a=>pN a)=Q1 l) (F:(match E with|none=>Q1 (len:Int)|some a=>pN a)=Q1 h)
  (C:∀a v,B=Q1 a->vlo=Q1 v->Rv w U ρ a v) (G:∀a v,E=Q1 a->vhi=Q1 v->Rv w U ρ a v)
  (u:B.isSome=vlo.isSome) (D:E.isSome=vhi.isSome) (H:0<=l) (L:l<=h) (O:h<=len) (S:len<=cap):
  (Instr.sliceBounds isS len cap vlo vhi Q2).run P w=.ok (l.toNat,h.toNat,cap) w:=by
 cases E with
 | none=>
  cases vhi with
  |some v=>simp at D
  |none=>
  simp at F;subst F;cases B with
  | none=>
   cases vlo with
   |some v=>simp at u
   |none=>simp at z;subst z;simp[Instr.sliceBounds]
  | some a=>
   cases vlo with
   |none=>simp at u
   | some v=>
    obtain⟨J,rfl⟩:=Cq z (C _ _ rfl rfl);simp[Instr.sliceBounds,lM _ H L]
 | some b=>
  cases vhi with
  |none=>simp at D
  |some T=>
  obtain⟨J,rfl⟩:=Cq F (G _ _ rfl rfl);have I:∀o,(Instr.sliceBound (.int J h) cap o).run P w=.ok h.toNat w:=λo=>lM o ow ow
  cases B with
  | none=>
   cases vlo with
   |some v=>simp at u
   |none=>simp at z;subst z;simp[Instr.sliceBounds,I]
  | some a=>
   cases vlo with
   |none=>simp at u
   | some v=>
    obtain⟨M,rfl⟩:=Cq z (C _ _ rfl rfl);simp[Instr.sliceBounds,I,lM (y:=h.toNat) _ H ow]
theorem tW{t:TypeId}{ax:AV}{vx:Value}{lo Z mx:Option AV}{vlo vhi vmx:Option Value}{f:fT}(h:(vn P t ax lo Z mx).val=Q1 f)
  (W:Rv w U ρ ax vx) (h6:∀a v,lo=Q1 a->vlo=Q1 v->Rv w U ρ a v) (F:∀a v,Z=Q1 a->vhi=Q1 v->Rv w U ρ a v)
  (h7:∀a v,mx=Q1 a->vmx=Q1 v->Rv w U ρ a v) (H:lo.isSome=vlo.isSome) (G:Z.isSome=vhi.isSome) (I:mx.isSome=vmx.isSome):
  ∃r x,f={val:=r}/\(Instr.sliceAt t vx vlo vhi vmx).run P w=.ok x w/\Rv w U ρ r x:=by
 have D:∀(a:Option Addr)(h5 X:Nat)(u:TypeId)(k k':IntKind),P.underlying t=Q1 (.slice u)->(fR P u).isSome->
   (Instr.sliceAt t (.slice a h5 X) Q2 (Q1 (.int k 0)) (Q1 (.int k' 0))).run P w=.ok (.slice a 0 0) w:=by
  intro a h5 X u k k' E S;obtain⟨sz,S⟩:=Option.isSome_iff_exists.1 S;simp[Instr.sliceAt,Instr.slice,bD E,Instr.sliceBounds,Instr.sliceBound,asIntOf,cQ S]
 unfold vn at h;split at h
 ·rename_i s E;cases vmx with
  |some v=>simp at I
  |none=>
  split at h
  ·rename_i l z O M;simp at h;obtain⟨⟨⟨h0,L⟩,J⟩,rfl⟩:=h;cases W with
   |str _ S=>
   have Y:=Gf (P:=P) (w:=w) (U:=U) (ρ:=ρ) (isS:=Q4) (len:=Io s) (cap:=Io s) O M h6 F H G h0 L J (ae _);refine⟨_,.string ⟨((s.drop l.toNat).take (z.toNat-l.toNat)).toArray⟩,rfl,?_,.str _ sg⟩;simp[Instr.sliceAt,Instr.slice,bD E,EU,Y,MY]
  ·simp at h
 ·rename_i u e s E;cases vmx with
  |some v=>simp at I
  |none=>
  split at h
  ·rename_i C;split at h
   ·rename_i l z O M;simp at h;obtain⟨⟨⟨h0,L⟩,J⟩,rfl⟩:=h
    have h4:∀(a:Option Addr)(c:Nat),Io s<=c->(Instr.sliceAt t (.slice a (Io s) c) vlo vhi Q2).run P w=
      .ok (.slice (ite (c=l.toNat) a (a.map (·.add (l.toNat*e.size)))) (z.toNat-l.toNat) (c-l.toNat)) w:=by
     intro a c T;have Y:=Gf (P:=P) (w:=w) (U:=U) (ρ:=ρ) (isS:=Q3) (len:=Io s) (cap:=c) O M h6 F H G h0 L J T;simp[Instr.sliceAt,Instr.slice,bD E,Y,cQ C]
    have B:((s.drop l.toNat).take (z.toNat-l.toNat)).length=z.toNat-l.toNat:=by simp;omega
    by_cases x0:l.toNat<z.toNat
    ·cases W with
     |sl0 _ a c=>simp at J;omega
     |sl _ _ b o c h8 T hm Y hU h9 hr=>
     refine⟨_,_,rfl,h4 _ _ T,?_⟩;rw[if_neg ow];simp only[yZ,Addr.add_none]
     suffices S:Rv w U ρ (.sl e ((s.drop l.toNat).take (z.toNat-l.toNat))) (.slice (Q1 ⟨b,o+l.toNat*e.size,Q2⟩) ((s.drop l.toNat).take (z.toNat-l.toNat)).length (c-l.toNat)) by
      rw[B]at S;exact S
     refine .sl e _ b (o+l.toNat*e.size) (c-l.toNat) (λi j=>h8 (l.toNat+i) j) (by rw[B];omega) (by rw[B];omega) Y hU (λi j Z hj=>?_) (λi Z j c' W=>?_)
     ·grind
     grind
    ·have h3:(s.drop l.toNat).take (z.toNat-l.toNat)=[]:=by
      rw[show z.toNat-l.toNat=0 by omega];simp
     rw[h3];obtain⟨a,c,rfl,hm,T⟩:=JT W;refine⟨_,_,rfl,h4 a c T,?_⟩;rw[show z.toNat-l.toNat=0 by omega];exact .sl0 e _ _
   ·simp at h
  ·simp at h
 ·rename_i u e s k E;split at h
  ·rename_i k';split at h
   ·rename_i C;simp at h;subst h;cases vlo with
    |some v=>simp at H
    |none=>
    cases vhi with
    |none=>simp at G
    |some vh=>
    cases vmx with
    |none=>simp at I
    |some vm=>
    have L:=F _ _ rfl rfl;have J:=h7 _ _ rfl rfl;cases L;cases J;obtain⟨a,c,rfl,hm,T⟩:=JT W;exact⟨_,_,rfl,D _ _ _ u _ _ E C,.nils _⟩
   ·simp at h
  ·simp at h
 ·rename_i u k E;split at h
  ·rename_i k';split at h
   ·rename_i C;simp at h;subst h;cases vlo with
    |some v=>simp at H
    |none=>
    cases vhi with
    |none=>simp at G
    |some vh=>
    cases vmx with
    |none=>simp at I
    |some vm=>
    have L:=F _ _ rfl rfl;have J:=h7 _ _ rfl rfl;cases L;cases J;cases W;exact⟨_,_,rfl,D _ _ _ u _ _ E C,.nils _⟩
   ·simp at h
  ·simp at h
 ·simp at h
structure mv (w w':World):Prop where
 sz:w.heap.size<=w'.heap.size
 os:w'.os=w.os
 out:w'.output=w.output
 tape:w'.tape=w.tape
 fr:∀a:Addr,a.block<w.heap.size->w'.frozen? a=w.frozen? a
theorem mv.refl(w:World):mv w w:=⟨ae _,rfl,rfl,rfl,λ_ _=>rfl⟩
theorem mv.trans{a b c:World}(h:mv a b)(o:mv b c):mv a c:=
 ⟨bt h.sz o.sz,o.os.trans h.os,o.out.trans h.out,o.tape.trans h.tape,λx u=>(o.fr x (g7 u h.sz)).trans (h.fr x u)⟩
structure Ef (n:Nat) (hp:Nat->AO) (f:fT) (w:World) (U:Nat->Prop) (ρ:Nat->Option Value) (v:Value) (w':World) (U':Nat->Prop) (ρ':Nat->Option Value):Prop where
 ext:mv w w'
 val:Rv w' U' ρ' f.val v
 wr:∀id o,(id,o)∈f.wr->bF w' U' ρ' id o
 nw:∀(j:Nat) o,f.nw[j]?=Q1 o->bF w' U' ρ' (n+j) o
 rho:∀id,(id<n\/n+f.nw.length<=id)->ρ' id=ρ id
 rhon:∀id v,ρ id=Q1 v->ρ' id=Q1 v
 same:∀b,b<w.heap.size->(∀id o,(id,o)∈f.wr->¬ar ρ id (hp id) b)->w'.heap[b]?=w.heap[b]?
 ub:∀b,U' b->b<w'.heap.size
 u1:∀b,b<w.heap.size->U' b->U b
 u2:∀b,b<w.heap.size->U b->(∀id o,(id,o)∈f.wr->¬ar ρ id (hp id) b)->U' b
 own:∀id o b,((id,o)∈f.wr\/(n<=id/\f.nw[id-n]?=Q1 o))->ar ρ' id o b->w.heap.size<=b\/∃id' o',(id',o')∈f.wr/\ar ρ id' (hp id') b
 inj:∀id1 o1 id2 o2 b,((id1,o1)∈f.wr\/(n<=id1/\f.nw[id1-n]?=Q1 o1))->((id2,o2)∈f.wr\/(n<=id2/\f.nw[id2-n]?=Q1 o2))->
  ar ρ' id1 o1 b->ar ρ' id2 o2 b->id1=id2
theorem Ef.pure{n:Nat}{hp:Nat->AO}{r:AV}{v:Value}(o:∀b,U b->b<w.heap.size)(h:Rv w U ρ r v):Ef n hp {val:=r} w U ρ v w U ρ where
 ext:=mv.refl w
 val:=h
 wr:=by simp
 nw:=by simp
 rho:=λ_ _=>rfl
 rhon:=λ_ _ h=>h
 same:=λ_ _ _=>rfl
 ub:=o
 u1:=λ_ _ h=>h
 u2:=λ_ _ h _=>h
 own:=by simp
 inj:=by simp
theorem bq(w:World)(o:Obj)(b:Nat)(h:b<w.heap.size):(w.alloc o).heap[b]?=w.heap[b]?:=by
 show(w.heap.push o)[b]?=w.heap[b]?;grind
theorem cH(w:World)(o:Obj):(w.alloc o).heap[w.heap.size]?=Q1 o:=by
 show(w.heap.push o)[w.heap.size]?=Q1 o;rw[Array.getElem?_push,if_pos rfl]
theorem be(w:World)(o:Obj):(w.alloc o).heap.size=w.heap.size+1:=by
 simp_all
theorem mv.alloc(w:World)(c:Array Value)(t:TypeId):mv w (w.alloc (.cells c t)) where
 sz:=by rw[be];omega
 os:=rfl
 out:=rfl
 tape:=rfl
 fr:=λa h=>Ci (bq w _ _ h)
def mJ(ρ:Nat->Option Value)(n:Nat)(v:Value):Nat->Option Value:=λid=>if id=n then Q1 v else ρ id
theorem eV{n:Nat}{v:Value}(o:ρ n=Q2):∀id x,ρ id=Q1 x->mJ ρ n v id=Q1 x:=by
 intro id x h;unfold mJ;grind
theorem Ef.box{n:Nat}{hp:Nat->AO}{cs:List AV}{u:Array Value}{T:TypeId}(M:∀b,U b->b<w.heap.size)(E:ρ n=Q2)
  (J:dA w U ρ cs u.toList) (D:∀v∈u.toList,v.oneCell'=Q3):
  Ef n hp {val:=.ptr n 0,nw:=[.box cs]} w U ρ (.pointer (Q1 ⟨w.heap.size,0,Q2⟩)) (w.alloc (.cells u T)) (λb=>U b\/b=w.heap.size) (mJ ρ n (.pointer (Q1 ⟨w.heap.size,0,Q2⟩))):=by
 have I:∀b,b<w.heap.size->¬U b->(w.alloc (.cells u T)).heap[b]?=w.heap[b]?:=λb z _=>bq w _ b z
 have F:∀b,b<w.heap.size->(U b\/b=w.heap.size)->U b:=λb z h=>h.elim id (λe=>by omega)
 have L:w.heap.size<=(w.alloc (.cells u T)).heap.size:=by rw[be];omega
 refine⟨mv.alloc w u T,.ptr n 0 _ (by simp[mJ]),sw,?_,?_,eV E,λb z _=>bq w _ b z,?_,λb z h=>F b z h,λb _ h _=>.inl h,?_,?_⟩
 ·intro j o C;cases j with
  |succ j=>simp at C
  | zero=>
   simp at C;subst C;exact⟨w.heap.size,T,u,by simp[mJ],.inr rfl,cH w _,J.mono L I F (eV E),D⟩
 ·intro id h;unfold mJ;rw[if_neg (by simp at h;omega)]
 ·intro b h;rw[be];grind
 ·rintro id o b (h|⟨D,h2⟩) ho
  ·simp at h
  ·have:id-n=0:=by
    by_cases H:id-n=0
    ·exact H
    ·simp_all
   have B:id=n:=by omega
   subst B;obtain⟨_,v,G,z⟩:=ho;simp[mJ]at G;subst G;simp[e7]at z;exact .inl ow
 grind
end
section
variable {P:Program} {w:World} {U:Nat->Prop} {ρ:Nat->Option Value}
theorem heap_setCell(w:World)(b o:Nat)(v:Value){arr:Array Value}{T:TypeId}{u:Nat×Nat}(h:w.heap[b]?=Q1 (.cells arr T u)):
  (w.setCell ⟨b,o,Q2⟩ v).heap[b]?=Q1 (.cells (arr.setIfInBounds o v) T u):=by
 simp[World.setCell,uF,h]
theorem uf(w:World)(b o u:Nat)(v:Value)(h:u≠b):(w.setCell ⟨b,o,Q2⟩ v).heap[u]?=w.heap[u]?:=by
 simp only[World.setCell,uF];rw[if_neg (λe=>h e.symm)]
theorem jE:∀(vs:List Value)(w:World)(b o:Nat){arr:Array Value}{T:TypeId}{u:Nat×Nat},w.heap[b]?=Q1 (.cells arr T u)->
  (w.setCells b o vs).heap[b]?=Q1 (.cells (oT arr.toList o vs).toArray T u)
 |[],_,_,_,_,_,_,h=>by simpa[World.setCells,oT]using h
 | v::r,w,b,o,arr,T,u,h=>by
  rw[World.setCells];have:=jE r _ b (o+1) (heap_setCell w b o v h);rw[this];simp[oT]
theorem bX:∀(vs:List Value)(w:World)(b o u:Nat),u≠b->(w.setCells b o vs).heap[u]?=w.heap[u]?
 |[],_,_,_,_,_=>rfl
 | v::r,w,b,o,u,h=>by
  rw[World.setCells,bX r _ b (o+1) u h,uf w b o u v h]
theorem wI(w:World)(a:Addr)(v:Value):(w.setCell a v).heap.size=w.heap.size:=by simp[World.setCell]
theorem mv.setCells:∀(vs:List Value)(w:World)(b o:Nat),mv w (w.setCells b o vs)
 |[],w,_,_=>mv.refl w
 | v::r,w,b,o=>by
  have h:mv w (w.setCell ⟨b,o,Q2⟩ v):=⟨by rw[wI];exact ae _,rfl,rfl,rfl,λa _=>by rw[World.frozen?_setCell]⟩;rw[World.setCells];exact h.trans (mv.setCells r _ b (o+1))
theorem jG:∀(vs:List Value)(w:World)(b o:Nat),(w.setCells b o vs).heap.size=w.heap.size
 |[],_,_,_=>rfl
 |v::r,w,b,o=>by rw[World.setCells,jG r,wI]
theorem lN:∀(l vs:List Value)(o q:Nat),(oT vs o l)[q]?=if o<=q/\q<o+Io l/\q<Io vs then l[q-o]? else vs[q]?
 | [],vs,o,q=>by
  rw[if_neg sg];rfl
 | v::l,vs,o,q=>by
  rw[oT,lN l _ (o+1) q];grind
theorem pj{t:TypeId}{v:Value}{b o sz:Nat}{arr:Array Value}{T:TypeId}(u:fR P t=Q1 sz)(G:v.cells.toList.length=sz)
  (z:w.heap[b]?=Q1 (.cells arr T (0,0))) (E:o+sz<=arr.size) (B:∀x∈v.cells.toList,x.oneCell'=Q3):
  (storeVar t ⟨b,o,Q2⟩ v).run P w=.ok () (w.setCells b o v.cells.toList):=by
 have C:∀j,j<v.cells.toList.length->(w.cell? ⟨b,o+0+j,Q2⟩).isSome=Q3:=by
  intro j F;have:o+j<arr.size:=by omega
  simp[World.cell?,z,tB this]
 have D:∀j,j<v.cells.toList.length->w.frozen? ⟨b,o+0+j,Q2⟩=Q4:=by
  intro j F;simp[World.frozen?,z]
 have:=run_storeCells_cells (P:=P) b o v.cells.toList 0 w C D B;rw[Aa]at this;have h:v.cells.size=sz:=by simpa using G
 simp[storeVar,cQ u,h,this]
theorem Ef.store{n id off:Nat}{hp:Nat->AO}{cs vs:List AV}{b:Nat}{o:Array Value}{T:TypeId}{u:List Value}(Y:∀b,U b->b<w.heap.size)(C:hp id=.box cs)
  (I:ρ id=Q1 (.pointer (Q1 ⟨b,0,Q2⟩))) (H:U b) (L:w.heap[b]?=Q1 (.cells o T (0,0))) (W:dA w U ρ cs o.toList) (J:∀v∈o.toList,v.oneCell'=Q3)
  (Z:dA w U ρ vs u) (G:∀x∈u,x.oneCell'=Q3):
  Ef n hp {val:=.tup [],wr:=[(id,.box (setCells cs off vs))]} w U ρ undef (w.setCells b off u) U ρ:=by
 have D:ar ρ id (hp id) b:=⟨by rw[C];rfl,_,I,rfl⟩;have M:∀z,z<w.heap.size->¬U z->(w.setCells b off u).heap[z]?=w.heap[z]?:=λz _ B=>bX _ _ _ _ _ (λe=>B (e▸H))
 have X:w.heap.size<=(w.setCells b off u).heap.size:=by rw[jG];exact ae _
 refine⟨mv.setCells u w b off,.tup [] [] rfl sw,?_,sw,λ_ _=>rfl,λ_ _ h=>h,?_,?_,λ_ _ h=>h,λ_ _ h _=>h,?_,?_⟩
 ·intro E o' h;simp at h;obtain⟨rfl,rfl⟩:=h;refine⟨b,T,(oT o.toList off u).toArray,I,H,jE u w b off L,?_,?_⟩
  ·simpa using(B2 vs u cs o.toList off W Z).mono X M (λ_ _ h=>h) (λ_ _ h=>h)
  ·simpa using ES u o.toList off J G
 ·intro z _ O;exact bX _ _ _ _ _ (λe=>O id _ (by simp;rfl) (e▸D))
 ·grind
 ·rintro E o' z (h|⟨_,h⟩) S
  ·simp at h;obtain⟨rfl,rfl⟩:=h;refine .inr ⟨E,_,by simp;rfl,?_⟩;obtain⟨_,v,F,B⟩:=S;exact⟨by rw[C];rfl,v,F,B⟩
  ·simp at h
 simp_all
theorem rp{U':Nat->Prop}{id:Nat}{o:AO}(C:bF w U ρ id o)(z:py o=Q3)(G:∀b,U' b->U b)(H:∀b,ar ρ id o b->¬U' b):bF w U' ρ id (Do o):=by
 cases o with
 | frz e l=>
  obtain⟨v,B,F⟩:=C;exact⟨v,B,F.weak G⟩
 | vec e l=>
  have D:=C;obtain⟨a,c,B,F,I⟩:=C
  have:=A8 (w:=w) (U:=U) (U':=U') (ρ:=ρ) (hp:=λ_=>.vec e l) (e:=e) (c:=.vec id) (l:=l) (by simp[xj]) (.vec id _ B rfl) G
   (λE h=>by simp[cU]at h;subst h;exact D) (λE h=>by simp[cU]at h;subst h;exact H)
  exact⟨_,B,this⟩
 |dead=>simp[py]at z
 |box cs=>simp[py]at z
 |fmap es=>simp[py]at z
 |vmap u es=>simp[py]at z
theorem dq{hp:Nat->AO}{u:List Nat}{id:Nat}{o:AO}(h:(id,o)∈gy hp u):id∈u/\o=Do (hp id):=by
 simp only[gy,bd,cF]at h;grind
theorem rq{hp:Nat->AO}{o:List Nat}{id:Nat}(h:id∈o):(id,Do (hp id))∈gy hp o:=by
 simp only[gy,bd,cF];exact⟨id,h,rfl,rfl⟩
theorem qf{o:AO}(h:py o=Q3):(Do o).owns=Q4:=by cases o<;>simp[py]at h<;>rfl
theorem Lj:∀(e:Sh)(y:Sem e)(q:Nat)(o:AV),(zu e y)[q]?=Q1 o->cU o=[]:=by
 intro e
 induction e with
 |unit=>intro y q o h;simp[zu]at h
 |bool=>intro y q o h;cases q<;>simp[zu]at h;subst h;rfl
 |int k=>intro y q o h;cases q<;>simp[zu]at h;subst h;rfl
 |str=>intro y q o h;cases q<;>simp[zu]at h;subst h;rfl
 |sl e B=>intro y q o h;cases q<;>simp[zu]at h;subst h;rfl
 | pr a b u z=>
  intro y q o h;simp only[zu]at h;grind
 | expr=>
  intro y q o h
  match q with
  |0=>simp[zu]at h;subst h;rfl
  |1=>simp[zu]at h;subst h;rfl
  |2=>simp[zu]at h;subst h;rfl
  |3=>simp[zu]at h;subst h;rfl
  |4=>simp[zu]at h;subst h;rfl
  |5=>simp[zu]at h;subst h;rfl
  |_+6=>simp[zu]at h
theorem wJ:∀(vs es:List AV)(o:Nat)(c:AV),c∈setCells es o vs->c∈es\/c∈vs
 |[],_,_,_,h=>.inl h
 | v::vs,es,o,c,h=>by
  rcases wJ vs _ _ c h with h|h
  ·grind
  ·exact .inr (by simp[h])
theorem Ef.storeVec{n id i off:Nat}{hp:Nat->AO}{e:Sh}{l:List (Sem e)}{x:Sem e}{vs:List AV}{b c:Nat}{arr:Array Value}{T:TypeId}{F:List Value}(a5:∀b,U b->b<w.heap.size)(h4:hp id=.vec e l)
  (hρ:ρ id=Q1 (.slice (Q1 ⟨b,0,Q2⟩) (Io l) c)) (hc:0<c) (hU:U b) (hb:w.heap[b]?=Q1 (.cells arr T (0,0))) (hm:Io l<=aG) (a0:arr.size=c*e.size) (x4:Io l<=c)
  (hr:∀i(hi:i<Io l)(j:Nat)(c:AV),(zu e l[i])[j]?=Q1 c->∃v,arr[i*e.size+j]?=Q1 v/\Rv w U ρ c v)
  (hv:dA w U ρ vs F) (a3:off+Io vs<=e.size) (hi:i<Io l)
  (h5:cV hp e (setCells (zu e l[i]) off vs)=Q1 (x,[]))
  (I:∀j∈vs.flatMap cU,py (hp j)=Q3/\j≠id) (x8:∀j∈vs.flatMap cU,bF w U ρ j (hp j))
  (h6:∀j∈vs.flatMap cU,∀b,ar ρ j (hp j) b->¬ar ρ id (hp id) b):
  Ef n hp {val:=.tup [],wr:=(id,.vec e (l.set i x))::gy hp (vs.flatMap cU)} w U ρ undef (w.setCells b (i*e.size+off) F)
   (λb=>U b/\¬∃j∈vs.flatMap cU,ar ρ j (hp j) b) ρ:=by
 have L:ar ρ id (hp id) b:=⟨by rw[h4];rfl,_,hρ,by simp[e7];omega⟩;have x5:¬∃j∈vs.flatMap cU,ar ρ j (hp j) b:=λ⟨j,B,C⟩=>h6 j B b C L
 generalize M:(λb=>U b/\¬∃j∈vs.flatMap cU,ar ρ j (hp j) b)=J;have E:∀b,J b->U b:=λb h=>by rw[<-M]at h;exact h.1
 have x2:∀j∈vs.flatMap cU,∀b,ar ρ j (hp j) b->¬J b:=λj B b C h=>by grind
 have Y:J b:=by rw[<-M];exact⟨hU,x5⟩
 have hk:∀G,G<w.heap.size->¬J G->(w.setCells b (i*e.size+off) F).heap[G]?=w.heap[G]?:=λG _ O=>bX _ _ _ _ _ (λe=>O (e▸Y))
 have hs:w.heap.size<=(w.setCells b (i*e.size+off) F).heap.size:=by rw[jG];exact ae _
 have X:∀{D:AV}{v:Value},Rv w J ρ D v->Rv (w.setCells b (i*e.size+off) F) J ρ D v:=λh=>h.mono hs hk (λ_ _ h=>h) (λ_ _ h=>h)
 have Z:=jE F w b (i*e.size+off) hb;have a2:Io F=Io vs:=hv.len.symm;have h8:(i+1)*e.size<=c*e.size:=fH _ ow;rw[gT]at h8;have x1:∀(j:Nat)(D:AV),(zu e x)[j]?=Q1 D->Rv w J ρ D ((oT arr.toList (i*e.size+off) F)[i*e.size+j]?.getD undef):=by
  have x9:dA w U ρ (zu e l[i]) ((List.range e.size).map λj=>(arr[i*e.size+j]?).getD undef):=by
   refine⟨by simp[ac],λj D v z hv=>?_⟩;simp only[eL,eB]at hv;obtain⟨j',B,rfl⟩:=hv;obtain⟨W,x3⟩:=yG B;subst x3;obtain⟨v,h1,h2⟩:=hr i hi _ D z;rw[h1];exact h2
  have h9:=B2 vs F _ _ off x9 hv;refine(ot (w:=w) (U:=U) (U':=J) (ρ:=ρ) (hp:=hp) E e _ x [] (λj=>(oT arr.toList (i*e.size+off) F)[i*e.size+j]?.getD undef) h5 ?_ ?_).2.2
  ·intro j D B;have W:j<e.size:=by
    have:=(dn.1 B).1
    rwa [pk,ac]at this
   refine h9.rv j D _ B ?_;have h7:i*e.size+j<arr.size:=by omega
   rw[lN,lN];grind
  ·intro j B;have a4:j∈vs.flatMap cU:=by
    simp only[uJ]at B⊢;obtain⟨D,z,B⟩:=B;rcases wJ _ _ _ _ z with h|h
    ·obtain⟨q,hq⟩:=List.mem_iff_getElem?.1 h;rw[Lj e _ q D hq]at B;simp at B
    ·exact⟨D,h,B⟩
   grind
 refine⟨mv.setCells F w b _,.tup [] [] rfl sw,?_,sw,λ_ _=>rfl,λ_ _ h=>h,?_,?_,λG _ h=>E G h,?_,?_,?_⟩
 ·intro o o' h;simp only[bL,cF]at h;rcases h with⟨rfl,rfl⟩|h
  ·refine⟨_,c,by rw[hρ];simp,by simpa using hm,.inr ⟨b,T,(oT arr.toList (i*e.size+off) F).toArray,rfl,hc,Y,Z,by simp[ie,a0],by simpa using x4,?_⟩⟩;intro i' h3 j D z;simp only[List.length_set]at h3;by_cases S:i=i'
   ·subst S;have h0:(zu e x)[j]?=Q1 D:=by simpa using z
    have W:j<e.size:=by have:=(dn.1 h0).1;rwa [ac]at this
    have h7:i*e.size+j<(oT arr.toList (i*e.size+off) F).length:=by rw[ie];simp;omega
    grind
   ·rw[List.getElem_set_ne S]at z;obtain⟨v,h1,h2⟩:=hr i' h3 j D z;refine⟨v,?_,X (h2.weak E)⟩;have W:j<e.size:=by have:=(dn.1 z).1;rwa [ac]at this
    have x6:¬(i*e.size+off<=i'*e.size+j/\i'*e.size+j<i*e.size+off+Io F/\i'*e.size+j<arr.toList.length):=by
     rintro⟨q1,q2,_⟩;rcases Nat.lt_or_gt_of_ne S with H|H
     ·have:=fH e.size (yY H);grind
     ·have:=fH e.size (yY H);grind
    simp only[List.getElem?_toArray];rw[lN,if_neg x6];simpa using h1
  ·obtain⟨u,rfl⟩:=dq h;refine(rp (x8 o u) (I o u).1 E (x2 o u)).mono hs hk (λ_ _ h=>h) (λ_ _ h=>h) ?_;intro G C;have:=qf (I o u).1;rw[ar,this]at C;simp at C
 ·intro G _ hn;exact bX _ _ _ _ _ (λe'=>hn id _ (by simp;exact .inl rfl) (e'▸L))
 ·grind
 ·intro G _ h hn;rw[<-M];exact⟨h,λ⟨j,B,C⟩=>hn j _ (mO _ (rq B)) C⟩
 ·rintro o o' G (h|⟨_,h⟩) C
  ·simp only[bL,cF]at h;rcases h with⟨rfl,rfl⟩|h
   ·refine .inr ⟨o,_,uG,?_⟩;obtain⟨_,v,a1,O⟩:=C;exact⟨by rw[h4];rfl,v,a1,O⟩
   ·obtain⟨u,rfl⟩:=dq h;have:=qf (I o u).1;rw[ar,this]at C;simp at C
  ·simp at h
 ·rintro id1 o1 a6 o2 G (h|⟨_,h⟩) (h'|⟨_,h'⟩) C x7
  ·have x0:∀o o',(o,o')∈((id,AO.vec e (l.set i x))::gy hp (vs.flatMap cU))->ar ρ o o' G->o=id:=by
    intro o o' h C;simp only[bL,cF]at h;rcases h with⟨rfl,_⟩|h
    ·rfl
    ·obtain⟨u,rfl⟩:=dq h;have:=qf (I o u).1;rw[ar,this]at C;simp at C
   rw[x0 _ _ h C,x0 _ _ h' x7]
  all_goals simp at h h'
end
section
variable {P:Program} {w:World} {U:Nat->Prop} {ρ:Nat->Option Value}
structure HY (w:World) (U:Nat->Prop) (ρ:Nat->Option Value) (hp:Nat->AO) (fp:List Nat):Prop where
 ob:∀id∈fp,bF w U ρ id (hp id)
 inj:∀id1∈fp,∀id2∈fp,∀b,ar ρ id1 (hp id1) b->ar ρ id2 (hp id2) b->id1=id2
theorem NX{n:Nat}{hp:Nat->AO}{t:TypeId}{aa ax:AV}{va vx:Value}{f:fT}{O:List Nat}(h:(Iw P hp t aa ax).val=Q1 f)
  (ha:Rv w U ρ aa va) (hx:Rv w U ρ ax vx) (x0:∀b,U b->b<w.heap.size) (E:HY w U ρ hp O) (D:∀id∈aa.ids,id∈O) (h0:∀id∈dP ax,id∈O):
  ∃w' U',(Instr.storeAt t va vx).run P w=.ok () w'/\Ef n hp f w U ρ undef w' U' ρ/\∀id o,(id,o)∈f.wr->id∈O:=by
 unfold Iw at h;split at h
 ·rename_i vs sz Y h8;obtain⟨hv,J⟩:=gU Y hx;split at h
  ·rename_i G;split at h
   ·rename_i id off;cases ha with
    |ptr _ _ b W=>
    have M:=E.ob id (D id (by simp[AV.ids]));split at h
    ·rename_i cs B;rw[B]at M;obtain⟨b',T,x8,S,h2,h3,h4,h5⟩:=M;rw[W]at S;cases S;split at h
     ·rename_i h6;simp at h;subst h;refine⟨_,U,?_,Ef.store x0 B W h2 h3 h4 h5 hv J,?_⟩
      ·have:=pj (P:=P) (w:=w) (o:=off) h8 (by rw[<-hv.len];exact G) h3 (by have:=h4.len;simp at this;omega) J;simp[Instr.storeAt,Instr.sureAddr,this]
      ·intro x6 o' H;simp at H;rw[H.1];exact D id (by simp[AV.ids])
     ·simp at h
    ·simp at h
   ·rename_i id sz' i off;cases ha with
    |vptr _ _ _ _ b n' c W=>
    have u:=D id (by simp[AV.ids]);have M:=E.ob id u;split at h
    ·rename_i e l B;split at h
     ·rename_i I;obtain⟨rfl,x7,z⟩:=I;split at h
      ·rename_i x F;simp at h;obtain⟨hi,rfl⟩:=h;have x4:=M;rw[B]at M;obtain⟨a,c',S,hm,h3⟩:=M;rw[W]at S;cases S;rcases h3 with⟨rfl,_⟩|⟨b',T,arr,x1,hc,hU,X,h9,h6,x5⟩
       ·simp at hi
       ·cases x1;have Z:l[i]?.getD (zi e)=l[i]:=by simp[zU hi]
        rw[aS,Z]at F;have C:∀j∈vs.flatMap cU,j∈O:=λj L=>h0 j (by simpa[dP,Y]using L)
        simp only[ep,aE,bne_iff_ne,ne_eq]at z
        refine⟨_,_,?_,Ef.storeVec x0 B W hc hU X hm h9 h6 x5 hv ow hi F z (λj L=>E.ob j (C j L))
         (λj L b' x2 x3=>(z j L).2 (E.inj j (C j L) id u b' x2 x3)),?_⟩
        ·have h7:(i+1)*e.size<=c*e.size:=fH _ ow;rw[gT]at h7;have:=pj (P:=P) (w:=w) (o:=i*e.size+off) h8 (by rw[<-hv.len];exact G) X ow J;simp[Instr.storeAt,Instr.sureAddr,this]
        ·intro x6 o' H;simp only[bL,cF]at H;rcases H with⟨rfl,_⟩|H
         ·exact u
         ·exact C _ (dq H).1
      ·simp at h
     ·simp at h
    ·simp at h
   ·simp at h
  ·simp at h
 ·simp at h
theorem Ac{hp:Nat->AO}{e:Sh}{v:AV}{x:Sem e}(h:Ab hp e v=Q1 x):∃cs,cellsOf v=Q1 cs/\cV hp e cs=Q1 (x,[]):=by
 unfold Ab at h;grind
theorem xw{hp:Nat->AO}{e:Sh}{U':Nat->Prop}(z:∀b,U' b->U b):∀(vs:List AV)(o:List Value)(l:List (Sem e)),xv hp e vs=Q1 l->dA w U ρ vs o->
  (∀id∈vs.flatMap dP,bF w U ρ id (hp id)/\∀b,ar ρ id (hp id) b->¬U' b)->
  l.length=Io o/\(∀v∈o,v.cells.size=e.size/\∀x∈v.cells.toList,x.oneCell'=Q3)/\
  ∀i(S:i<Io l)(J:i<Io o)(j:Nat)(c:AV),(zu e l[i])[j]?=Q1 c->∃v,o[i].cells[j]?=Q1 v/\Rv w U' ρ c v
 | [],o,l,h,C,_=>by
  simp[xv]at h;subst h;have:=C.len;grind
 |v::vs,[],l,_,C,_=>by have:=C.len;simp at this
 | v :: vs,u::o,l,h,C,hob=>by
  simp only[xv]at h;split at h
  ·rename_i x X W T;cases h;obtain⟨cs,D,F⟩:=Ac W;obtain⟨B,L⟩:=gU D (C.rv 0 v u rfl rfl)
   obtain⟨O,Z,h3⟩:=xw z vs o X T ⟨by have:=C.len;simpa using this,λj c v H J=>C.rv (j+1) c v H J⟩
    (λid E=>hob id (by simp_all))
   obtain⟨Y,q2,q3⟩:=ot (w:=w) (U:=U) (U':=U') (ρ:=ρ) (hp:=hp) z e cs x [] (λj=>(u.cells.toList[j]?).getD undef) F
    (λj c M=>by
     have G:j<u.cells.toList.length:=by rw[<-B.len];exact(dn.1 M).1
     exact B.rv j c _ M (by simp[zU G]))
    (λid E=>hob id (by simp only[List.flatMap_cons,cJ];exact .inl (by simpa[dP,D]using E)))
   have I:u.cells.size=e.size:=by
    have:=B.len;simp at this Y;omega
   refine⟨by simp[O],?_,?_⟩
   ·grind
   ·intro i S J j c H;cases i with
    | zero=>
     simp only[List.getElem_cons_zero]at H⊢;have G:j<u.cells.size:=by rw[I];have:=(dn.1 H).1;rwa [ac]at this
     grind
    | succ i=>
     grind
  ·cases h
theorem xT(h:Nat):∀(vs:List Value)(k:Nat)(o:List Value),(∀v∈vs,v.cells.size=h)->(k+Io vs)*h<=Io o->
  ∃r:List Value,Instr.fill (λi=>Q1 (i*h,h)) o.toArray ((vs.zipIdx k).map λp=>(p.2,p.1))=Q1 r.toArray/\Io r=Io o/\
   (∀q,q<k*h->r[q]?=o[q]?)/\∀i(D:i<Io vs) j,j<h->r[(k+i)*h+j]?=vs[i].cells[j]?
 |[],k,o,_,_=>⟨o,by simp[Instr.fill],rfl,λ_ _=>rfl,sw⟩
 | v::vs,k,o,hsz,hle=>by
  have J:=hsz v sw;simp only[dU]at hle;have H:k*h+h<=Io o:=by
   have C:(k+1)*h<=(k+(Io vs+1))*h:=fH _ ow;rw[gT]at C;omega
  obtain⟨r,z,B,u,F⟩:=xT h vs (k+1) (oT o (k*h) v.cells.toList) (λx E=>hsz x (by simp[E]))
   (by rw[ie,show k+1+Io vs=k+(Io vs+1) by omega];exact hle)
  refine⟨r,?_,by rw[B,ie],?_,?_⟩
  ·simp only[List.zipIdx_cons,iZ,Instr.fill];rw[if_neg sg];rw[<-z];congr 1;have:=Dm o v.cells.toList 0 (k*h);rw[Aa]at this;rw[<-this,<-Array.foldl_toList,Array.toList_zipIdx]
  ·intro q I;rw[u q (by rw[gT];omega),lN,if_neg ow]
  ·intro i D j G;cases i with
   | zero=>
    simp only[Aa,List.getElem_cons_zero];rw[u _ (by rw[gT];omega),lN,if_pos sg,show k*h+j-k*h=j by omega];simp
   | succ i=>
    grind
structure EnvOk (E:bZ):Prop where
 sh:∀t e,E.sh t=Q1 e->∃i z,E.P.info? t=Q1 i/\i.size=e.size/\0<e.size/\i.bytes<=131072/\i.zero=Q1 z/\z.cells.size=i.size
theorem qk:∀(ps:List (Nat×AV))(n:Nat),vz n ps=Q3->ps=((ps.map (·.2)).zipIdx n).map λp=>(p.2,p.1)
 |[],_,_=>rfl
 | (i,v)::r,n,h=>by
  simp[vz]at h;obtain⟨rfl,h⟩:=h;simp only[iZ,List.zipIdx_cons];congr 1;exact qk r (i+1) h
theorem Ef.allocFrz{n:Nat}{hp:Nat->AO}{ids:List Nat}{arr:Array Value}{T:TypeId}{r:AV}{v:Value}(Y:∀b,U b->b<w.heap.size)(G:∀j∈ids,py (hp j)=Q3)
  (L:∀j∈ids,bF w U ρ j (hp j)) (C:Rv (w.alloc (.cells arr T)) (λb=>U b/\¬∃j∈ids,ar ρ j (hp j) b) ρ r v):
  Ef n hp {val:=r,wr:=gy hp ids} w U ρ v (w.alloc (.cells arr T)) (λb=>U b/\¬∃j∈ids,ar ρ j (hp j) b) ρ:=by
 generalize F:(λb=>U b/\¬∃j∈ids,ar ρ j (hp j) b)=H at C⊢;have B:∀b,H b->U b:=λb h=>by rw[<-F]at h;exact h.1
 have J:∀j∈ids,∀b,ar ρ j (hp j) b->¬H b:=λj M b D h=>by grind
 have S:∀z,z<w.heap.size->¬H z->(w.alloc (.cells arr T)).heap[z]?=w.heap[z]?:=λz I _=>bq w _ z I
 have X:w.heap.size<=(w.alloc (.cells arr T)).heap.size:=by rw[be];omega
 have E:∀id o b,(id,o)∈gy hp ids->ar ρ id o b->False:=by
  intro id o b h D;obtain⟨u,rfl⟩:=dq h;rw[ar,qf (G id u)]at D;simp at D
 refine⟨mv.alloc w arr T,C,?_,sw,λ_ _=>rfl,λ_ _ h=>h,λz I _=>bq w _ z I,?_,λz _ h=>B z h,?_,?_,?_⟩
 ·intro id o h;have O:=h;obtain⟨u,rfl⟩:=dq h;exact(rp (L id u) (G id u) B (J id u)).mono X S (λ_ _ h=>h) (λ_ _ h=>h) (λz D=>(E id _ z O D).elim)
 ·grind
 ·intro z _ h W;rw[<-F];exact⟨h,λ⟨j,M,D⟩=>W j _ (rq M) D⟩
 ·simp_all
 simp_all
theorem AU{E:bZ}(hE:EnvOk E){n:Nat}{hp:Nat->AO}{t:TypeId}{u:Nat}{ps:List (Nat×AV)}{vps:List (Nat×Value)}{f:fT}{fp:List Nat}
  (h:(oh E hp t u ps).val=Q1 f) (hi:ps.map (·.1)=vps.map (·.1)) (hr:dA w U ρ (ps.map (·.2)) (vps.map (·.2)))
  (h4:∀b,U b->b<w.heap.size) (h7:HY w U ρ hp fp) (Z:∀id∈ps.flatMap (λp=>dP p.2),id∈fp):
  ∃v w' U',(Instr.buildSlice t u vps.toArray).run E.P w=.ok v w'/\Ef n hp f w U ρ v w' U' ρ/\∀id o,(id,o)∈f.wr->id∈fp:=by
 unfold oh at h;split at h
 ·rename_i B hu;split at h
  ·split at h
   ·rename_i L;simp at L;obtain⟨rfl,H⟩:=L;have I:vps=[]:=by
     have:=congrArg Io hi;simp at this;exact AQ ow
    subst I;simp at h;subst h;obtain⟨sz,H⟩:=Option.isSome_iff_exists.1 H
    have G:∃arr,(Instr.buildSlice t 0 #[]).run E.P w=.ok (.slice (Q1 ⟨w.heap.size,0,Q2⟩) 0 0) (w.alloc (.cells arr B)):=
     ⟨_,by simp[Instr.buildSlice,bD hu,cQ H,Instr.fill,newRow];rfl⟩
    obtain⟨arr,G⟩:=G;exact⟨_,_,_,G,Ef.allocFrz (ids:=[]) (T:=B) h4 sw sw (.nils _),sw⟩
   ·simp at h
  ·rename_i x7;split at h
   ·rename_i e he;split at h
    ·rename_i C;simp at C;obtain⟨⟨⟨x0,x2⟩,a2⟩,a1⟩:=C;split at h
     ·rename_i l hl;simp at h;subst h;obtain⟨i,z,D,h9,a3,_,hz,a5⟩:=hE.sh B e he;have H:fR E.P B=Q1 e.size:=by simp[fR,D,h9]
      have h8:∀id∈(ps.map (·.2)).flatMap dP,id∈ps.flatMap (λp=>dP p.2):=by
       intro id Y;simpa[List.flatMap_map]using Y
      have x3:∀j∈ps.flatMap (λp=>dP p.2),py (hp j)=Q3:=by
       intro j J;simp only[uJ]at J;obtain⟨p,x8,J⟩:=J;exact a1 p.1 p.2 x8 j J
      generalize h5:(λb=>U b/\¬∃j∈ps.flatMap (λp=>dP p.2),ar ρ j (hp j) b)=U';have S:∀b,U' b->U b:=λb h=>by rw[<-h5]at h;exact h.1
      obtain⟨h1,h2,h3⟩:=xw (w:=w) (U:=U) (ρ:=ρ) (U':=U') S _ _ l hl hr
       (λid Y=>⟨h7.ob id (Z id (h8 id Y)),λb ho h=>by grind⟩)
      have I:vps=((vps.map (·.2)).zipIdx 0).map λp=>(p.2,p.1):=by
       have h1:=qk ps 0 x2;have O:ps.map (·.1)=List.range' 0 (Io ps):=by
        have:=congrArg (List.map (·.1)) h1;rw[pM]at this;rw[this];have e2:((λx:Nat×AV=>x.1)∘λp:AV×Nat=>(p.2,p.1))=Prod.snd:=rfl;rw[e2,List.zipIdx_map_snd];simp
       have x4:Io ps=Io vps:=by have:=congrArg Io hi;simpa using this
       rw[hi,x4]at O;apply List.ext_getElem
       ·simp
       ·intro k hk a4;have:(vps.map (·.1))[k]?=(List.range' 0 (Io vps))[k]?:=by rw[O]
        grind
      have F:Io vps=u:=by rw[<-x0];have:=congrArg Io hi;simpa using this.symm
      obtain⟨r,e1,e2,e3,e4⟩:=xT e.size (vps.map (·.2)) 0 (((Array.range (u*e.size)).map (z.cells[· %z.cells.size]!)).toList)
       (λv hv=>(h2 v hv).1) (by simp[F])
      rw[<-I]at e1;have x1:u*e.size≠0:=by
       have:u≠0:=λh0=>x7 h0
       exact Nat.mul_ne_zero this ow
      have h6:¬(2^24<u*e.size):=by omega
      have x5:Io l=u:=by rw[h1];simpa using F
      refine⟨.slice (Q1 ⟨w.heap.size,0,Q2⟩) u u,w.alloc (.cells r.toArray B),_,?_,Ef.allocFrz h4 x3 (λj J=>h7.ob j (Z j J)) ?_,λid o h=>Z id (dq h).1⟩
      ·simp only[Ps]at e1;simp only[Instr.buildSlice,cI,bD hu,cQ H,pJ];simp only[gt_iff_lt,h6,if_false,x1,pH,pJ,cI,zeroValue,typeInfo,run_program,D,hz,e1,newRow,run_newObj];rfl
      ·rw[h5];have hk:∀b',b'<w.heap.size->¬U' b'->(w.alloc (.cells r.toArray B)).heap[b']?=w.heap[b']?:=λb' hb _=>bq w _ b' hb
       have hs:w.heap.size<=(w.alloc (.cells r.toArray B)).heap.size:=by rw[be];omega
       suffices W:Rv (w.alloc (.cells r.toArray B)) U' ρ (.sl e l) (.slice (Q1 ⟨w.heap.size,0,Q2⟩) (Io l) u) by rw[x5]at W;exact W
       refine .sl e l w.heap.size 0 u (λi j=>(r[i*e.size+j]?).getD undef) ow (by unfold aG;grind) (by rw[be];omega)
        (λh=>by have:=h4 _ (S _ h);omega) (λi' j X J=>?_) (λi' X j c hc=>?_)
       ·have x6:i'*e.size+j<Io r:=by
         rw[e2];have:(i'+1)*e.size<=u*e.size:=fH _ ow;rw[gT]at this;simp;omega
        unfold World.cell?;rw[cH];simp[zU x6]
       ·have M:i'<(vps.map (·.2)).length:=by rw[<-h1];exact X
        obtain⟨v,x9,a0⟩:=h3 i' X M j c hc;have J:j<e.size:=by have:=(dn.1 hc).1;rwa [ac]at this
        have:=e4 i' M j J;rw[ek]at this;rw[this,x9];exact a0.mono hs hk (λ_ _ h=>h) (λ_ _ h=>h)
     ·simp at h
    ·simp at h
   ·simp at h
 ·simp at h
end
section
variable {P:Program} {w:World} {U:Nat->Prop} {ρ:Nat->Option Value}
def SlR(w:World)(U:Nat->Prop)(ρ:Nat->Option Value)(e:Sh)(l:List (Sem e))(v:Value):Prop:=
 ∃a h,v=.slice a (Io l) h/\Io l<=h/\Io l<=aG/\(l=[]\/∃b o,a=Q1 ⟨b,o,Q2⟩/\
  ∀i(u:i<Io l)(j:Nat)(c:AV),(zu e l[i])[j]?=Q1 c->∃x,w.cell? ⟨b,o+i*e.size+j,Q2⟩=Q1 x/\Rv w U ρ c x)
theorem oU{e:Sh}{l:List (Sem e)}{v:Value}(h:Rv w U ρ (.sl e l) v):SlR w U ρ e l v:=by
 cases h with
 |sl0 _ a c=>exact⟨a,c,rfl,sw,sw,.inl rfl⟩
 | sl _ _ b o c B E F I H u G=>
  refine⟨_,c,rfl,E,F,.inr ⟨b,o,rfl,λi C j D z=>⟨B i j,u i j C ?_,G i C j D z⟩⟩⟩;have:=(dn.1 z).1;rwa [ac]at this
theorem M6{id:Nat}{e:Sh}{l:List (Sem e)}{v:Value}(h:bF w U ρ id (.vec e l))(J:ρ id=Q1 v):SlR w U ρ e l v:=by
 obtain⟨a,c,o,G,D⟩:=h;rw[J]at o;cases o;rcases D with⟨rfl,rfl⟩|⟨b,T,arr,rfl,M,L,E,I,z,H⟩
 ·exact⟨a,0,rfl,sw,sw,.inl rfl⟩
 ·refine⟨_,c,rfl,z,G,.inr ⟨b,0,rfl,λi F j B u=>?_⟩⟩;obtain⟨x,o,C⟩:=H i F j B u;exact⟨x,by simp[World.cell?,E,o],C⟩
theorem Gc{hp:Nat->AO}{e:Sh}{c:AV}{l:List (Sem e)}{v:Value}(h:xj hp e c=Q1 l)(D:Rv w U ρ c v)
  (C:∀id∈c.ids,bF w U ρ id (hp id)):SlR w U ρ e l v:=by
 cases c<;>simp[xj]at h
 case nils=>
  subst h;cases D;exact⟨_,0,rfl,sw,sw,.inl rfl⟩
 case sl F H=>
  obtain⟨rfl,h⟩:=h;subst h;exact oU D
 case vec id=>
  cases D with
  |vec _ _ G _=>
  have B:=C id (by simp[AV.ids]);cases o:hp id with
  |dead=>simp[o]at h
  |box cs=>simp[o]at h
  |fmap es=>simp[o]at h
  |vmap u es=>simp[o]at h
  | frz F H=>
   simp[o]at h;obtain⟨rfl,h⟩:=h;subst h;rw[o]at B;obtain⟨I,z,E⟩:=B;rw[G]at z;cases z;exact oU E
  | vec F H=>
   simp[o]at h;obtain⟨rfl,h⟩:=h;subst h;rw[o]at B;exact M6 B G
def eu(size n:Nat)(vals:Nat->Nat->Value):List Value:=(List.range (n*size)).map λq=>vals (q/size) (q%size)
theorem yL{size n:Nat}{h:Nat->Nat->Value}{i j:Nat}(C:i<n)(u:j<size):(eu size n h)[i*size+j]?=Q1 (h i j):=by
 have o:i*size+j<n*size:=by
  have:=fH size (yY C);rw[gT]at this;omega
 have z:(i*size+j)/size=i:=by
  rw[o9,Nat.add_mul_div_right _ _ ow,Nat.div_eq_of_lt u];omega
 have B:(i*size+j)%size=j:=by
  rw[o9,Nat.add_mul_mod_self_right,Nat.mod_eq_of_lt u]
 simp[eu,yW o,z,B]
theorem ed{size n:Nat}{vals:Nat->Nat->Value}:(eu size n vals).length=n*size:=by simp[eu]
theorem SlR.cells{e:Sh}{l:List (Sem e)}{v:Value}(h:SlR w U ρ e l v)(u:0<e.size):∃(a:Option Addr)(cap:Nat)(vals:Nat->Nat->Value),v=.slice a (Io l) cap/\Io l<=cap/\
  (∀i(E:i<Io l)(j:Nat)(c:AV),(zu e l[i])[j]?=Q1 c->Rv w U ρ c (vals i j))/\(∀x∈eu e.size (Io l) vals,x.oneCell'=Q3)/\
  (a=Q2->l=[])/\∀H,a=Q1 H->∀(q:Nat) x,(eu e.size (Io l) vals)[q]?=Q1 x->w.cell? (H.add q)=Q1 x:=by
 obtain⟨a,cap,rfl,B,X,h⟩:=h;rcases h with rfl|⟨b,o,rfl,W⟩
 ·exact⟨a,cap,λ_ _=>undef,rfl,B,sw,by simp[eu],λ_=>rfl,by simp[eu]⟩
 ·have D:∀i j,i<Io l->j<e.size->∃x,w.cell? ⟨b,o+i*e.size+j,Q2⟩=Q1 x/\x.oneCell'=Q3/\∀(E:i<Io l) c,(zu e l[i])[j]?=Q1 c->Rv w U ρ c x:=by
   intro i j E T;have z:(zu e l[i])[j]?=Q1 ((zu e l[i])[j]'(by rw[ac];exact T)):=zU _;obtain⟨x,I,F⟩:=W i E j _ z;exact⟨x,I,fL e l[i] j _ x z F,λE c B=>by rw[z]at B;cases B;exact F⟩
  let vals:Nat->Nat->Value:=λi j=>(w.cell? ⟨b,o+i*e.size+j,Q2⟩).getD undef
  refine⟨_,cap,vals,rfl,B,λi E j c B=>?_,λx S=>?_,(λh=>by cases h),λH J q x G=>?_⟩
  ·grind
  ·simp only[eu,bd,pL]at S;obtain⟨q,G,rfl⟩:=S;obtain⟨x,I,F,_⟩:=D (q/e.size) (q%e.size) ((Nat.div_lt_iff_lt_mul u).2 G) (Nat.mod_lt _ u);grind
  ·cases J;simp only[eu,eL,eB]at G;obtain⟨C,M,rfl⟩:=G;obtain⟨L,O⟩:=yG M;subst O;obtain⟨x,I,F,_⟩:=D (C/e.size) (C%e.size) ((Nat.div_lt_iff_lt_mul u).2 L) (Nat.mod_lt _ u);rw[Addr.add_none];have:o+C=o+C/e.size*e.size+C%e.size:=by have:=Nat.div_add_mod C e.size;rw[Nat.mul_comm]at this;omega
   grind
theorem Ef.newVec{n:Nat}{hp:Nat->AO}{wr:List (Nat×AO)}(z:∀id o,(id,o)∈wr->o=.dead){e:Sh}{l:List (Sem e)}{v:Value}{L:World}{M:Nat->Prop}(X:ρ n=Q2)(H:v.oneCell'=Q3)(F:mv w L)
  (B:∀b,b<w.heap.size->(∀id o,(id,o)∈wr->¬ar ρ id (hp id) b)->L.heap[b]?=w.heap[b]?) (O:∀b,M b->b<L.heap.size) (S:∀b,b<w.heap.size->(M b↔U b))
  (T:bF L M (mJ ρ n v) n (.vec e l)) (I:∀b,e7 v=Q1 b->w.heap.size<=b\/∃id o,(id,o)∈wr/\ar ρ id (hp id) b):
  Ef n hp {val:=.vec n,wr:=wr,nw:=[.vec e l]} w U ρ v L M (mJ ρ n v):=by
 have u:∀id o,(n<=id/\([AO.vec e l]:List AO)[id-n]?=Q1 o)->id=n:=by
  rintro id o ⟨h1,h2⟩;have:=(dn.1 h2).1;simp at this;omega
 refine⟨F,.vec n v (by simp[mJ]) H,?_,?_,?_,eV X,B,O,λb E h=>(S b E).1 h,λb E h _=>(S b E).2 h,?_,?_⟩
 ·intro id o h;rw[z id o h];trivial
 ·grind
 ·intro id h;unfold mJ;rw[if_neg (by simp at h;omega)]
 ·rintro id o b (h|h) C
  ·rw[z id o h]at C;simp[ar,AO.owns]at C
  ·have:=u id o h;subst this;obtain⟨_,x,W,E⟩:=C;simp[mJ]at W;subst W;exact I b E
 ·rintro id1 o1 J o2 b (h|h) D C G
  ·rw[z id1 o1 h]at C;simp[ar,AO.owns]at C
  ·rcases D with D|D
   ·rw[z J o2 D]at G;simp[ar,AO.owns]at G
   ·rw[u id1 o1 h,u J o2 D]
theorem Tf{o n m:Nat}{f g:Nat->Nat->Value}{i j:Nat}(u:j<o)(B:i<n+m):
  (eu o n f++eu o m g)[i*o+j]?=Q1 (ite (i<n) (f i j) (g (i-n) j)):=by
 by_cases h:i<n
 ·rw[if_pos h,mR]
  ·exact yL h u
  ·rw[ed];have:=fH o (yY h);rw[gT]at this;omega
 ·rw[if_neg h];have z:n*o<=i*o:=fH _ ow;rw[pq (by rw[ed];omega),ed];rw[show i*o+j-n*o=(i-n)*o+j by rw[Nat.sub_mul];omega];exact yL ow u
theorem Src.ofSlR{e:Sh}{l:List (Sem e)}{a:Option Addr}{cap:Nat}{h:Nat->Nat->Value}{t:TypeId}{z:TypeId}(u:P.underlying t=Q1 (.slice z))
  (B:∀x∈eu e.size (Io l) h,x.oneCell'=Q3) (D:a=Q2->l=[]) (C:∀o,a=Q1 o->∀(q:Nat) x,(eu e.size (Io l) h)[q]?=Q1 x->w.cell? (o.add q)=Q1 x):
  Src P e.size t (.slice a (Io l) cap) (Io l) (eu e.size (Io l) h) w:=by
 cases a with
 | none=>
  have:=D rfl;subst this;simpa[eu]using Src.ofNil (P:=P) w (size:=e.size) u cap
 |some o=>exact Src.ofSlice w u o (Io l) cap _ ed (C o rfl) B
theorem Fh(z:Array Value)(n:Nat):(Builtin.zeroCells z n).size=n*z.size:=by simp[Builtin.zeroCells]
theorem G8{n:Nat}{e:Sh}{l0 l':List (Sem e)}{elem:TypeId}{z:Value}{newCap:Nat}{f g:Nat->Nat->Value}(M:ρ n=Q2)
  (H:z.cells.size=e.size) (B:Io l0+Io l'<=newCap) (F:0<newCap) (L:Io l0+Io l'<=1073741824)
  (T:∀i(C:i<Io l0)(j:Nat)(c:AV),(zu e l0[i])[j]?=Q1 c->Rv w U ρ c (f i j)) (W:∀i(C:i<Io l')(j:Nat)(c:AV),(zu e l'[i])[j]?=Q1 c->Rv w U ρ c (g i j)):
  bF (w.drew.alloc (.cells ((eu e.size (Io l0) f++eu e.size (Io l') g).toArray++Builtin.zeroCells z.cells (newCap-(Io l0+Io l'))) elem))
   (λb=>U b\/b=w.heap.size) (mJ ρ n (.slice (Q1 ⟨w.heap.size,0,Q2⟩) (Io l0+Io l') newCap)) n (.vec e (l0++l')):=by
 generalize E:Obj.cells ((eu e.size (Io l0) f++eu e.size (Io l') g).toArray++Builtin.zeroCells z.cells (newCap-(Io l0+Io l'))) elem=G;have J:∀b,b<w.heap.size->¬U b->(w.drew.alloc G).heap[b]?=w.heap[b]?:=λb I _=>bq w.drew _ b I
 have S:∀b,b<w.heap.size->(U b\/b=w.heap.size)->U b:=λb I h=>h.elim id (λe=>by omega)
 have O:w.heap.size<=(w.drew.alloc G).heap.size:=by rw[be];exact Nat.le_succ _
 have D:(w.drew.alloc G).heap[w.heap.size]?=Q1 G:=cH w.drew G;refine⟨_,newCap,by simp[mJ],by simp;unfold aG;omega,.inr ⟨w.heap.size,elem,_,rfl,F,.inr rfl,by rw[D,<-E],?_,by simpa using B,?_⟩⟩
 ·simp only[Array.size_append,List.size_toArray,ip,ed,Fh,H];rw[<-nR,<-nR];congr 1;omega
 ·intro i C j c u;simp only[ip]at C;have X:j<e.size:=by have:=(dn.1 u).1;rwa [ac]at this
  refine⟨if i<Io l0 then f i j else g (i-Io l0) j,?_,?_⟩
  ·rw[Array.getElem?_append_left]
   ·simpa using Tf X C
   ·simp only[List.size_toArray,ip,ed];rw[<-nR];have:=fH e.size (yY C);rw[gT]at this;omega
  ·by_cases o:i<Io l0
   ·rw[if_pos o];rw[List.getElem_append_left o]at u;exact(T i o j c u).mono O J S (eV M)
   ·rw[if_neg o];rw[List.getElem_append_right ow]at u;exact(W _ _ j c u).mono O J S (eV M)
theorem mv.drew(w:World):mv w w.drew:=⟨ae _,rfl,rfl,rfl,λ_ _=>rfl⟩
theorem Lg{E:bZ}(hE:EnvOk E){n:Nat}{hp:Nat->AO}{u t t' i4 ty:TypeId}{ab ax:AV}{vb vx:Value}{f:fT}{fp:List Nat}
  (h:(vg E hp n u ab ax).val=Q1 f) (hu:E.P.underlying t=Q1 (.slice u)) (a6:E.P.underlying t'=Q1 (.slice i4))
  (G:Rv w U ρ ab vb) (hx:Rv w U ρ ax vx) (x6:∀b,U b->b<w.heap.size) (a3:HY w U ρ hp fp) (i1:∀id∈ab.ids,id∈fp) (x7:∀id∈ax.ids,id∈fp) (hn:ρ n=Q2):
  ∃v w' U' ρ',(Builtin.append_ #[t,t'] ty #[vb,vx]).run E.P w=.ok v w'/\Ef n hp f w U ρ v w' U' ρ'/\∀id o,(id,o)∈f.wr->id∈fp:=by
 have x2:∀(a:Option Addr)(i:TypeInfo),E.P.info? u=Q1 i->∀x,(Builtin.lenOf x).run E.P w=.ok 0 w->(Builtin.firstCells i.size 0 x).run E.P w=.ok #[] w->
   (Builtin.append_ #[t,t'] ty #[.slice a 0 0,x]).run E.P w=.ok (.slice a 0 0) w:=by
  intro a i hi x hl hf;cases a<;>simp[Builtin.append_,bD hu,bD a6,Go.sizeOf,typeInfo,hi,hl,hf,storeCells]
 unfold vg at h;split at h
 ·
  rename_i e he;obtain⟨i,z,F,B,Z,M,hz,a8⟩:=hE.sh u e he;split at h
  ·rename_i l hl;simp at h;obtain⟨h9,rfl⟩:=h;cases G with
   |nils a=>
   obtain⟨a',L,g,rfl,i8,hg,x1,X,W⟩:=(Gc hl hx (λid h4=>a3.ob id (x7 id h4))).cells Z;have C:=Src.ofSlR (P:=E.P) (w:=w) (e:=e) (cap:=L) a6 x1 X W;rw[<-B]at C;by_cases h0:l=[]
   ·subst h0;refine⟨.slice a 0 0,w,U,_,x2 a i F _ (C.len w) (by simpa[eu]using C.cells),Ef.newVec sw hn rfl (mv.refl w) (λ_ _ _=>rfl) x6 (λ_ _=>Iff.rfl) ?_ ?_,sw⟩
    ·exact⟨a,0,by simp[mJ],sw,.inl ⟨rfl,rfl⟩⟩
    ·intro b G;cases a<;>simp[e7]at G
   ·have i9:0<Io l:=List.length_pos_iff.2 h0;have x0:(Builtin.firstCells i.size 0 (.slice a 0 0)).run E.P w.drew=.ok ([]:List Value).toArray w.drew:=by
     cases a<;>simp[Builtin.firstCells,loadCells,loadCellsFrom]
    have H:=run_append_grow_src (P:=E.P) w t t' ty u i z hu F hz a 0 0 [] x0 (.slice a' (Io l) L) (Io l) _ C ow ow
     (growslice_fits ow (by have:(0+Io l)*i.bytes<=1073741824*131072:=Ga ow M;omega))
    have x4:=grownCap_ge w (0+Io l) 0 u
    have S:=G8 (w:=w) (U:=U) (ρ:=ρ) (n:=n) (e:=e) (l0:=[]) (l':=l) (elem:=u) (z:=z) (newCap:=grownCap w (0+Io l) 0 u) (f:=λ_ _=>undef) (g:=g) hn
     (by rw[a8,B]) (by simpa using x4) ow (by simpa using h9) sw hg
    have e0:eu e.size ([]:List (Sem e)).length (λ_ _=>undef)=[]:=by simp[eu]
    rw[e0]at S;simp only[iq]at S;rw[B]at H;refine⟨_,_,_,_,H,Ef.newVec sw hn rfl ((mv.drew w).trans (mv.alloc w.drew _ _)) (λb G _=>bq w.drew _ b G) ?_ ?_ S ?_,sw⟩
    ·intro b G;rw[be];rcases G with G|G
     ·have:=x6 b G;exact Nat.lt_succ_of_lt this
     ·rw[G];exact Nat.lt_succ_self _
    ·grind
    ·intro b G;simp[e7]at G;exact .inl ow
  ·simp at h
 ·
  rename_i e id he;obtain⟨i,z,F,B,Z,M,hz,a8⟩:=hE.sh u e he;split at h
  ·rename_i J I h4;split at h
   ·rename_i i5;subst i5;split at h
    ·rename_i Y hl;simp at h;obtain⟨h9,rfl⟩:=h;have h8:=i1 id (by simp[AV.ids]);cases G with
     |vec _ _ hv j9=>
     have a5:=a3.ob id h8;rw[h4]at a5;obtain⟨a',L,g,rfl,i8,hg,x1,X,W⟩:=(Gc hl hx (λid h4=>a3.ob id (x7 id h4))).cells Z;have C:=Src.ofSlR (P:=E.P) (w:=w) (e:=J) (cap:=L) a6 x1 X W;obtain⟨a0,D,f0,rfl,j4,i6,j1,x5,x3⟩:=(M6 a5 hv).cells Z;have a7:∀h5 o,(h5,o)∈[(id,AO.dead)]->o=.dead:=by intro h5 o h;simp at h;exact h.2
     have h7:∀h5 o,(h5,o)∈[(id,AO.dead)]->h5∈fp:=by intro h5 o h;simp at h;rw[h.1];exact h8
     by_cases O:Io I+Io Y<=D
     ·
      obtain⟨a1,c1,x8,j6,h3⟩:=a5;rw[hv]at x8;cases x8;rcases h3 with⟨rfl,rfl⟩|⟨b,T,arr,rfl,hc,a9,a2,j3,j5,j2⟩
      ·have i7:Y=[]:=by simpa using O
       subst i7;rw[<-B]at C;refine⟨.slice a0 0 0,w,U,_,x2 a0 i F _ (C.len w) (by simpa[eu]using C.cells),Ef.newVec a7 hn rfl (mv.refl w) (λ_ _ _=>rfl) x6 (λ_ _=>Iff.rfl) ?_ ?_,h7⟩
       ·exact⟨a0,0,by simp[mJ],sw,.inl ⟨sw,rfl⟩⟩
       ·intro b G;cases a0<;>simp[e7]at G
      ·have j7:=ed (size:=J.size) (n:=Io Y) (vals:=g);have i2:(Io I+Io Y)*J.size<=D*J.size:=fH _ O;rw[nR]at i2
       have H:=run_append_room_src (P:=E.P) w t t' ty u i hu F b 0 (Io I) D (.slice a' (Io Y) L) (Io Y) _ (by rw[B];exact C) O
        (λj hj=>by
         have:0+Io I*i.size+j<arr.size:=by rw[B];omega
         simp only[World.cell?,a2,Option.isSome_none,zA,if_false,tB this,F5])
        (λj hj=>by simp[World.frozen?,a2])
       rw[B,ek]at H;have i3:ar ρ id (hp id) b:=⟨by rw[h4];rfl,_,hv,by simp[e7];omega⟩;have hk:∀b',b'<w.heap.size->¬U b'->(w.setCells b (Io I*J.size) (eu J.size (Io Y) g)).heap[b']?=w.heap[b']?:=λb' _ x9=>bX _ _ _ _ _ (λe=>x9 (e▸a9))
       have hs:w.heap.size<=(w.setCells b (Io I*J.size) (eu J.size (Io Y) g)).heap.size:=by rw[jG];exact ae _
       refine⟨_,_,U,_,H,Ef.newVec a7 hn rfl (mv.setCells _ w b _) ?_ ?_ (λ_ _=>Iff.rfl) ?_ ?_,h7⟩
       ·intro b' _ j0;exact bX _ _ _ _ _ (λe=>j0 id _ (by simp;rfl) (e▸i3))
       ·grind
       ·refine⟨Q1 ⟨b,0,Q2⟩,D,by simp[mJ],by simp;unfold aG;omega,.inr ⟨b,T,_,rfl,hc,a9,jE _ w b _ a2,by simp[ie,j3],by simpa using O,?_⟩⟩;intro i' i0 j c h6;simp only[ip]at i0;have hj:j<J.size:=by have:=(dn.1 h6).1;rwa [ac]at this
        have hq:i'*J.size+j<(Io I+Io Y)*J.size:=by
         have:=fH J.size (yY i0);rw[gT]at this;omega
        rw[nR]at hq;simp only[List.getElem?_toArray];rw[lN];by_cases a4:i'<Io I
        ·have j8:i'*J.size+j<Io I*J.size:=by
          have:=fH J.size (yY a4);rw[gT]at this;omega
         rw[if_neg ow];rw[List.getElem_append_left a4]at h6;obtain⟨x,h1,h2⟩:=j2 i' a4 j c h6;exact⟨x,by simpa using h1,h2.mono hs hk (λ_ _ h=>h) (eV hn)⟩
        ·have x4:Io I*J.size<=i'*J.size:=fH _ ow;rw[if_pos (by grind)];rw[List.getElem_append_right ow]at h6;refine⟨g (i'-Io I) j,?_,(hg _ _ j c h6).mono hs hk (λ_ _ h=>h) (eV hn)⟩;rw[show i'*J.size+j-Io I*J.size=(i'-Io I)*J.size+j by rw[Nat.sub_mul];omega];exact yL ow hj
       ·intro b' x9;simp[e7]at x9;simp_all
     ·
      have x0:(Builtin.firstCells i.size (Io I) (.slice a0 (Io I) D)).run E.P w.drew=.ok (eu J.size (Io I) f0).toArray w.drew:=by
       cases a0 with
       | none=>
        have:=x5 rfl;subst this;simp[Builtin.firstCells,eu]
       | some ad=>
        exact run_firstCells_some w.drew i.size (Io I) ad (Io I) D _ (by rw[ed,B]) (λq x hq=>by simpa using x3 ad rfl q x hq)
      have H:=run_append_grow_src (P:=E.P) w t t' ty u i z hu F hz a0 (Io I) D _ x0 (.slice a' (Io Y) L) (Io Y) _ (by rw[B];exact C) ow ow
       (growslice_fits ow (by have:(Io I+Io Y)*i.bytes<=1073741824*131072:=Ga ow M;omega))
      have x4:=grownCap_ge w (Io I+Io Y) D u
      have S:=G8 (w:=w) (U:=U) (ρ:=ρ) (n:=n) (e:=J) (l0:=I) (l':=Y) (elem:=u) (z:=z) (newCap:=grownCap w (Io I+Io Y) D u) (f:=f0) (g:=g) hn
       (by rw[a8,B]) x4 ow h9 i6 hg
      refine⟨_,_,_,_,H,Ef.newVec a7 hn rfl ((mv.drew w).trans (mv.alloc w.drew _ _)) (λb G _=>bq w.drew _ b G) ?_ ?_ S ?_,h7⟩
      ·intro b G;rw[be];rcases G with G|G
       ·have:=x6 b G;exact Nat.lt_succ_of_lt this
       ·rw[G];exact Nat.lt_succ_self _
      ·grind
      ·intro b G;simp[e7]at G;exact .inl ow
    ·simp at h
   ·simp at h
  ·simp at h
 ·simp at h
end
section
variable {P:Program} {w:World} {U:Nat->Prop} {ρ:Nat->Option Value}
theorem sr(a b:zD):((⟨a.toArray⟩:ByteArray)==⟨b.toArray⟩)=(a==b):=by
 show(a.toArray==b.toArray)=(a==b);simp
abbrev ye(es:List (zD×AV)):List Value:=es.map λp=>Value.string ⟨p.1.toArray⟩
theorem G3:∀(es:List (zD×AV))(o:List MapEntry)(s:zD)(i:Nat),o.map (·.key)=ye es->es.any (λp=>p.1==s)=Q4->
  Instr.findNow .string (.string ⟨s.toArray⟩) o i=Q1 Q2
 |[],[],_,_,_,_=>rfl
 |[],_::_,_,_,h,_=>by simp at h
 |_::_,[],_,_,h,_=>by simp at h
 | p::es,e::o,s,i,h,hn=>by
  simp only[ye,iZ,List.cons.injEq]at h;simp only[List.any_cons,Bool.or_eq_false_iff]at hn;have u:(s==p.1)=Q4:=by
   have:=hn.1;simp only[cd,ne_eq]at this⊢;exact λe=>this e.symm
  simp only[Instr.findNow,h.1,Instr.sameNow,sr,u];exact G3 es o s (i+1) h.2 hn.2
theorem G2:∀(es:List (zD×AV))(o:List MapEntry)(s:zD)(i:Nat)(z:Tr fT)(f:fT),o.map (·.key)=ye es->dA w U ρ (es.map (·.2)) (o.map (·.val))->(P6 es s z).val=Q1 f->
  (∃j v B,Instr.findNow .string (.string ⟨s.toArray⟩) o i=Q1 (Q1 (j,v))/\Rv w U ρ B v/\f={val:=B})\/(Instr.findNow .string (.string ⟨s.toArray⟩) o i=Q1 Q2/\z.val=Q1 f)
 |[],[],_,_,_,_,_,_,u=>.inr ⟨rfl,u⟩
 |[],_::_,_,_,_,_,h,_,_=>by simp at h
 |_::_,[],_,_,_,_,h,_,_=>by simp at h
 | p::es,e::o,s,i,z,f,h,hr,u=>by
  simp only[ye,iZ,List.cons.injEq]at h;obtain⟨k,B⟩:=p;simp only[P6,Tr.val]at u;simp only[Instr.findNow,h.1,Instr.sameNow,sr];cases D:s==k with
  | true=>
   rw[D]at u;simp[ret]at u;subst u;exact .inl ⟨i,e.val,B,rfl,hr.rv 0 B e.val rfl rfl,rfl⟩
  | false=>
   rw[D]at u;simp at u;refine G2 es o s (i+1) z f h.2 ⟨by have:=hr.len;simpa using this,λj c v E C=>hr.rv (j+1) c v (by simpa using E) (by simpa using C)⟩ u
theorem mv.allocO(w:World)(o:Obj):mv w (w.alloc o) where
 sz:=by rw[be];omega
 os:=rfl
 out:=rfl
 tape:=rfl
 fr:=λa h=>Ci (bq w _ _ h)
theorem Ef.mkMap{n:Nat}{hp:Nat->AO}{E:AO}(D:E=.fmap []\/∃u,E=.vmap u [])(I:∀b,U b->b<w.heap.size)(G:ρ n=Q2):
  Ef n hp {val:=.mp n,nw:=[E]} w U ρ (.map (Q1 w.heap.size)) (w.alloc (.map #[] 0)) (λb=>U b\/b=w.heap.size) (mJ ρ n (.map (Q1 w.heap.size))):=by
 have H:∀b,b<w.heap.size->(U b\/b=w.heap.size)->U b:=λb z h=>h.elim id (λe=>by omega)
 refine⟨mv.allocO w _,.mp n _ (by simp[mJ]) rfl,sw,?_,?_,eV G,λb z _=>bq w _ b z,?_,λb z h=>H b z h,λb _ h _=>.inl h,?_,?_⟩
 ·intro j o C;cases j with
  |succ j=>simp at C
  | zero=>
   simp at C;subst C;rcases D with rfl|⟨u,rfl⟩
   ·exact⟨w.heap.size,#[],0,by simp[mJ],.inr rfl,cH w _,⟨rfl,sw⟩,rfl⟩
   ·exact⟨w.heap.size,#[],0,by simp[mJ],.inr rfl,cH w _,rfl,sw,rfl,sw⟩
 ·intro id h;unfold mJ;rw[if_neg (by simp at h;omega)]
 ·intro b h;rw[be];grind
 ·rintro id o b (h|⟨h1,h2⟩) ho
  ·simp at h
  ·have J:id-n<1:=by have:=(dn.1 h2).1;simpa using this
   have B:id=n:=by omega
   subst B;obtain⟨_,v,F,z⟩:=ho;simp[mJ]at F;subst F;simp[e7]at z;exact .inl ow
 grind
/-! ZI that are values. -/
def kav(k:Int×Int×zD):AV:=.agg [.int .i64 k.1,.int .i64 k.2.1,.str k.2.2]
theorem Kg{a:AV}{k:Int×Int×zD}(h:Tu a=Q1 k):a=kav k:=by
 unfold Tu at h;split at h
 ·cases h;rfl
 ·cases h
theorem Oc{k:Int×Int×zD}{v:Value}(h:Rv w U ρ (kav k) v):v=dT k/\iX k:=by
 unfold kav at h;cases h with
 |agg _ vs C I o=>
 match vs,C,o with
 | [G,H,v3],_,o=>
  have u:=o 0 _ G rfl rfl;have z:=o 1 _ H rfl rfl;have B:=o 2 _ v3 rfl rfl;cases u with
  |int _ _ D=>
  cases z with
  |int _ _ E=>
  cases B with
  |str _ F=>
  exact⟨rfl,D,E,F⟩
theorem X5{k:Int×Int×zD}(h:iX k):Rv w U ρ (kav k) (dT k):=by
 refine .agg _ [.int .i64 k.1,.int .i64 k.2.1,.string ⟨k.2.2.toArray⟩] rfl (by simp[Value.oneCell']) ?_;intro j c v o u
 match j,o,u with
 |0,o,u=>cases o;cases u;exact .int _ _ h.1
 |1,o,u=>cases o;cases u;exact .int _ _ h.2.1
 |2,o,u=>cases o;cases u;exact .str _ h.2.2
theorem Yt{z:TypeId}(h:nL P z=Q3)(a b:Int×Int×zD):eqA P z (kav a) (kav b)=Q1 (a==b):=by
 unfold nL at h;split at h
 ·rename_i X G;simp only[aE]at h;obtain⟨⟨E,F⟩,o⟩:=h;split at o
  ·rename_i S T W u;simp only[aE,bh,ID,Ob]at o;obtain⟨⟨⟨⟨H,o1⟩,B⟩,⟨⟨I,o2⟩,C⟩⟩,⟨⟨J,o3⟩,D⟩⟩:=o;split at B
   ·rename_i Y L;split at C
    ·rename_i Z M;split at D
     ·rename_i O;simp only[kav,eqA,G,E,F,u,Fy,H,o1,I,o2,J,o3,eqT,L,M,O,beq_self_eq_true,sU,if_true,Bool.and_true];rfl
     ·cases D
    ·cases C
   ·cases B
  ·cases o
 ·cases h
theorem MN{o:TypeId}(h:nL P o=Q3){a b:Int×Int×zD}(u:iX a)(z:iX b):(Op.equal o (dT a) (dT b)).run P w=.ok (a==b) w:=
 (NP (U:=λ_=>False) (ρ:=λ_=>Q2) (Yt h a b) (X5 u) (X5 z) (by intro _ _ _ _ h;cases h) (by intro _ _ h;cases h)).1
theorem dl{E:TypeId}(h:nL P E=Q3)(k:Int×Int×zD)(B:Bool):(Instr.checkKey B 10000 E (dT k)).run P w=.ok () w:=by
 unfold nL at h;split at h
 ·rename_i Y Z;simp only[aE]at h;obtain⟨⟨h1,h2⟩,C⟩:=h;split at C
  ·rename_i o u z D;simp only[aE,bh,ID,Ob]at C;obtain⟨⟨⟨⟨n1,o1⟩,F⟩,⟨⟨n2,o2⟩,G⟩⟩,⟨⟨n3,o3⟩,H⟩⟩:=C;split at F
   ·rename_i k1 I;split at G
    ·rename_i k2 J;split at H
     ·rename_i L;have e:Y=#[o,u,z]:=by apply mz;simpa using D
      subst e;have M:E8 P o.type=Q1 Q4:=by simp[E8,I]
      have O:E8 P u.type=Q1 Q4:=by simp[E8,J]
      have S:E8 P z.type=Q1 Q4:=by simp[E8,L]
      show(Instr.checkKey B (9999+1) E (dT k)).run P w=_;rw[Instr.checkKey.eq_2];have p1:(part o.type #[Value.int .i64 k.1,.int .i64 k.2.1,.string ⟨k.2.2.toArray⟩] o.offset).run P w=.ok (.int .i64 k.1) w:=by simp[part,jV M,o1]
      have p2:(part u.type #[Value.int .i64 k.1,.int .i64 k.2.1,.string ⟨k.2.2.toArray⟩] u.offset).run P w=.ok (.int .i64 k.2.1) w:=by simp[part,jV O,o2]
      have p3:(part z.type #[Value.int .i64 k.1,.int .i64 k.2.1,.string ⟨k.2.2.toArray⟩] z.offset).run P w=.ok (.string ⟨k.2.2.toArray⟩) w:=by simp[part,jV S,o3]
      have T:(Instr.checkKey B (9998+1) o.type (.int .i64 k.1)).run P w=.ok () w:=by
       rw[Instr.checkKey.eq_2];simp[bD I,Result.andThen]
      have W:(Instr.checkKey B (9998+1) u.type (.int .i64 k.2.1)).run P w=.ok () w:=by
       rw[Instr.checkKey.eq_2];simp[bD J,Result.andThen]
      have X:(Instr.checkKey B (9998+1) z.type (.string ⟨k.2.2.toArray⟩)).run P w=.ok () w:=by
       rw[Instr.checkKey.eq_2];simp[bD L,Result.andThen]
      have m1:o.name≠"_":=by simpa using n1
      have m2:u.name≠"_":=by simpa using n2
      have m3:z.name≠"_":=by simpa using n3
      simp[dT,bD Z,Result.andThen,p1,p2,p3,T,W,X,m1,m2,m3]
     ·cases H
    ·cases G
   ·cases F
  ·cases C
 ·cases h
def cw(es:List ((Int×Int×zD)×Int))(k:Int×Int×zD)(i:Nat):Option (Nat×Int):=match es with
 |[]=>Q2
 |p::r=>bif k==p.1 then Q1 (i,p.2)else cw r k (i+1)
abbrev CY(u:Bool)(es:List ((Int×Int×zD)×Int)):List (Value×Value):=es.map λp=>(dT p.1,uX u p.2)
theorem nH{C:TypeId}(h:nL P C=Q3){k:Int×Int×zD}(z:iX k)(u:Bool):∀(es:List ((Int×Int×zD)×Int))(o:List MapEntry)(i:Nat),(o.map λe=>(e.key,e.val))=CY u es->(∀p∈es,cy .i64 p.2/\iX p.1)->
  (Instr.findAsking C (dT k) o i).run P w=.ok ((cw es k i).map λq=>(q.1,uX u q.2)) w
 |[],[],_,_,_=>by simp[Instr.findAsking,cw]
 |[],_::_,_,h,_=>by simp at h
 |_::_,[],_,h,_=>by simp at h
 | p::es,e::o,i,he,ho=>by
  simp only[CY,iZ,List.cons.injEq,cF]at he;obtain⟨⟨D,E⟩,F⟩:=he;have hp:=ho p (uG ..);have G:=nH h z u es o (i+1) F (λq B=>ho q (mO _ B));simp only[Instr.findAsking,D,cI,MN h z hp.2,pJ,cw];cases B:k==p.1
  ·simpa using G
  ·simp[E]
theorem jF{C:TypeId}(h:nL P C=Q3){k:Int×Int×zD}(F:iX k)(u:Bool)(es:List ((Int×Int×zD)×Int))(o:List MapEntry)(D:(o.map λe=>(e.key,e.val))=CY u es)(G:∀p∈es,cy .i64 p.2/\iX p.1):
  (Instr.findKey C (dT k) o).run P w=.ok ((cw es k 0).map λq=>(q.1,uX u q.2)) w:=by
 have B:∃z,P.underlying C=Q1 (.struct z):=by
  unfold nL at h;split at h
  ·rename_i z B;exact⟨z,B⟩
  ·cases h
 obtain⟨z,B⟩:=B;have E:=nH (w:=w) h F u es o 0 D G;cases o with
 | nil=>
  cases es with
  |nil=>simp[Instr.findKey,bD B,Result.andThen,Instr.findNow,cw]
  |cons p r=>simp at D
 | cons e r=>
  have H:Instr.findNow (.struct z) (dT k) (e::r) 0=Q2:=by
   simp only[Instr.findNow];have:Instr.sameNow (.struct z) (dT k) e.key=Q2:=by simp[Instr.sameNow]
   rw[this]
  simp only[Instr.findKey,cI,bD B,pJ,H];exact E
theorem lR:∀{es:List ((Int×Int×zD)×Int)}{k:Int×Int×zD}{i:Nat},cw es k i=Q2->nM es k=Q4/\gB es k=0/\∀x,kG es k x=es++[(k,x)]
 |[],_,_,_=>⟨rfl,rfl,λ_=>rfl⟩
 | p::r,k,i,h=>by
  unfold cw at h;cases o:k==p.1
  ·rw[o]at h;obtain⟨u,z,B⟩:=lR (i:=i+1) (by simpa using h);refine⟨by simpa[nM,o]using u,by simpa[gB,o]using z,λx=>?_⟩;rw[kG,o,B];rfl
  ·rw[o]at h;cases h
theorem lS:∀{es:List ((Int×Int×zD)×Int)}{k:Int×Int×zD}{i j:Nat}{n:Int},cw es k i=Q1 (j,n)->i<=j/\nM es k=Q3/\gB es k=n/\(∃p,es[j-i]?=Q1 p/\p.1=k/\p.2=n)/\∀x,kG es k x=es.set (j-i) (k,x)
 |[],_,_,_,_,h=>by cases h
 | p::r,k,i,j,n,h=>by
  unfold cw at h;cases o:k==p.1
  ·rw[o]at h;obtain⟨F,u,z,⟨q,C,D⟩,B⟩:=lS (i:=i+1) (by simpa using h);have e:j-i=(j-(i+1))+1:=by omega
   refine⟨ow,by simpa[nM]using .inr (by simpa[nM]using u),by simpa[gB,o]using z,⟨q,by rw[e];simpa using C,D⟩,λx=>?_⟩;rw[kG,o,B,e];rfl
  ·rw[o]at h;simp only[af,bH,cF]at h;obtain⟨rfl,rfl⟩:=h;have E:k=p.1:=by simpa using o
   refine⟨ae _,by simp[nM,o],by simp[gB,o],⟨p,sw,E.symm,rfl⟩,λx=>?_⟩;rw[kG,o];simp
theorem tk(k:Int×Int×zD):Instr.sameBits 10000 (dT k) (dT k)=Q3:=by
 show Instr.sameBits (9999+1) (dT k) (dT k)=Q3;simp[dT,Instr.sameBits,sr]
theorem Ef.setMap{n:Nat}{hp:Nat->AO}{id r:Nat}{C u:Array MapEntry}{B o:Nat}{o':AO}(W:ρ id=Q1 (.map (Q1 r)))(_:U r)(F:w.heap[r]?=Q1 (.map C B))(z:(hp id).owns=Q3)
  (Y:bF {w with heap:=w.heap.setIfInBounds r (.map u o)} U ρ id o') (Z:∀b,U b->b<w.heap.size) {M:AV} {O:Value} (I:Rv {w with heap:=w.heap.setIfInBounds r (.map u o)} U ρ M O):
  Ef n hp {val:=M,wr:=[(id,o')]} w U ρ O {w with heap:=w.heap.setIfInBounds r (.map u o)} U ρ:=by
 obtain⟨S,T⟩:=Cm (o':=Obj.map u o) F;have L:r<w.heap.size:=(ea.1 F).1;have H:ar ρ id (hp id) r:=⟨z,_,W,rfl⟩;refine⟨⟨sw,rfl,rfl,rfl,?_⟩,I,?_,sw,λ_ _=>rfl,λ_ _ h=>h,?_,?_,λ_ _ h=>h,λ_ _ h _=>h,?_,?_⟩
 ·intro a _;by_cases D:a.block=r
  ·unfold World.frozen?;simp only[D,S,F]
  ·exact Ci (T a.block D)
 ·simp_all
 ·grind
 ·simp_all
 ·rintro J h0 b (E|⟨_,E⟩) G
  ·simp only[eD,cF]at E;obtain⟨rfl,rfl⟩:=E;refine .inr ⟨J,_,eD.2 rfl,?_⟩;obtain⟨_,v,hv,X⟩:=G;exact⟨z,v,hv,X⟩
  ·simp at E
 simp_all
theorem zbW{u:Bool}{a:AV}{n:Int}{v:Value}(h:ziN u a=Q1 n)(o:Rv w U ρ a v):v=uX u n/\cy .i64 n:=by
 unfold ziN at h;split at h
 ·cases h;cases o with
  |int _ _ z=>exact⟨rfl,z⟩
 ·cases h;cases o with
  |agg _ vs B z o=>
  match vs,B with
  |[],_=>exact⟨rfl,by unfold cy;decide⟩
 ·cases h
theorem lY.push{u:Array MapEntry}{o:Nat}(h:lY u o)(k v:Value):lY (u.push {key:=k,val:=v,born:=o}) (o+1):=by
 refine⟨by simp[h.1],λi e z=>?_⟩;rw[Array.getElem?_push]at z;split at z
 ·rename_i B;cases z;rw[B];exact h.1
 ·exact h.2 i e z
theorem lY.modify{u:Array MapEntry}{o:Nat}(h:lY u o)(j:Nat)(f:MapEntry->MapEntry)(C:∀e,(f e).born=e.born):lY (u.modify j f) o:=by
 refine⟨by simp[h.1],λi e z=>?_⟩;rw[uF]at z;split at z
 ·cases B:u[i]? with
  |none=>rw[B]at z;simp at z
  | some e0=>
   rw[B]at z;simp at z;subst z;rw[C];exact h.2 i e0 B
 ·exact h.2 i e z
theorem Al{n:Nat}{hp:Nat->AO}{t:TypeId}{am ak ax:AV}{vm vk Y:Value}{f:fT}{fp:List Nat}(h:(vl P hp t am ak ax).val=some f)
  (hm:Rv w U ρ am vm) (hk:Rv w U ρ ak vk) (hx:Rv w U ρ ax Y) (x4:∀b,U b->b<w.heap.size) (h9:HY w U ρ hp fp) (x0:∀id∈am.ids,id∈fp):
  ∃w',(Instr.mapUpdate t vm vk Y).run P w=.ok () w'/\Ef n hp f w U ρ undef w' U ρ/\∀id o,(id,o)∈f.wr->id∈fp:=by
 unfold vl at h;split at h
 ·rename_i kt et ht;split at h
  ·rename_i x2;split at h
   ·rename_i id s;have W:=x0 id (by simp[AV.ids]);have ho:=h9.ob id W;split at h
    ·rename_i es D;simp only[Tr.val]at h;split at h
     ·rename_i H;simp only[sT]at H;simp only[bH]at h;subst h;rw[D]at ho;obtain⟨r,B,z,M,Z,C,h4,h5⟩:=ho;cases hm with
      |mp _ _ F _=>
      rw[M]at F;cases F;cases hk with
      |str _ hs=>
      have hf:=G3 es B.toList s 0 h5 H;obtain⟨e1,e2⟩:=Cm (o':=Obj.map (B.push {key:=.string ⟨s.toArray⟩,val:=Y,born:=z}) (z+1)) C;have a2:r<w.heap.size:=(ea.1 C).1;have I:ar ρ id (hp id) r:=⟨by rw[D];rfl,_,M,rfl⟩;have x1:∀b',b'<w.heap.size->¬U b'->(w.heap.setIfInBounds r (Obj.map (B.push {key:=.string ⟨s.toArray⟩,val:=Y,born:=z}) (z+1)))[b']?=w.heap[b']?:=λb' _ x5=>e2 b' (λe=>x5 (e▸Z))
      refine⟨{w with heap:=w.heap.setIfInBounds r (.map (B.push {key:=.string ⟨s.toArray⟩,val:=Y,born:=z}) (z+1))},?_,?_,?_⟩
      ·simp[Instr.mapUpdate,bD ht,lc C,KB x2 (k:=.string ⟨s.toArray⟩) trivial,KC x2 hf,yV _ C,Result.andThen]
      ·refine⟨⟨sw,rfl,rfl,rfl,?_⟩,.tup [] [] rfl sw,?_,sw,λ_ _=>rfl,λ_ _ h=>h,?_,?_,λ_ _ h=>h,λ_ _ h _=>h,?_,?_⟩
       ·intro a _;by_cases h7:a.block=r
        ·unfold World.frozen?;simp only[h7,e1,C]
        ·exact Ci (e2 a.block h7)
       ·intro E o' L;simp only[eD,cF]at L;obtain⟨rfl,rfl⟩:=L;refine⟨r,_,_,M,Z,e1,?_,?_⟩
        ·have G:dA {w with heap:=w.heap.setIfInBounds r (.map (B.push {key:=.string ⟨s.toArray⟩,val:=Y,born:=z}) (z+1))} U ρ (es.map (·.2)) (B.toList.map (·.val)):=
          h4.mono sw x1 (λ_ _ h=>h) (λ_ _ h=>h)
         have a6:Rv {w with heap:=w.heap.setIfInBounds r (.map (B.push {key:=.string ⟨s.toArray⟩,val:=Y,born:=z}) (z+1))} U ρ ax Y:=
          hx.mono sw x1 (λ_ _ h=>h) (λ_ _ h=>h)
         refine⟨by have:=G.len;simp at this⊢;exact this,λj c v hc F=>?_⟩;simp only[gD,iZ,Co,Array.toList_push]at hc F;by_cases hj:j<(es.map (·.2)).length
         ·rw[mR hj]at hc;rw[mR (by rw[<-G.len];exact hj)]at F;exact G.rv j c v hc F
         ·rw[pq ow]at hc;rw[pq (by rw[<-G.len];omega),<-G.len]at F;grind
        simp_all
       ·grind
       ·simp_all
       ·rintro E o' b (L|⟨_,L⟩) x9
        ·simp only[eD,cF]at L;obtain⟨rfl,rfl⟩:=L;refine .inr ⟨E,_,eD.2 rfl,?_⟩;obtain⟨_,v,F,hb⟩:=x9;exact⟨by rw[D];rfl,v,F,hb⟩
        ·simp at L
       simp_all
      simp_all
     ·cases h
    ·simp at h
   ·simp at h
  ·split at h
   ·rename_i h6;split at h
    ·rename_i id v hvk2;have W:=x0 id (by simp[AV.ids]);have ho:=h9.ob id W;split at h
     ·rename_i u es D;split at h
      ·rename_i nn x8;simp only[Tr.val_ok,bH]at h;subst h;rw[D]at ho;obtain⟨r,B,z,M,Z,C,h4,h5⟩:=ho;cases hm with
       |mp _ _ F _=>
       rw[M]at F;cases F;rw[Kg hvk2]at hk;obtain⟨rfl,x7⟩:=Oc hk;obtain⟨rfl,a4⟩:=zbW x8 hx;have T:=jF (w:=w) h6 x7 u es B.toList h4 h5.1;have I:(hp id).owns=Q3:=by rw[D];rfl
       have X:∀E o',(E,o')∈[(id,AO.vmap u (kG es v nn))]->E∈fp:=by
        intro E o' L;simp only[eD,cF]at L;rw[L.1];exact W
       cases S:cw es v 0 with
       | none=>
        rw[S]at T;obtain⟨_,_,J⟩:=lR S;refine⟨{w with heap:=w.heap.setIfInBounds r (.map (B.push {key:=dT v,val:=uX u nn,born:=z}) (z+1))},?_,?_,X⟩
        ·simp[Instr.mapUpdate,bD ht,lc C,dl h6,T,yV _ C,Result.andThen]
        ·refine Ef.setMap M Z C I ?_ x4 (.tup [] [] rfl sw);refine⟨r,_,_,M,Z,(Cm C).1,?_,?_,h5.2.push _ _⟩
         ·simp_all
         grind
       | some q=>
        obtain⟨j,m⟩:=q;rw[S]at T;obtain⟨_,_,_,⟨p,x3,a0,a5⟩,J⟩:=lS S;rw[Nat.sub_zero]at x3 J;have h8:∃e,B.toList[j]?=Q1 e/\e.key=dT v:=by
         have:(B.toList.map λe=>(e.key,e.val))[j]?=Q1 (dT p.1,uX u p.2):=by
          rw[h4];simp[x3]
         rw[eL,eB]at this;obtain⟨e,h0,O⟩:=this;simp only[cF]at O;exact⟨e,h0,by rw[O.1,a0]⟩
        obtain⟨e,h0,O⟩:=h8;have x6:B[j]?=Q1 e:=by rw[<-sS];exact h0
        refine⟨{w with heap:=w.heap.setIfInBounds r (.map (B.modify j λe=>{e with key:=dT v,val:=uX u nn}) z)},?_,?_,X⟩
        ·have a1:(Instr.keyThatStays (dT v) (dT v)).run P w=.ok (dT v) w:=by
          simp[Instr.keyThatStays,tk]
         simp[Instr.mapUpdate,bD ht,lc C,dl h6,T,x6,O,a1,yV _ C,Result.andThen]
        ·refine Ef.setMap M Z C I ?_ x4 (.tup [] [] rfl sw);refine⟨r,_,_,M,Z,(Cm C).1,?_,?_,h5.2.modify _ _ (λ_=>rfl)⟩
         ·rw[J];apply Cl;intro q;have a3:(B.toList.map λe=>(e.key,e.val))[q]?=(CY u es)[q]?:=by rw[h4]
          grind
         grind
      ·simp at h
     ·simp at h
    ·simp at h
   ·simp at h
  ·simp at h
 ·simp at h
theorem Df:∀(es:List (zD×AV))(o:List MapEntry)(s:zD)(i:Nat)(z:Tr fT)(f:fT),o.map (·.key)=ye es->dA w U ρ (es.map (·.2)) (o.map (·.val))->(IL es s z).val=Q1 f->
  (∃j v B,Instr.findNow .string (.string ⟨s.toArray⟩) o i=Q1 (Q1 (j,v))/\Rv w U ρ B v/\f={val:=.tup [B,.kb Q3]})\/(Instr.findNow .string (.string ⟨s.toArray⟩) o i=Q1 Q2/\z.val=Q1 f)
 |[],[],_,_,_,_,_,_,u=>.inr ⟨rfl,u⟩
 |[],_::_,_,_,_,_,h,_,_=>by simp at h
 |_::_,[],_,_,_,_,h,_,_=>by simp at h
 | p::es,e::o,s,i,z,f,h,hr,u=>by
  simp only[ye,iZ,List.cons.injEq]at h;obtain⟨k,B⟩:=p;simp only[IL,Tr.val]at u;simp only[Instr.findNow,h.1,Instr.sameNow,sr];cases D:s==k with
  | true=>
   rw[D]at u;simp[ret]at u;subst u;exact .inl ⟨i,e.val,B,rfl,hr.rv 0 B e.val rfl rfl,rfl⟩
  | false=>
   rw[D]at u;simp at u;refine Df es o s (i+1) z f h.2 ⟨by have:=hr.len;simpa using this,λj c v E C=>hr.rv (j+1) c v (by simpa using E) (by simpa using C)⟩ u
theorem si{a b:AV}{x y:Value}(h:Rv w U ρ a x)(o:Rv w U ρ b y):Rv w U ρ (.tup [a,b]) (.tuple #[x,y]):=by
 refine .tup _ [x,y] rfl ?_;grind
theorem qR{u:TypeId}{z:AV}(h:wY P u=Q1 z):∃i zv,P.info? u=Q1 i/\i.zero=Q1 zv/\z=Cf zv:=by
 unfold wY at h;split at h
 ·rename_i i o;simp only[eB]at h;grind
 ·cases h
theorem T7{zv:Value}{k:IntKind}{n:Int}(h:Ky zv=.int k n):zv=.int k n:=by
 unfold Ky at h;grind
theorem Kz{zv:Value}{k:IntKind}{n:Int}(h:Cf zv=.int k n):zv=.int k n:=by
 unfold Cf at h;split at h
 ·split at h<;>cases h
 ·exact T7 h
theorem RK{zv:Value}{cs:List AV}(h:Cf zv=.agg cs)(u:cs.isEmpty=Q3):zv=.agg #[]:=by
 unfold Cf at h;split at h
 ·rename_i o;split at h
  ·simp_all
  ·cases h
 ·unfold Ky at h;grind
theorem Lh{hp:Nat->AO}{t:TypeId}{ax ai:AV}{vx vi:Value}{two:Bool}{f:fT}(h:(lr P hp t ax ai two).val=some f)(hx:Rv w U ρ ax vx)(hi:Rv w U ρ ai vi)(Z:∀id∈ax.ids,bF w U ρ id (hp id)):
  ∃r v,f={val:=r}/\(Instr.lookup t vx vi two).run P w=.ok v w/\Rv w U ρ r v:=by
 unfold lr at h;split at h
 ·rename_i kt et T;split at h
  ·rename_i C;split at h
   ·rename_i id s;have Y:=Z id (by simp[AV.ids]);split at h
    ·rename_i es M;rw[M]at Y;obtain⟨r,E,J,h1,h2,L,h4,h5⟩:=Y;cases hx with
     |mp _ _ hv _=>
     rw[h1]at hv;cases hv;cases hi with
     |str _ hs=>
     cases two with
     | false=>
      simp only[zA,if_false]at h;rcases G2 es E.toList s 0 _ f h5 h4 h with⟨j,v,av,O,hr,rfl⟩|⟨O,F⟩
      ·refine⟨av,v,rfl,?_,hr⟩;simp[Instr.lookup,bD T,lc L,KB C (k:=.string ⟨s.toArray⟩) trivial,KC C O,Result.andThen]
      ·simp at F;obtain⟨z,F,rfl⟩:=F;obtain⟨i,zv,o,B,rfl⟩:=qR F;refine⟨_,zv,rfl,?_,qY zv⟩;simp[Instr.lookup,bD T,lc L,KB C (k:=.string ⟨s.toArray⟩) trivial,KC C O,Result.andThen,zeroValue,typeInfo,o,B]
     | true=>
      simp only[if_true]at h;rcases Df es E.toList s 0 _ f h5 h4 h with⟨j,v,av,O,hr,rfl⟩|⟨O,F⟩
      ·refine⟨_,.tuple #[v,.bool Q3],rfl,?_,si hr (.kb Q3)⟩;simp[Instr.lookup,bD T,lc L,KB C (k:=.string ⟨s.toArray⟩) trivial,KC C O,Result.andThen]
      ·unfold zev at F;split at F
       ·rename_i z h7;simp[ret]at F;subst F;obtain⟨i,zv,o,B,rfl⟩:=qR h7;refine⟨_,.tuple #[zv,.bool Q4],rfl,?_,si (qY zv) (.kb Q4)⟩;simp[Instr.lookup,bD T,lc L,KB C (k:=.string ⟨s.toArray⟩) trivial,KC C O,Result.andThen,zeroValue,typeInfo,o,B]
       ·simp at F
    ·simp at h
   ·simp at h
  ·split at h
   ·rename_i S;split at h
    ·rename_i id v hvk2;have Y:=Z id (by simp[AV.ids]);split at h
     ·rename_i u es M;rw[M]at Y;obtain⟨r,E,J,h1,h2,L,h4,h5⟩:=Y;cases hx with
      |mp _ _ hv _=>
      rw[h1]at hv;cases hv;rw[Kg hvk2]at hi;obtain⟨rfl,h6⟩:=Oc hi;have H:=jF (w:=w) S h6 u es E.toList h4 h5.1
      have I:∀(i:TypeInfo)(zv:Value),P.info? et=Q1 i->i.zero=Q1 zv->zv=uX u 0->
        (Instr.lookup t (.map (Q1 r)) (dT v) two).run P w=.ok (ite two (.tuple #[uX u (gB es v),.bool (nM es v)]) (uX u (gB es v))) w:=by
       intro i zv o B G;subst G;cases D:cw es v 0 with
       | none=>
        rw[D]at H;obtain⟨e1,e2,_⟩:=lR D;cases two<;>simp[Instr.lookup,bD T,lc L,dl S,H,Result.andThen,zeroValue,typeInfo,o,B,e1,e2]
       | some q=>
        obtain⟨j,m⟩:=q;rw[D]at H;obtain⟨_,e1,e2,_,_⟩:=lS D;cases two<;>simp[Instr.lookup,bD T,lc L,dl S,H,Result.andThen,e1,e2]
      have X:cy .i64 (gB es v):=by
       cases D:cw es v 0 with
       |none=>rw[(lR D).2.1];unfold cy;decide
       | some q=>
        obtain⟨j,m⟩:=q;obtain⟨_,_,e2,⟨p,hp,_,h8⟩,_⟩:=lS D;grind
      split at h
      ·rename_i z F;split at h
       ·rename_i hc;obtain⟨rfl,rfl⟩:=hc;obtain⟨i,zv,o,B,G⟩:=qR F;have:=Kz G.symm;subst this;simp[ret]at h;subst h;refine⟨_,_,rfl,I i _ o B rfl,?_⟩;cases two
        ·exact .int _ _ X
        ·exact si (.int _ _ X) (.bool _)
       ·simp at h
      ·rename_i cs F;split at h
       ·rename_i hc;obtain⟨rfl,h0⟩:=hc;obtain⟨i,zv,o,B,G⟩:=qR F;have:=RK G.symm h0;subst this;simp[ret]at h;subst h;have W:Rv w U ρ (.agg []) (.agg #[]):=.agg [] [] rfl sw sw;refine⟨_,_,rfl,I i _ o B rfl,?_⟩;cases two
        ·exact W
        ·exact si W (.bool _)
       ·simp at h
      ·simp at h
     ·simp at h
    ·simp at h
   ·simp at h
  ·simp at h
 ·simp at h
theorem yT:∀{es:List ((Int×Int×zD)×Int)}{k:Int×Int×zD}{i:Nat},(cw es k i=Q2->lT es k=Io es)/\∀j n,cw es k i=Q1 (j,n)->j=i+lT es k
 |[],k,i=>⟨λ_=>rfl,λj n h=>by cases h⟩
 | p::r,k,i=>by
  obtain⟨o,u⟩:=yT (es:=r) (k:=k) (i:=i+1);unfold cw lT;grind
theorem Ro:∀(es:List ((Int×Int×zD)×Int))(k:Int×Int×zD),lT es k<=Io es
 |[],_=>ae _
 | p::r,k=>by
  have:=Ro r k;unfold lT;grind
theorem NU{n:Nat}{hp:Nat->AO}{t:TypeId}{am ak:AV}{vm vk:Value}{f:fT}{fp:List Nat}(h:(vj P hp t am ak).val=some f)
  (hm:Rv w U ρ am vm) (hk:Rv w U ρ ak vk) (x0:∀b,U b->b<w.heap.size) (x1:HY w U ρ hp fp) (x2:∀id∈am.ids,id∈fp):
  ∃v w',(Instr.mapEntry t vm vk).run P w=.ok v w'/\Ef n hp f w U ρ v w' U ρ/\∀id o,(id,o)∈f.wr->id∈fp:=by
 unfold vj at h;split at h
 ·rename_i kt et ht;split at h
  ·rename_i T;split at h
   ·rename_i id v hvk2;have h7:=x2 id (by simp[AV.ids]);have ho:=x1.ob id h7;split at h
    ·rename_i es h0;split at h
     ·rename_i z hz;split at h
      ·rename_i x6;subst x6;simp only[Tr.val]at h;split at h
       ·rename_i I;have I:Io es<=1073741824:=lZ I;simp only[bH]at h;subst h;rw[h0]at ho;obtain⟨r,B,u,X,h2,G,h4,H⟩:=ho;cases hm with
        |mp _ _ hv _=>
        rw[X]at hv;cases hv;rw[Kg hvk2]at hk;obtain⟨rfl,h9⟩:=Oc hk;obtain⟨i0,zv,O,x7,x8⟩:=qR hz;have:=Kz x8.symm;subst this;have F:=jF (w:=w) T h9 Q4 es B.toList h4 H.1;have J:(hp id).owns=Q3:=by rw[h0];rfl
        have h6:B.size=Io es:=by have:=congrArg Io h4;simpa using this
        have L:∀W o',(W,o')∈[(id,AO.vmap Q4 (jZ es v))]->W∈fp:=by
         intro W o' h';simp only[eD,cF]at h';rw[h'.1];exact h7
        have h8:cy .i64 (lT es v:Int):=by
         have:=Ro es v;unfold cy;exact⟨by show(-9223372036854775808:Int)<=_;omega,by show _<=(9223372036854775807:Int);omega⟩
        cases D:cw es v 0 with
        | none=>
         rw[D]at F;obtain⟨e1,e2,_⟩:=lR D;have e3:=(yT (es:=es) (k:=v) (i:=0)).1 D;have C:jZ es v=es++[(v,0)]:=by simp[jZ,e1]
         refine⟨.tuple #[.int .i64 0,goInt u],{w with heap:=w.heap.setIfInBounds r (.map (B.push {key:=dT v,val:=.int .i64 0,born:=u}) (u+1))},?_,?_,L⟩
         ·simp[Instr.mapEntry,bD ht,lc G,dl T,F,yV _ G,Result.andThen,zeroValue,typeInfo,O,x7]
         ·refine Ef.setMap X h2 G J ?_ x0 ?_
          ·refine⟨r,_,_,X,h2,(Cm G).1,?_,?_,H.2.push _ _⟩
           ·rw[C];simp only[Array.toList_push,gD,h4,iZ,Co];rfl
           ·rw[C];intro p hp;rcases cJ.1 hp with hp|hp
            ·exact H.1 p hp
            ·simp at hp;subst hp;exact⟨(show cy .i64 0 by unfold cy;decide),h9⟩
          ·rw[e2];have hc:goInt u=.int .i64 (lT es v:Int):=by rw[e3,H.2.1,h6];rfl
           rw[hc];exact si (.int _ _ (by unfold cy;decide)) (.int _ _ h8)
        | some q=>
         obtain⟨j,m⟩:=q;rw[D]at F;obtain⟨_,e1,e2,⟨p,S,x3,x4⟩,_⟩:=lS D;have e3:=(yT (es:=es) (k:=v) (i:=0)).2 j m D;rw[ek]at e3;rw[Nat.sub_zero]at S;have C:jZ es v=es:=by simp[jZ,e1]
         have Z:∃e,B.toList[j]?=Q1 e/\e.key=dT v:=by
          have:(B.toList.map λe=>(e.key,e.val))[j]?=Q1 (dT p.1,uX Q4 p.2):=by
           rw[h4];simp[S]
          rw[eL,eB]at this;obtain⟨e,M,E⟩:=this;simp only[cF]at E;exact⟨e,M,by rw[E.1,x3]⟩
         obtain⟨e,M,E⟩:=Z;have Y:B[j]?=Q1 e:=by rw[<-sS];exact M
         have x5:(Instr.keyThatStays (dT v) (dT v)).run P w=.ok (dT v) w:=by
          simp[Instr.keyThatStays,tk]
         refine⟨.tuple #[.int .i64 m,goInt e.born],{w with heap:=w.heap.setIfInBounds r (.map (B.modify j λe=>{e with key:=dT v}) u)},?_,?_,L⟩
         ·simp[Instr.mapEntry,bD ht,lc G,dl T,F,Y,E,x5,yV _ G,Result.andThen,uX]
         ·refine Ef.setMap X h2 G J ?_ x0 ?_
          ·refine⟨r,_,_,X,h2,(Cm G).1,?_,by rw[C];exact H.1,H.2.modify _ _ (λ_=>rfl)⟩;rw[C];apply Cl;grind
          ·rw[e2];have hc:goInt e.born=.int .i64 (lT es v:Int):=by rw[H.2.2 j e Y,e3];rfl
           rw[hc];have hm:cy .i64 m:=by rw[<-x4];exact(H.1 p (pI S)).1
           exact si (.int _ _ hm) (.int _ _ h8)
       ·cases h
      ·simp at h
     ·simp at h
    ·simp at h
   ·simp at h
  ·simp at h
 ·simp at h
theorem uC:∀(es:List ((Int×Int×zD)×Int))(n:Nat)(x:Int)(p:(Int×Int×zD)×Int),es[n]?=Q1 p->ko es n x=es.set n (p.1,x)
 |[],_,_,_,h=>by simp at h
 |q::r,0,x,p,h=>by simp at h;subst h;rfl
 | q::r,n+1,x,p,h=>by
  rw[ko,uC r n x p (by simpa using h)];rfl
theorem AW{n:Nat}{hp:Nat->AO}{t:TypeId}{I D Z:AV}{vm vs vx:Value}{f:fT}{J:List Nat}(h:(ol hp I D Z).val=Q1 f)
  (hm:Rv w U ρ I vm) (hs:Rv w U ρ D vs) (hx:Rv w U ρ Z vx) (Y:∀b,U b->b<w.heap.size) (S:HY w U ρ hp J) (W:∀id∈I.ids,id∈J):
  ∃w',(Instr.entryStore t vm vs vx).run P w=.ok () w'/\Ef n hp f w U ρ undef w' U ρ/\∀id o,(id,o)∈f.wr->id∈J:=by
 unfold ol at h;split at h
 ·rename_i id nn yy;have T:=W id (by simp[AV.ids]);have ho:=S.ob id T;split at h
  ·rename_i es E;simp only[Tr.val]at h;split at h
   ·rename_i F;obtain⟨h6,h7⟩:=mf.1 F;simp only[bH]at h;subst h;rw[E]at ho;obtain⟨r,u,C,L,h2,H,h4,M⟩:=ho;cases hm with
    |mp _ _ hv _=>
    rw[L]at hv;cases hv;cases hs;cases hx with
    |int _ _ hy=>
    have G:(hp id).owns=Q3:=by rw[E];rfl
    have h0:u.size=Io es:=by have:=congrArg Io h4;simpa using this
    have B:nn.toNat<u.size:=by omega
    have O:u.findIdx? (λe=>(e.born:Int)==nn)=Q1 nn.toNat:=by
     rw[Array.findIdx?_eq_some_iff_getElem];refine⟨B,?_,λj hj=>?_⟩
     ·have:=M.2.2 nn.toNat u[nn.toNat] (tB B);grind
     ·have:=M.2.2 j (u[j]'ow) (tB ow);grind
    obtain⟨p,hp⟩:∃p,es[nn.toNat]?=Q1 p:=⟨es[nn.toNat]'ow,zU ow⟩;refine⟨{w with heap:=w.heap.setIfInBounds r (.map (u.modify nn.toNat λe=>{e with val:=.int .i64 yy}) C)},?_,?_,?_⟩
    ·simp[Instr.entryStore,lc H,asInt,asIntOf,O,yV _ H,Result.andThen]
    ·refine Ef.setMap L h2 H G ?_ Y (.tup [] [] rfl sw);refine⟨r,_,_,L,h2,(Cm H).1,?_,?_,M.2.modify _ _ (λ_=>rfl)⟩
     ·rw[uC es _ yy p hp];apply Cl;intro q;have z:(u.toList.map λe=>(e.key,e.val))[q]?=(CY Q4 es)[q]?:=by rw[h4]
      simp only[eL,sS,uF,yX,CY]at z⊢;by_cases hq:nn.toNat=q
      ·subst hq;have X:nn.toNat<Io es:=by omega
       rw[tB B,hp]at z;simp only[yZ,bH,cF]at z;simp[tB B,X,z.1,uX]
      simp_all
     ·rw[uC es _ yy p hp];grind
    simp_all
   ·cases h
  ·simp at h
 ·simp at h
theorem Ef.frz{n:Nat}{hp:Nat->AO}{ids:List Nat}{r:AV}{v:Value}(I:∀b,U b->b<w.heap.size)(F:∀j∈ids,py (hp j)=Q3)
  (H:∀j∈ids,bF w U ρ j (hp j)) (B:Rv w (λb=>U b/\¬∃j∈ids,ar ρ j (hp j) b) ρ r v):
  Ef n hp {val:=r,wr:=gy hp ids} w U ρ v w (λb=>U b/\¬∃j∈ids,ar ρ j (hp j) b) ρ:=by
 generalize D:(λb=>U b/\¬∃j∈ids,ar ρ j (hp j) b)=L at B⊢;have z:∀b,L b->U b:=λb h=>by rw[<-D]at h;exact h.1
 have G:∀j∈ids,∀b,ar ρ j (hp j) b->¬L b:=λj M b E h=>by grind
 have J:∀id o b,(id,o)∈gy hp ids->ar ρ id o b->False:=by
  intro id o b h E;obtain⟨u,rfl⟩:=dq h;rw[ar,qf (F id u)]at E;simp at E
 refine⟨mv.refl w,B,?_,sw,λ_ _=>rfl,λ_ _ h=>h,λ_ _ _=>rfl,λC h=>I C (z C h),λC _ h=>z C h,?_,?_,?_⟩
 ·intro id o h;obtain⟨u,rfl⟩:=dq h;exact rp (H id u) (F id u) z (G id u)
 ·intro C _ h O;rw[<-D];exact⟨h,λ⟨j,M,E⟩=>O j _ (rq M) E⟩
 ·simp_all
 simp_all
theorem Li{n:Nat}{hp:Nat->AO}{t:TypeId}{X:AV}{vx:Value}{lo Z mx:Option AV}{vlo vhi vmx:Option Value}{f:fT}{fp:List Nat}(h:(Db P hp t X lo Z mx).val=Q1 f)
  (hx:Rv w U ρ X vx) (F:∀a v,lo=Q1 a->vlo=Q1 v->Rv w U ρ a v) (E:∀a v,Z=Q1 a->vhi=Q1 v->Rv w U ρ a v)
  (G:∀a v,mx=Q1 a->vmx=Q1 v->Rv w U ρ a v) (I:lo.isSome=vlo.isSome) (H:Z.isSome=vhi.isSome) (J:mx.isSome=vmx.isSome)
  (C:∀b,U b->b<w.heap.size) (Y:HY w U ρ hp fp) (h3:∀id∈X.ids,id∈fp):
  ∃v U',(Instr.sliceAt t vx vlo vhi vmx).run P w=.ok v w/\Ef n hp f w U ρ v w U' ρ/\∀id o,(id,o)∈f.wr->id∈fp:=by
 unfold Db at h;split at h
 ·rename_i id;have M:=h3 id (by simp[AV.ids]);have W:=Y.ob id M;split at h
  ·rename_i e l B;simp only[Tr.val_bind,gq]at h;obtain⟨f0,h0,h1⟩:=h;simp only[Tr.val_ok,bH]at h1;subst h1;have z:∀b,(U b/\¬∃j∈[id],ar ρ j (hp j) b)->U b:=λb hb=>hb.1
   have h5:Rv w (λb=>U b/\¬∃j∈[id],ar ρ j (hp j) b) ρ (.sl e l) vx:=
    A8 (hp:=hp) (e:=e) (c:=.vec id) (by simp[xj,B]) hx z (λj T=>by simp[cU]at T;subst T;exact W)
     (λj T b hb hU=>by simp[cU]at T;simp_all)
   obtain⟨r,x,rfl,u,O⟩:=tW (w:=w) (U:=λb=>U b/\¬∃j∈[id],ar ρ j (hp j) b) (ρ:=ρ) (vlo:=vlo) (vhi:=vhi) (vmx:=vmx) h0 h5
    (λa v L D=>(F a v L D).weak z) (λa v L D=>(E a v L D).weak z) (λa v L D=>(G a v L D).weak z) I H J
   refine⟨x,_,u,Ef.frz C (by simp[B,py]) (by simp;exact W) O,λh6 o' h'=>?_⟩;obtain⟨h2,_⟩:=dq h';simp at h2;rw[h2];exact M
  ·rename_i e l B;rw[B]at W;obtain⟨v',S,h4⟩:=W;cases hx with
   |vec _ _ D _=>
   rw[D]at S;cases S;obtain⟨r,x,rfl,u,O⟩:=tW (w:=w) (U:=U) (ρ:=ρ) (vlo:=vlo) (vhi:=vhi) (vmx:=vmx) h h4 F E G I H J;exact⟨x,U,u,Ef.pure C O,sw⟩
  ·simp at h
 ·obtain⟨r,x,rfl,u,O⟩:=tW (w:=w) (U:=U) (ρ:=ρ) (vlo:=vlo) (vhi:=vhi) (vmx:=vmx) h hx F E G I H J;exact⟨x,U,u,Ef.pure C O,sw⟩
end
end Cad
