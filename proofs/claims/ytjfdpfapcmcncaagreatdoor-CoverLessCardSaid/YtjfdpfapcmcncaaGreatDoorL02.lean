/- What each operation says: cuts; and those that touch memory. What each operation says: stores, slices that are built, appends. -/
import Derived.Test.YtjfdpfapcmcncaaGreatDoorL01
import Derived.MapKept
namespace Cad
open Go
open Bool renaming false→Q4,true→Q3
open Option renaming none→Q2,some→Q1
open Tr (chk br)
open AV (nils agg tup ptr kb str sl)
section
variable {P:Program} {w:World} {U:Nat->Prop} {ρ:Nat->Option Value}
theorem lA{k:IntKind}{i:Int}{y:Nat}(code:BoundsCode)(h0:0<=i)(h1:i<=y):(Instr.sliceBound (.int k i) y code).run P w=.ok i.toNat w:=by
 simp[Instr.sliceBound,asIntOf,h0,h1]
theorem LO(s:zB)(l h:Nat):(⟨s.toArray⟩:ByteArray).extract l h=⟨((s.drop l).take (h-l)).toArray⟩:=by
 apply ByteArray.ext;simp[List.extract_eq_take_drop]
theorem BK{av:AV}{v:Value}{k:Int}(h:pu av=Q1 k)(hr:Rv w U ρ av v):∃ik,v=.int ik k:=by
 unfold pu at h;split at h
 ·cases h;cases hr;exact⟨_,rfl⟩
 ·cases h
theorem Fj{isS:Bool}{len cap:Nat}{lo hi:Option AV}{vlo vhi:Option Value}{l h:Int}
  (hl:(match lo with|none=>Q1 0|some a=>pu a)=Q1 l) (hh:(match hi with|none=>Q1 (len:Int)|some a=>pu a)=Q1 h)
  (rlo:∀a v,lo=Q1 a->vlo=Q1 v->Rv w U ρ a v) (rhi:∀a v,hi=Q1 a->vhi=Q1 v->Rv w U ρ a v)
  (slo:lo.isSome=vlo.isSome) (shi:hi.isSome=vhi.isSome) (h0:0<=l) (h1:l<=h) (h2:h<=len) (h3:len<=cap):
  (Instr.sliceBounds isS len cap vlo vhi Q2).run P w=.ok (l.toNat,h.toNat,cap) w:=by
 cases hi with
 | none=>
  cases vhi with
  |some v=>simp at shi
  |none=>
  simp at hh;subst hh;cases lo with
  | none=>
   cases vlo with
   |some v=>simp at slo
   |none=>simp at hl;subst hl;simp[Instr.sliceBounds]
  | some a=>
   cases vlo with
   |none=>simp at slo
   | some v=>
    obtain⟨ik,rfl⟩:=BK hl (rlo _ _ rfl rfl);simp[Instr.sliceBounds,lA _ h0 h1]
 | some b=>
  cases vhi with
  |none=>simp at shi
  |some vb=>
  obtain⟨ik,rfl⟩:=BK hh (rhi _ _ rfl rfl);have hb:∀code,(Instr.sliceBound (.int ik h) cap code).run P w=.ok h.toNat w:=λcode=>lA code ow ow
  cases lo with
  | none=>
   cases vlo with
   |some v=>simp at slo
   |none=>simp at hl;subst hl;simp[Instr.sliceBounds,hb]
  | some a=>
   cases vlo with
   |none=>simp at slo
   | some v=>
    obtain⟨ik',rfl⟩:=BK hl (rlo _ _ rfl rfl);simp[Instr.sliceBounds,hb,lA (y:=h.toNat) _ h0 ow]
theorem tD{t:TypeId}{ax:AV}{vx:Value}{lo hi mx:Option AV}{vlo vhi vmx:Option Value}{f:fT}(h:(uL P t ax lo hi mx).val=Q1 f)
  (hx:Rv w U ρ ax vx) (rlo:∀a v,lo=Q1 a->vlo=Q1 v->Rv w U ρ a v) (rhi:∀a v,hi=Q1 a->vhi=Q1 v->Rv w U ρ a v)
  (rmx:∀a v,mx=Q1 a->vmx=Q1 v->Rv w U ρ a v) (slo:lo.isSome=vlo.isSome) (shi:hi.isSome=vhi.isSome) (smx:mx.isSome=vmx.isSome):
  ∃r x,f={val:=r}/\(Instr.sliceAt t vx vlo vhi vmx).run P w=.ok x w/\Rv w U ρ r x:=by
 have zero3:∀(a:Option Addr)(len cap:Nat)(elem:TypeId)(k k':IntKind),P.underlying t=Q1 (.slice elem)->(fR P elem).isSome->
   (Instr.sliceAt t (.slice a len cap) Q2 (Q1 (.int k 0)) (Q1 (.int k' 0))).run P w=.ok (.slice a 0 0) w:=by
  intro a len cap elem k k' hu hs;obtain⟨sz,hs⟩:=Option.isSome_iff_exists.1 hs;simp[Instr.sliceAt,Instr.slice,bz hu,Instr.sliceBounds,Instr.sliceBound,asIntOf,cM hs]
 unfold uL at h;split at h
 ·rename_i s hu;cases vmx with
  |some v=>simp at smx
  |none=>
  split at h
  ·rename_i l hh hl0 hh0;simp at h;obtain⟨⟨⟨h0,h1⟩,h2⟩,rfl⟩:=h;cases hx with
   |str _ hs=>
   have hb:=Fj (P:=P) (w:=w) (U:=U) (ρ:=ρ) (isS:=Q4) (len:=s.length) (cap:=s.length) hl0 hh0 rlo rhi slo shi h0 h1 h2 (ae _);refine⟨_,.string ⟨((s.drop l.toNat).take (hh.toNat-l.toNat)).toArray⟩,rfl,?_,.str _ sg⟩;simp[Instr.sliceAt,Instr.slice,bz hu,D4,hb,LO]
  ·simp at h
 ·rename_i elem e s hu;cases vmx with
  |some v=>simp at smx
  |none=>
  split at h
  ·rename_i hsz;split at h
   ·rename_i l hh hl0 hh0;simp at h;obtain⟨⟨⟨h0,h1⟩,h2⟩,rfl⟩:=h
    have key:∀(a:Option Addr)(c:Nat),s.length<=c->(Instr.sliceAt t (.slice a s.length c) vlo vhi Q2).run P w=
      .ok (.slice (if c=l.toNat then a else a.map (·.add (l.toNat*e.size))) (hh.toNat-l.toNat) (c-l.toNat)) w:=by
     intro a c hc;have hb:=Fj (P:=P) (w:=w) (U:=U) (ρ:=ρ) (isS:=Q3) (len:=s.length) (cap:=c) hl0 hh0 rlo rhi slo shi h0 h1 h2 hc;simp[Instr.sliceAt,Instr.slice,bz hu,hb,cM hsz]
    have hlen:((s.drop l.toNat).take (hh.toNat-l.toNat)).length=hh.toNat-l.toNat:=by simp;omega
    by_cases hlt:l.toNat<hh.toNat
    ·cases hx with
     |sl0 _ a c=>simp at h2;omega
     |sl _ _ b o c vals hc hm hb hU hcell hr=>
     refine⟨_,_,rfl,key _ _ hc,?_⟩;rw[if_neg ow];simp only[yu,Addr.add_none]
     suffices hs:Rv w U ρ (.sl e ((s.drop l.toNat).take (hh.toNat-l.toNat))) (.slice (Q1 ⟨b,o+l.toNat*e.size,Q2⟩) ((s.drop l.toNat).take (hh.toNat-l.toNat)).length (c-l.toNat)) by
      rw[hlen]at hs;exact hs
     refine .sl e _ b (o+l.toNat*e.size) (c-l.toNat) (λi j=>vals (l.toNat+i) j) (by rw[hlen];omega) (by rw[hlen];omega) hb hU (λi j hi hj=>?_) (λi hi j c' hx=>?_)
     ·grind
     grind
    ·have hnil:(s.drop l.toNat).take (hh.toNat-l.toNat)=[]:=by
      rw[show hh.toNat-l.toNat=0 by omega];simp
     rw[hnil];obtain⟨a,c,rfl,hm,hc⟩:=IS hx;refine⟨_,_,rfl,key a c hc,?_⟩;rw[show hh.toNat-l.toNat=0 by omega];exact .sl0 e _ _
   ·simp at h
  ·simp at h
 ·rename_i elem e s k hu;split at h
  ·rename_i k';split at h
   ·rename_i hsz;simp at h;subst h;cases vlo with
    |some v=>simp at slo
    |none=>
    cases vhi with
    |none=>simp at shi
    |some vh=>
    cases vmx with
    |none=>simp at smx
    |some vm=>
    have h1:=rhi _ _ rfl rfl;have h2:=rmx _ _ rfl rfl;cases h1;cases h2;obtain⟨a,c,rfl,hm,hc⟩:=IS hx;exact⟨_,_,rfl,zero3 _ _ _ elem _ _ hu hsz,.nils _⟩
   ·simp at h
  ·simp at h
 ·rename_i elem k hu;split at h
  ·rename_i k';split at h
   ·rename_i hsz;simp at h;subst h;cases vlo with
    |some v=>simp at slo
    |none=>
    cases vhi with
    |none=>simp at shi
    |some vh=>
    cases vmx with
    |none=>simp at smx
    |some vm=>
    have h1:=rhi _ _ rfl rfl;have h2:=rmx _ _ rfl rfl;cases h1;cases h2;cases hx;exact⟨_,_,rfl,zero3 _ _ _ elem _ _ hu hsz,.nils _⟩
   ·simp at h
  ·simp at h
 ·simp at h
structure mg (w w':World):Prop where
 sz:w.heap.size<=w'.heap.size
 os:w'.os=w.os
 out:w'.output=w.output
 tape:w'.tape=w.tape
 fr:∀a:Addr,a.block<w.heap.size->w'.frozen? a=w.frozen? a
theorem mg.refl(w:World):mg w w:=⟨ae _,rfl,rfl,rfl,λ_ _=>rfl⟩
theorem mg.trans{a b c:World}(h:mg a b)(h':mg b c):mg a c:=
 ⟨cC h.sz h'.sz,h'.os.trans h.os,h'.out.trans h.out,h'.tape.trans h.tape,λx hx=>(h'.fr x (ia hx h.sz)).trans (h.fr x hx)⟩
structure Ef (n:Nat) (hp:Nat->AO) (f:fT) (w:World) (U:Nat->Prop) (ρ:Nat->Option Value) (v:Value) (w':World) (U':Nat->Prop) (ρ':Nat->Option Value):Prop where
 ext:mg w w'
 val:Rv w' U' ρ' f.val v
 wr:∀id o,(id,o)∈f.wr->bA w' U' ρ' id o
 nw:∀(j:Nat) o,f.nw[j]?=Q1 o->bA w' U' ρ' (n+j) o
 rho:∀id,(id<n\/n+f.nw.length<=id)->ρ' id=ρ id
 rhon:∀id v,ρ id=Q1 v->ρ' id=Q1 v
 same:∀b,b<w.heap.size->(∀id o,(id,o)∈f.wr->¬aj ρ id (hp id) b)->w'.heap[b]?=w.heap[b]?
 ub:∀b,U' b->b<w'.heap.size
 u1:∀b,b<w.heap.size->U' b->U b
 u2:∀b,b<w.heap.size->U b->(∀id o,(id,o)∈f.wr->¬aj ρ id (hp id) b)->U' b
 own:∀id o b,((id,o)∈f.wr\/(n<=id/\f.nw[id-n]?=Q1 o))->aj ρ' id o b->w.heap.size<=b\/∃id' o',(id',o')∈f.wr/\aj ρ id' (hp id') b
 inj:∀id1 o1 id2 o2 b,((id1,o1)∈f.wr\/(n<=id1/\f.nw[id1-n]?=Q1 o1))->((id2,o2)∈f.wr\/(n<=id2/\f.nw[id2-n]?=Q1 o2))->
  aj ρ' id1 o1 b->aj ρ' id2 o2 b->id1=id2
theorem Ef.pure{n:Nat}{hp:Nat->AO}{r:AV}{v:Value}(hub:∀b,U b->b<w.heap.size)(h:Rv w U ρ r v):Ef n hp {val:=r} w U ρ v w U ρ where
 ext:=mg.refl w
 val:=h
 wr:=by simp
 nw:=by simp
 rho:=λ_ _=>rfl
 rhon:=λ_ _ h=>h
 same:=λ_ _ _=>rfl
 ub:=hub
 u1:=λ_ _ h=>h
 u2:=λ_ _ h _=>h
 own:=by simp
 inj:=by simp
theorem bj(w:World)(o:Obj)(b:Nat)(h:b<w.heap.size):(w.alloc o).heap[b]?=w.heap[b]?:=by
 show(w.heap.push o)[b]?=w.heap[b]?;grind
theorem cD(w:World)(o:Obj):(w.alloc o).heap[w.heap.size]?=Q1 o:=by
 show(w.heap.push o)[w.heap.size]?=Q1 o;rw[Array.getElem?_push,if_pos rfl]
theorem aX(w:World)(o:Obj):(w.alloc o).heap.size=w.heap.size+1:=by
 simp_all
theorem mg.alloc(w:World)(c:Array Value)(t:TypeId):mg w (w.alloc (.cells c t)) where
 sz:=by rw[aX];omega
 os:=rfl
 out:=rfl
 tape:=rfl
 fr:=λa h=>BD (bj w _ _ h)
def mz(ρ:Nat->Option Value)(n:Nat)(v:Value):Nat->Option Value:=λid=>if id=n then Q1 v else ρ id
theorem eW{n:Nat}{v:Value}(hn:ρ n=Q2):∀id x,ρ id=Q1 x->mz ρ n v id=Q1 x:=by
 intro id x h;unfold mz;grind
theorem Ef.box{n:Nat}{hp:Nat->AO}{cs:List AV}{vals:Array Value}{T:TypeId}(hub:∀b,U b->b<w.heap.size)(hn:ρ n=Q2)
  (hr:du w U ρ cs vals.toList) (h1:∀v∈vals.toList,v.oneCell'=Q3):
  Ef n hp {val:=.ptr n 0,nw:=[.box cs]} w U ρ (.pointer (Q1 ⟨w.heap.size,0,Q2⟩)) (w.alloc (.cells vals T)) (λb=>U b\/b=w.heap.size) (mz ρ n (.pointer (Q1 ⟨w.heap.size,0,Q2⟩))):=by
 have hk:∀b,b<w.heap.size->¬U b->(w.alloc (.cells vals T)).heap[b]?=w.heap[b]?:=λb hb _=>bj w _ b hb
 have hu:∀b,b<w.heap.size->(U b\/b=w.heap.size)->U b:=λb hb h=>h.elim id (λe=>by omega)
 have hs:w.heap.size<=(w.alloc (.cells vals T)).heap.size:=by rw[aX];omega
 refine⟨mg.alloc w vals T,.ptr n 0 _ (by simp[mz]),sw,?_,?_,eW hn,λb hb _=>bj w _ b hb,?_,λb hb h=>hu b hb h,λb _ h _=>.inl h,?_,?_⟩
 ·intro j o hj;cases j with
  |succ j=>simp at hj
  | zero=>
   simp at hj;subst hj;exact⟨w.heap.size,T,vals,by simp[mz],.inr rfl,cD w _,hr.mono hs hk hu (eW hn),h1⟩
 ·intro id h;unfold mz;rw[if_neg (by simp at h;omega)]
 ·intro b h;rw[aX];grind
 ·rintro id o b (h|⟨h1,h2⟩) ho
  ·simp at h
  ·have:id-n=0:=by
    by_cases h0:id-n=0
    ·exact h0
    ·simp_all
   have hid:id=n:=by omega
   subst hid;obtain⟨_,v,hv,hb⟩:=ho;simp[mz]at hv;subst hv;simp[fa]at hb;exact .inl ow
 grind
end
section
variable {P:Program} {w:World} {U:Nat->Prop} {ρ:Nat->Option Value}
theorem heap_setCell(w:World)(b o:Nat)(v:Value){arr:Array Value}{T:TypeId}{fz:Nat×Nat}(h:w.heap[b]?=Q1 (.cells arr T fz)):
  (w.setCell ⟨b,o,Q2⟩ v).heap[b]?=Q1 (.cells (arr.setIfInBounds o v) T fz):=by
 simp[World.setCell,uj,h]
theorem tO(w:World)(b o b':Nat)(v:Value)(h:b'≠b):(w.setCell ⟨b,o,Q2⟩ v).heap[b']?=w.heap[b']?:=by
 simp only[World.setCell,uj];rw[if_neg (λe=>h e.symm)]
theorem jA:∀(vs:List Value)(w:World)(b o:Nat){arr:Array Value}{T:TypeId}{fz:Nat×Nat},w.heap[b]?=Q1 (.cells arr T fz)->
  (w.setCells b o vs).heap[b]?=Q1 (.cells (oE arr.toList o vs).toArray T fz)
 |[],_,_,_,_,_,_,h=>by simpa[World.setCells,oE]using h
 | v::r,w,b,o,arr,T,fz,h=>by
  rw[World.setCells];have:=jA r _ b (o+1) (heap_setCell w b o v h);rw[this];simp[oE]
theorem bV:∀(vs:List Value)(w:World)(b o b':Nat),b'≠b->(w.setCells b o vs).heap[b']?=w.heap[b']?
 |[],_,_,_,_,_=>rfl
 | v::r,w,b,o,b',h=>by
  rw[World.setCells,bV r _ b (o+1) b' h,tO w b o b' v h]
theorem wh(w:World)(a:Addr)(v:Value):(w.setCell a v).heap.size=w.heap.size:=by simp[World.setCell]
theorem mg.setCells:∀(vs:List Value)(w:World)(b o:Nat),mg w (w.setCells b o vs)
 |[],w,_,_=>mg.refl w
 | v::r,w,b,o=>by
  have h1:mg w (w.setCell ⟨b,o,Q2⟩ v):=⟨by rw[wh];exact ae _,rfl,rfl,rfl,λa _=>by rw[World.frozen?_setCell]⟩;rw[World.setCells];exact h1.trans (mg.setCells r _ b (o+1))
theorem jD:∀(vs:List Value)(w:World)(b o:Nat),(w.setCells b o vs).heap.size=w.heap.size
 |[],_,_,_=>rfl
 |v::r,w,b,o=>by rw[World.setCells,jD r,wh]
theorem lB:∀(l vs:List Value)(off q:Nat),(oE vs off l)[q]?=if off<=q/\q<off+l.length/\q<vs.length then l[q-off]? else vs[q]?
 | [],vs,off,q=>by
  rw[if_neg sg];rfl
 | v::l,vs,off,q=>by
  rw[oE,lB l _ (off+1) q];grind
theorem oV{t:TypeId}{v:Value}{b o sz:Nat}{arr:Array Value}{T:TypeId}(hsz:fR P t=Q1 sz)(hv:v.cells.toList.length=sz)
  (hb:w.heap[b]?=Q1 (.cells arr T (0,0))) (hin:o+sz<=arr.size) (h1:∀x∈v.cells.toList,x.oneCell'=Q3):
  (storeVar t ⟨b,o,Q2⟩ v).run P w=.ok () (w.setCells b o v.cells.toList):=by
 have hc:∀j,j<v.cells.toList.length->(w.cell? ⟨b,o+0+j,Q2⟩).isSome=Q3:=by
  intro j hj;have:o+j<arr.size:=by omega
  simp[World.cell?,hb,td this]
 have hf:∀j,j<v.cells.toList.length->w.frozen? ⟨b,o+0+j,Q2⟩=Q4:=by
  intro j hj;simp[World.frozen?,hb]
 have:=run_storeCells_cells (P:=P) b o v.cells.toList 0 w hc hf h1;rw[yw]at this;have hsize:v.cells.size=sz:=by simpa using hv
 simp[storeVar,cM hsz,hsize,this]
theorem Ef.store{n id off:Nat}{hp:Nat->AO}{cs vs:List AV}{b:Nat}{vals:Array Value}{T:TypeId}{vv:List Value}(hub:∀b,U b->b<w.heap.size)(hid:hp id=.box cs)
  (hρ:ρ id=Q1 (.pointer (Q1 ⟨b,0,Q2⟩))) (hU:U b) (hb:w.heap[b]?=Q1 (.cells vals T (0,0))) (hr:du w U ρ cs vals.toList) (h1:∀v∈vals.toList,v.oneCell'=Q3)
  (hv:du w U ρ vs vv) (hv1:∀x∈vv,x.oneCell'=Q3):
  Ef n hp {val:=.tup [],wr:=[(id,.box (setCells cs off vs))]} w U ρ undef (w.setCells b off vv) U ρ:=by
 have hown:aj ρ id (hp id) b:=⟨by rw[hid];rfl,_,hρ,rfl⟩;have hk:∀b',b'<w.heap.size->¬U b'->(w.setCells b off vv).heap[b']?=w.heap[b']?:=λb' _ hb'=>bV _ _ _ _ _ (λe=>hb' (e▸hU))
 have hs:w.heap.size<=(w.setCells b off vv).heap.size:=by rw[jD];exact ae _
 refine⟨mg.setCells vv w b off,.tup [] [] rfl sw,?_,sw,λ_ _=>rfl,λ_ _ h=>h,?_,?_,λ_ _ h=>h,λ_ _ h _=>h,?_,?_⟩
 ·intro id' o' h;simp at h;obtain⟨rfl,rfl⟩:=h;refine⟨b,T,(oE vals.toList off vv).toArray,hρ,hU,jA vv w b off hb,?_,?_⟩
  ·simpa using(Bl vs vv cs vals.toList off hr hv).mono hs hk (λ_ _ h=>h) (λ_ _ h=>h)
  ·simpa using D2 vv vals.toList off h1 hv1
 ·intro b' _ hn;exact bV _ _ _ _ _ (λe=>hn id _ (by simp;rfl) (e▸hown))
 ·grind
 ·rintro id' o' b' (h|⟨_,h⟩) ho
  ·simp at h;obtain⟨rfl,rfl⟩:=h;refine .inr ⟨id',_,by simp;rfl,?_⟩;obtain⟨_,v,hv',hb'⟩:=ho;exact⟨by rw[hid];rfl,v,hv',hb'⟩
  ·simp at h
 simp_all
theorem qS{U':Nat->Prop}{id:Nat}{o:AO}(ho:bA w U ρ id o)(hvf:pb o=Q3)(hu:∀b,U' b->U b)(hf:∀b,aj ρ id o b->¬U' b):bA w U' ρ id (CG o):=by
 cases o with
 | frz e l=>
  obtain⟨v,h1,h2⟩:=ho;exact⟨v,h1,h2.weak hu⟩
 | vec e l=>
  have ho':=ho;obtain⟨a,c,h1,h2,h3⟩:=ho
  have:=Az (w:=w) (U:=U) (U':=U') (ρ:=ρ) (hp:=λ_=>.vec e l) (e:=e) (c:=.vec id) (l:=l) (by simp[wI]) (.vec id _ h1 rfl) hu
   (λid' h=>by simp[cO]at h;subst h;exact ho') (λid' h=>by simp[cO]at h;subst h;exact hf)
  exact⟨_,h1,this⟩
 |dead=>simp[pb]at hvf
 |box cs=>simp[pb]at hvf
 |fmap es=>simp[pb]at hvf
 |vmap u es=>simp[pb]at hvf
theorem dl{hp:Nat->AO}{ids:List Nat}{id:Nat}{o:AO}(h:(id,o)∈gw hp ids):id∈ids/\o=CG (hp id):=by
 simp only[gw,bn,cB]at h;grind
theorem qT{hp:Nat->AO}{ids:List Nat}{id:Nat}(h:id∈ids):(id,CG (hp id))∈gw hp ids:=by
 simp only[gw,bn,cB];exact⟨id,h,rfl,rfl⟩
theorem pN{o:AO}(h:pb o=Q3):(CG o).owns=Q4:=by cases o<;>simp[pb]at h<;>rfl
theorem Kj:∀(e:Sh)(y:Sem e)(q:Nat)(cc:AV),(zq e y)[q]?=Q1 cc->cO cc=[]:=by
 intro e
 induction e with
 |unit=>intro y q cc h;simp[zq]at h
 |bool=>intro y q cc h;cases q<;>simp[zq]at h;subst h;rfl
 |int k=>intro y q cc h;cases q<;>simp[zq]at h;subst h;rfl
 |str=>intro y q cc h;cases q<;>simp[zq]at h;subst h;rfl
 |sl e ih=>intro y q cc h;cases q<;>simp[zq]at h;subst h;rfl
 | pr a b iha ihb=>
  intro y q cc h;simp only[zq]at h;grind
 | expr=>
  intro y q cc h
  match q with
  |0=>simp[zq]at h;subst h;rfl
  |1=>simp[zq]at h;subst h;rfl
  |2=>simp[zq]at h;subst h;rfl
  |3=>simp[zq]at h;subst h;rfl
  |4=>simp[zq]at h;subst h;rfl
  |5=>simp[zq]at h;subst h;rfl
  |_+6=>simp[zq]at h
theorem wi:∀(vs es:List AV)(off:Nat)(c:AV),c∈setCells es off vs->c∈es\/c∈vs
 |[],_,_,_,h=>.inl h
 | v::vs,es,off,c,h=>by
  rcases wi vs _ _ c h with h|h
  ·grind
  ·exact .inr (by simp[h])
theorem Ef.storeVec{n id i off:Nat}{hp:Nat->AO}{e:Sh}{l:List (Sem e)}{x:Sem e}{vs:List AV}{b c:Nat}{arr:Array Value}{T:TypeId}{vv:List Value}(hub:∀b,U b->b<w.heap.size)(hid:hp id=.vec e l)
  (hρ:ρ id=Q1 (.slice (Q1 ⟨b,0,Q2⟩) l.length c)) (hc:0<c) (hU:U b) (hb:w.heap[b]?=Q1 (.cells arr T (0,0))) (hm:l.length<=aF) (hsz:arr.size=c*e.size) (hle:l.length<=c)
  (hr:∀i(hi:i<l.length)(j:Nat)(c:AV),(zq e l[i])[j]?=Q1 c->∃v,arr[i*e.size+j]?=Q1 v/\Rv w U ρ c v)
  (hv:du w U ρ vs vv) (hin:off+vs.length<=e.size) (hi:i<l.length)
  (himp:cP hp e (setCells (zq e l[i]) off vs)=Q1 (x,[]))
  (hvf:∀j∈vs.flatMap cO,pb (hp j)=Q3/\j≠id) (hob:∀j∈vs.flatMap cO,bA w U ρ j (hp j))
  (hinj:∀j∈vs.flatMap cO,∀b,aj ρ j (hp j) b->¬aj ρ id (hp id) b):
  Ef n hp {val:=.tup [],wr:=(id,.vec e (l.set i x))::gw hp (vs.flatMap cO)} w U ρ undef (w.setCells b (i*e.size+off) vv)
   (λb=>U b/\¬∃j∈vs.flatMap cO,aj ρ j (hp j) b) ρ:=by
 have hown:aj ρ id (hp id) b:=⟨by rw[hid];rfl,_,hρ,by simp[fa];omega⟩;have hnb:¬∃j∈vs.flatMap cO,aj ρ j (hp j) b:=λ⟨j,hj,ho⟩=>hinj j hj b ho hown
 generalize hU':(λb=>U b/\¬∃j∈vs.flatMap cO,aj ρ j (hp j) b)=U';have hsub:∀b,U' b->U b:=λb h=>by rw[<-hU']at h;exact h.1
 have hfz:∀j∈vs.flatMap cO,∀b,aj ρ j (hp j) b->¬U' b:=λj hj b ho h=>by grind
 have hUb:U' b:=by rw[<-hU'];exact⟨hU,hnb⟩
 have hk:∀b',b'<w.heap.size->¬U' b'->(w.setCells b (i*e.size+off) vv).heap[b']?=w.heap[b']?:=λb' _ hb'=>bV _ _ _ _ _ (λe=>hb' (e▸hUb))
 have hs:w.heap.size<=(w.setCells b (i*e.size+off) vv).heap.size:=by rw[jD];exact ae _
 have hmono:∀{cc:AV}{v:Value},Rv w U' ρ cc v->Rv (w.setCells b (i*e.size+off) vv) U' ρ cc v:=λh=>h.mono hs hk (λ_ _ h=>h) (λ_ _ h=>h)
 have hblk:=jA vv w b (i*e.size+off) hb;have hvlen:vv.length=vs.length:=hv.len.symm;have hmul:(i+1)*e.size<=c*e.size:=g7 _ ow;rw[kN]at hmul;have helem:∀(j:Nat)(cc:AV),(zq e x)[j]?=Q1 cc->Rv w U' ρ cc ((oE arr.toList (i*e.size+off) vv)[i*e.size+j]?.getD undef):=by
  have hrl:du w U ρ (zq e l[i]) ((List.range e.size).map λj=>(arr[i*e.size+j]?).getD undef):=by
   refine⟨by simp[zW],λj cc v hcc hv=>?_⟩;simp only[fA,eD]at hv;obtain⟨j',hj,rfl⟩:=hv;obtain⟨hlt,hjj⟩:=xS hj;subst hjj;obtain⟨v,h1,h2⟩:=hr i hi _ cc hcc;rw[h1];exact h2
  have hset:=Bl vs vv _ _ off hrl hv;refine(nV (w:=w) (U:=U) (U':=U') (ρ:=ρ) (hp:=hp) hsub e _ x [] (λj=>(oE arr.toList (i*e.size+off) vv)[i*e.size+j]?.getD undef) himp ?_ ?_).2.2
  ·intro j cc hj;have hlt:j<e.size:=by
    have:=(dh.1 hj).1
    rwa [oW,zW]at this
   refine hset.rv j cc _ hj ?_;have hlt2:i*e.size+j<arr.size:=by omega
   rw[lB,lB];grind
  ·intro j hj;have hj':j∈vs.flatMap cO:=by
    simp only[List.mem_flatMap]at hj⊢;obtain⟨cc,hcc,hj⟩:=hj;rcases wi _ _ _ _ hcc with h|h
    ·obtain⟨q,hq⟩:=List.mem_iff_getElem?.1 h;rw[Kj e _ q cc hq]at hj;simp at hj
    ·exact⟨cc,h,hj⟩
   grind
 refine⟨mg.setCells vv w b _,.tup [] [] rfl sw,?_,sw,λ_ _=>rfl,λ_ _ h=>h,?_,?_,λb' _ h=>hsub b' h,?_,?_,?_⟩
 ·intro id' o' h;simp only[cr,cB]at h;rcases h with⟨rfl,rfl⟩|h
  ·refine⟨_,c,by rw[hρ];simp,by simpa using hm,.inr ⟨b,T,(oE arr.toList (i*e.size+off) vv).toArray,rfl,hc,hUb,hblk,by simp[ip,hsz],by simpa using hle,?_⟩⟩;intro i' hi' j cc hcc;simp only[List.length_set]at hi';by_cases hii:i=i'
   ·subst hii;have hcc':(zq e x)[j]?=Q1 cc:=by simpa using hcc
    have hlt:j<e.size:=by have:=(dh.1 hcc').1;rwa [zW]at this
    have hlt2:i*e.size+j<(oE arr.toList (i*e.size+off) vv).length:=by rw[ip];simp;omega
    grind
   ·rw[List.getElem_set_ne hii]at hcc;obtain⟨v,h1,h2⟩:=hr i' hi' j cc hcc;refine⟨v,?_,hmono (h2.weak hsub)⟩;have hlt:j<e.size:=by have:=(dh.1 hcc).1;rwa [zW]at this
    have hne:¬(i*e.size+off<=i'*e.size+j/\i'*e.size+j<i*e.size+off+vv.length/\i'*e.size+j<arr.toList.length):=by
     rintro⟨q1,q2,_⟩;rcases Nat.lt_or_gt_of_ne hii with hlt'|hlt'
     ·have:=g7 e.size (yq hlt');grind
     ·have:=g7 e.size (yq hlt');grind
    simp only[List.getElem?_toArray];rw[lB,if_neg hne];simpa using h1
  ·obtain⟨hin',rfl⟩:=dl h;refine(qS (hob id' hin') (hvf id' hin').1 hsub (hfz id' hin')).mono hs hk (λ_ _ h=>h) (λ_ _ h=>h) ?_;intro b' ho;have:=pN (hvf id' hin').1;rw[aj,this]at ho;simp at ho
 ·intro b' _ hn;exact bV _ _ _ _ _ (λe'=>hn id _ (by simp;exact .inl rfl) (e'▸hown))
 ·grind
 ·intro b' _ h hn;rw[<-hU'];exact⟨h,λ⟨j,hj,ho⟩=>hn j _ (sB _ (qT hj)) ho⟩
 ·rintro id' o' b' (h|⟨_,h⟩) ho
  ·simp only[cr,cB]at h;rcases h with⟨rfl,rfl⟩|h
   ·refine .inr ⟨id',_,yn,?_⟩;obtain⟨_,v,hv',hb'⟩:=ho;exact⟨by rw[hid];rfl,v,hv',hb'⟩
   ·obtain⟨hin',rfl⟩:=dl h;have:=pN (hvf id' hin').1;rw[aj,this]at ho;simp at ho
  ·simp at h
 ·rintro id1 o1 id2 o2 b' (h|⟨_,h⟩) (h'|⟨_,h'⟩) ho ho'
  ·have key:∀id' o',(id',o')∈((id,AO.vec e (l.set i x))::gw hp (vs.flatMap cO))->aj ρ id' o' b'->id'=id:=by
    intro id' o' h ho;simp only[cr,cB]at h;rcases h with⟨rfl,_⟩|h
    ·rfl
    ·obtain⟨hin',rfl⟩:=dl h;have:=pN (hvf id' hin').1;rw[aj,this]at ho;simp at ho
   rw[key _ _ h ho,key _ _ h' ho']
  all_goals simp at h h'
end
section
variable {P:Program} {w:World} {U:Nat->Prop} {ρ:Nat->Option Value}
structure GZ (w:World) (U:Nat->Prop) (ρ:Nat->Option Value) (hp:Nat->AO) (fp:List Nat):Prop where
 ob:∀id∈fp,bA w U ρ id (hp id)
 inj:∀id1∈fp,∀id2∈fp,∀b,aj ρ id1 (hp id1) b->aj ρ id2 (hp id2) b->id1=id2
theorem MM{n:Nat}{hp:Nat->AO}{t:TypeId}{aa ax:AV}{va vx:Value}{f:fT}{fp:List Nat}(h:(Hx P hp t aa ax).val=Q1 f)
  (ha:Rv w U ρ aa va) (hx:Rv w U ρ ax vx) (hub:∀b,U b->b<w.heap.size) (hfp:GZ w U ρ hp fp) (hin1:∀id∈aa.ids,id∈fp) (hin2:∀id∈dK ax,id∈fp):
  ∃w' U',(Instr.storeAt t va vx).run P w=.ok () w'/\Ef n hp f w U ρ undef w' U' ρ/\∀id o,(id,o)∈f.wr->id∈fp:=by
 unfold Hx at h;split at h
 ·rename_i vs sz hcs hsz;obtain⟨hv,hv1⟩:=gT hcs hx;split at h
  ·rename_i hlen;split at h
   ·rename_i id off;cases ha with
    |ptr _ _ b hb=>
    have ho:=hfp.ob id (hin1 id (by simp[AV.ids]));split at h
    ·rename_i cs hid;rw[hid]at ho;obtain⟨b',T,vals,h1,h2,h3,h4,h5⟩:=ho;rw[hb]at h1;cases h1;split at h
     ·rename_i hle;simp at h;subst h;refine⟨_,U,?_,Ef.store hub hid hb h2 h3 h4 h5 hv hv1,?_⟩
      ·have:=oV (P:=P) (w:=w) (o:=off) hsz (by rw[<-hv.len];exact hlen) h3 (by have:=h4.len;simp at this;omega) hv1;simp[Instr.storeAt,Instr.sureAddr,this]
      ·intro id' o' h';simp at h';rw[h'.1];exact hin1 id (by simp[AV.ids])
     ·simp at h
    ·simp at h
   ·rename_i id sz' i off;cases ha with
    |vptr _ _ _ _ b n' c hb=>
    have hidfp:=hin1 id (by simp[AV.ids]);have ho:=hfp.ob id hidfp;split at h
    ·rename_i e l hid;split at h
     ·rename_i hcond;obtain⟨rfl,hoff,hall⟩:=hcond;split at h
      ·rename_i x himp;simp at h;obtain⟨hi,rfl⟩:=h;have hobid:=ho;rw[hid]at ho;obtain⟨a,c',h1,hm,h3⟩:=ho;rw[hb]at h1;cases h1;rcases h3 with⟨rfl,_⟩|⟨b',T,arr,hba,hc,hU,hbb,hsz',hle,hrr⟩
       ·simp at hi
       ·cases hba;have hget:l[i]?.getD (zj e)=l[i]:=by simp[zQ hi]
        rw[ba,hget]at himp;have hids:∀j∈vs.flatMap cO,j∈fp:=λj hj=>hin2 j (by simpa[dK,hcs]using hj)
        simp only[ei,aE,bne_iff_ne,ne_eq]at hall
        refine⟨_,_,?_,Ef.storeVec hub hid hb hc hU hbb hm hsz' hle hrr hv ow hi himp hall (λj hj=>hfp.ob j (hids j hj))
         (λj hj b' ho1 ho2=>(hall j hj).2 (hfp.inj j (hids j hj) id hidfp b' ho1 ho2)),?_⟩
        ·have hmul:(i+1)*e.size<=c*e.size:=g7 _ ow;rw[kN]at hmul;have:=oV (P:=P) (w:=w) (o:=i*e.size+off) hsz (by rw[<-hv.len];exact hlen) hbb ow hv1;simp[Instr.storeAt,Instr.sureAddr,this]
        ·intro id' o' h';simp only[cr,cB]at h';rcases h' with⟨rfl,_⟩|h'
         ·exact hidfp
         ·exact hids _ (dl h').1
      ·simp at h
     ·simp at h
    ·simp at h
   ·simp at h
  ·simp at h
 ·simp at h
theorem yz{hp:Nat->AO}{e:Sh}{v:AV}{x:Sem e}(h:yx hp e v=Q1 x):∃cs,cellsOf v=Q1 cs/\cP hp e cs=Q1 (x,[]):=by
 unfold yx at h;grind
theorem wR{hp:Nat->AO}{e:Sh}{U':Nat->Prop}(hsub:∀b,U' b->U b):∀(vs:List AV)(vals:List Value)(l:List (Sem e)),wQ hp e vs=Q1 l->du w U ρ vs vals->
  (∀id∈vs.flatMap dK,bA w U ρ id (hp id)/\∀b,aj ρ id (hp id) b->¬U' b)->
  l.length=vals.length/\(∀v∈vals,v.cells.size=e.size/\∀x∈v.cells.toList,x.oneCell'=Q3)/\
  ∀i(hi:i<l.length)(hv:i<vals.length)(j:Nat)(c:AV),(zq e l[i])[j]?=Q1 c->∃v,vals[i].cells[j]?=Q1 v/\Rv w U' ρ c v
 | [],vals,l,h,hr,_=>by
  simp[wQ]at h;subst h;have:=hr.len;grind
 |v::vs,[],l,_,hr,_=>by have:=hr.len;simp at this
 | v :: vs,u::vals,l,h,hr,hob=>by
  simp only[wQ]at h;split at h
  ·rename_i x l' hx hl;cases h;obtain⟨cs,hcs,himp⟩:=yz hx;obtain⟨hcv,hcv1⟩:=gT hcs (hr.rv 0 v u rfl rfl)
   obtain⟨h1,h2,h3⟩:=wR hsub vs vals l' hl ⟨by have:=hr.len;simpa using this,λj c v hc hv=>hr.rv (j+1) c v hc hv⟩
    (λid hid=>hob id (by simp_all))
   obtain⟨q1,q2,q3⟩:=nV (w:=w) (U:=U) (U':=U') (ρ:=ρ) (hp:=hp) hsub e cs x [] (λj=>(u.cells.toList[j]?).getD undef) himp
    (λj c hj=>by
     have hlt:j<u.cells.toList.length:=by rw[<-hcv.len];exact(dh.1 hj).1
     exact hcv.rv j c _ hj (by simp[zQ hlt]))
    (λid hid=>hob id (by simp only[List.flatMap_cons,cQ];exact .inl (by simpa[dK,hcs]using hid)))
   have hsz:u.cells.size=e.size:=by
    have:=hcv.len;simp at this q1;omega
   refine⟨by simp[h1],?_,?_⟩
   ·grind
   ·intro i hi hv j c hc;cases i with
    | zero=>
     simp only[List.getElem_cons_zero]at hc⊢;have hlt:j<u.cells.size:=by rw[hsz];have:=(dh.1 hc).1;rwa [zW]at this
     grind
    | succ i=>
     grind
  ·cases h
theorem xq(size:Nat):∀(vs:List Value)(k:Nat)(cells:List Value),(∀v∈vs,v.cells.size=size)->(k+vs.length)*size<=cells.length->
  ∃r:List Value,Instr.fill (λi=>Q1 (i*size,size)) cells.toArray ((vs.zipIdx k).map λp=>(p.2,p.1))=Q1 r.toArray/\r.length=cells.length/\
   (∀q,q<k*size->r[q]?=cells[q]?)/\∀i(hi:i<vs.length) j,j<size->r[(k+i)*size+j]?=vs[i].cells[j]?
 |[],k,cells,_,_=>⟨cells,by simp[Instr.fill],rfl,λ_ _=>rfl,sw⟩
 | v::vs,k,cells,hsz,hle=>by
  have hv:=hsz v sw;simp only[eE]at hle;have hm:k*size+size<=cells.length:=by
   have h1:(k+1)*size<=(k+(vs.length+1))*size:=g7 _ ow;rw[kN]at h1;omega
  obtain⟨r,e1,e2,e3,e4⟩:=xq size vs (k+1) (oE cells (k*size) v.cells.toList) (λx hx=>hsz x (by simp[hx]))
   (by rw[ip,show k+1+vs.length=k+(vs.length+1) by omega];exact hle)
  refine⟨r,?_,by rw[e2,ip],?_,?_⟩
  ·simp only[List.zipIdx_cons,kc,Instr.fill];rw[if_neg sg];rw[<-e1];congr 1;have:=CE cells v.cells.toList 0 (k*size);rw[yw]at this;rw[<-this,<-Array.foldl_toList,Array.toList_zipIdx]
  ·intro q hq;rw[e3 q (by rw[kN];omega),lB,if_neg ow]
  ·intro i hi j hj;cases i with
   | zero=>
    simp only[yw,List.getElem_cons_zero];rw[e3 _ (by rw[kN];omega),lB,if_pos sg,show k*size+j-k*size=j by omega];simp
   | succ i=>
    grind
structure EnvOk (E:bW):Prop where
 sh:∀t e,E.sh t=Q1 e->∃i z,E.P.info? t=Q1 i/\i.size=e.size/\0<e.size/\i.bytes<=131072/\i.zero=Q1 z/\z.cells.size=i.size
theorem pQ:∀(ps:List (Nat×AV))(n:Nat),uU n ps=Q3->ps=((ps.map (·.2)).zipIdx n).map λp=>(p.2,p.1)
 |[],_,_=>rfl
 | (i,v)::r,n,h=>by
  simp[uU]at h;obtain⟨rfl,h⟩:=h;simp only[kc,List.zipIdx_cons];congr 1;exact pQ r (i+1) h
theorem Ef.allocFrz{n:Nat}{hp:Nat->AO}{ids:List Nat}{arr:Array Value}{T:TypeId}{r:AV}{v:Value}(hub:∀b,U b->b<w.heap.size)(hvf:∀j∈ids,pb (hp j)=Q3)
  (hob:∀j∈ids,bA w U ρ j (hp j)) (hval:Rv (w.alloc (.cells arr T)) (λb=>U b/\¬∃j∈ids,aj ρ j (hp j) b) ρ r v):
  Ef n hp {val:=r,wr:=gw hp ids} w U ρ v (w.alloc (.cells arr T)) (λb=>U b/\¬∃j∈ids,aj ρ j (hp j) b) ρ:=by
 generalize hU':(λb=>U b/\¬∃j∈ids,aj ρ j (hp j) b)=U' at hval⊢;have hsub:∀b,U' b->U b:=λb h=>by rw[<-hU']at h;exact h.1
 have hfz:∀j∈ids,∀b,aj ρ j (hp j) b->¬U' b:=λj hj b ho h=>by grind
 have hk:∀b',b'<w.heap.size->¬U' b'->(w.alloc (.cells arr T)).heap[b']?=w.heap[b']?:=λb' hb _=>bj w _ b' hb
 have hs:w.heap.size<=(w.alloc (.cells arr T)).heap.size:=by rw[aX];omega
 have noOwn:∀id o b,(id,o)∈gw hp ids->aj ρ id o b->False:=by
  intro id o b h ho;obtain⟨hin',rfl⟩:=dl h;rw[aj,pN (hvf id hin')]at ho;simp at ho
 refine⟨mg.alloc w arr T,hval,?_,sw,λ_ _=>rfl,λ_ _ h=>h,λb' hb _=>bj w _ b' hb,?_,λb' _ h=>hsub b' h,?_,?_,?_⟩
 ·intro id o h;have h0:=h;obtain⟨hin',rfl⟩:=dl h;exact(qS (hob id hin') (hvf id hin') hsub (hfz id hin')).mono hs hk (λ_ _ h=>h) (λ_ _ h=>h) (λb' ho=>(noOwn id _ b' h0 ho).elim)
 ·grind
 ·intro b' _ h hn;rw[<-hU'];exact⟨h,λ⟨j,hj,ho⟩=>hn j _ (qT hj) ho⟩
 ·simp_all
 simp_all
theorem Al{E:bW}(hE:EnvOk E){n:Nat}{hp:Nat->AO}{t:TypeId}{len:Nat}{ps:List (Nat×AV)}{vps:List (Nat×Value)}{f:fT}{fp:List Nat}
  (h:(nP E hp t len ps).val=Q1 f) (hi:ps.map (·.1)=vps.map (·.1)) (hr:du w U ρ (ps.map (·.2)) (vps.map (·.2)))
  (hub:∀b,U b->b<w.heap.size) (hfp:GZ w U ρ hp fp) (hin:∀id∈ps.flatMap (λp=>dK p.2),id∈fp):
  ∃v w' U',(Instr.buildSlice t len vps.toArray).run E.P w=.ok v w'/\Ef n hp f w U ρ v w' U' ρ/\∀id o,(id,o)∈f.wr->id∈fp:=by
 unfold nP at h;split at h
 ·rename_i elem hu;split at h
  ·split at h
   ·rename_i hemp;simp at hemp;obtain⟨rfl,hsz⟩:=hemp;have hvps:vps=[]:=by
     have:=congrArg List.length hi;simp at this;exact Ah ow
    subst hvps;simp at h;subst h;obtain⟨sz,hsz⟩:=Option.isSome_iff_exists.1 hsz
    have hrun:∃arr,(Instr.buildSlice t 0 #[]).run E.P w=.ok (.slice (Q1 ⟨w.heap.size,0,Q2⟩) 0 0) (w.alloc (.cells arr elem)):=
     ⟨_,by simp[Instr.buildSlice,bz hu,cM hsz,Instr.fill,newRow];rfl⟩
    obtain⟨arr,hrun⟩:=hrun;exact⟨_,_,_,hrun,Ef.allocFrz (ids:=[]) (T:=elem) hub sw sw (.nils _),sw⟩
   ·simp at h
  ·rename_i hne;split at h
   ·rename_i e he;split at h
    ·rename_i hcond;simp at hcond;obtain⟨⟨⟨hlen,hord⟩,hmax⟩,hvf⟩:=hcond;split at h
     ·rename_i l hl;simp at h;subst h;obtain⟨i,z,hinfo,hisz,hpos,_,hz,hzc⟩:=hE.sh elem e he;have hsz:fR E.P elem=Q1 e.size:=by simp[fR,hinfo,hisz]
      have hids:∀id∈(ps.map (·.2)).flatMap dK,id∈ps.flatMap (λp=>dK p.2):=by
       intro id hid;simpa[List.flatMap_map]using hid
      have hvf':∀j∈ps.flatMap (λp=>dK p.2),pb (hp j)=Q3:=by
       intro j hj;simp only[List.mem_flatMap]at hj;obtain⟨p,hp',hj⟩:=hj;exact hvf p.1 p.2 hp' j hj
      generalize hU':(λb=>U b/\¬∃j∈ps.flatMap (λp=>dK p.2),aj ρ j (hp j) b)=U';have hsub:∀b,U' b->U b:=λb h=>by rw[<-hU']at h;exact h.1
      obtain⟨h1,h2,h3⟩:=wR (w:=w) (U:=U) (ρ:=ρ) (U':=U') hsub _ _ l hl hr
       (λid hid=>⟨hfp.ob id (hin id (hids id hid)),λb ho h=>by grind⟩)
      have hvps:vps=((vps.map (·.2)).zipIdx 0).map λp=>(p.2,p.1):=by
       have h1:=pQ ps 0 hord;have hidx:ps.map (·.1)=List.range' 0 ps.length:=by
        have:=congrArg (List.map (·.1)) h1;rw[pq]at this;rw[this];have e2:((λx:Nat×AV=>x.1)∘λp:AV×Nat=>(p.2,p.1))=Prod.snd:=rfl;rw[e2,List.zipIdx_map_snd];simp
       have hl2:ps.length=vps.length:=by have:=congrArg List.length hi;simpa using this
       rw[hi,hl2]at hidx;apply List.ext_getElem
       ·simp
       ·intro k hk hk';have:(vps.map (·.1))[k]?=(List.range' 0 vps.length)[k]?:=by rw[hidx]
        grind
      have hlen2:vps.length=len:=by rw[<-hlen];have:=congrArg List.length hi;simpa using this.symm
      obtain⟨r,e1,e2,e3,e4⟩:=xq e.size (vps.map (·.2)) 0 (((Array.range (len*e.size)).map (z.cells[· %z.cells.size]!)).toList)
       (λv hv=>(h2 v hv).1) (by simp[hlen2])
      rw[<-hvps]at e1;have hne0:len*e.size≠0:=by
       have:len≠0:=λh0=>hne h0
       exact Nat.mul_ne_zero this ow
      have hbig:¬(2^24<len*e.size):=by omega
      have hll:l.length=len:=by rw[h1];simpa using hlen2
      refine⟨.slice (Q1 ⟨w.heap.size,0,Q2⟩) len len,w.alloc (.cells r.toArray elem),_,?_,Ef.allocFrz hub hvf' (λj hj=>hfp.ob j (hin j hj)) ?_,λid o h=>hin id (dl h).1⟩
      ·simp only[Og]at e1;simp only[Instr.buildSlice,cF,bz hu,cM hsz,pm];simp only[gt_iff_lt,hbig,if_false,hne0,pk,pm,cF,zeroValue,typeInfo,run_program,hinfo,hz,e1,newRow,run_newObj];rfl
      ·rw[hU'];have hk:∀b',b'<w.heap.size->¬U' b'->(w.alloc (.cells r.toArray elem)).heap[b']?=w.heap[b']?:=λb' hb _=>bj w _ b' hb
       have hs:w.heap.size<=(w.alloc (.cells r.toArray elem)).heap.size:=by rw[aX];omega
       suffices hsuf:Rv (w.alloc (.cells r.toArray elem)) U' ρ (.sl e l) (.slice (Q1 ⟨w.heap.size,0,Q2⟩) l.length len) by rw[hll]at hsuf;exact hsuf
       refine .sl e l w.heap.size 0 len (λi j=>(r[i*e.size+j]?).getD undef) ow (by unfold aF;grind) (by rw[aX];omega)
        (λh=>by have:=hub _ (hsub _ h);omega) (λi' j hi' hj=>?_) (λi' hi' j c hc=>?_)
       ·have hlt:i'*e.size+j<r.length:=by
         rw[e2];have:(i'+1)*e.size<=len*e.size:=g7 _ ow;rw[kN]at this;simp;omega
        unfold World.cell?;rw[cD];simp[zQ hlt]
       ·have hi'':i'<(vps.map (·.2)).length:=by rw[<-h1];exact hi'
        obtain⟨v,hv1,hv2⟩:=h3 i' hi' hi'' j c hc;have hj:j<e.size:=by have:=(dh.1 hc).1;rwa [zW]at this
        have:=e4 i' hi'' j hj;rw[jJ]at this;rw[this,hv1];exact hv2.mono hs hk (λ_ _ h=>h) (λ_ _ h=>h)
     ·simp at h
    ·simp at h
   ·simp at h
 ·simp at h
end
section
variable {P:Program} {w:World} {U:Nat->Prop} {ρ:Nat->Option Value}
def SlR(w:World)(U:Nat->Prop)(ρ:Nat->Option Value)(e:Sh)(l:List (Sem e))(v:Value):Prop:=
 ∃a cap,v=.slice a l.length cap/\l.length<=cap/\l.length<=aF/\(l=[]\/∃b o,a=Q1 ⟨b,o,Q2⟩/\
  ∀i(hi:i<l.length)(j:Nat)(c:AV),(zq e l[i])[j]?=Q1 c->∃x,w.cell? ⟨b,o+i*e.size+j,Q2⟩=Q1 x/\Rv w U ρ c x)
theorem oG{e:Sh}{l:List (Sem e)}{v:Value}(h:Rv w U ρ (.sl e l) v):SlR w U ρ e l v:=by
 cases h with
 |sl0 _ a c=>exact⟨a,c,rfl,sw,sw,.inl rfl⟩
 | sl _ _ b o c vals hc hm hb hU hcell hr=>
  refine⟨_,c,rfl,hc,hm,.inr ⟨b,o,rfl,λi hi j cc hcc=>⟨vals i j,hcell i j hi ?_,hr i hi j cc hcc⟩⟩⟩;have:=(dh.1 hcc).1;rwa [zW]at this
theorem L2{id:Nat}{e:Sh}{l:List (Sem e)}{v:Value}(h:bA w U ρ id (.vec e l))(hv:ρ id=Q1 v):SlR w U ρ e l v:=by
 obtain⟨a,c,h1,hm,h3⟩:=h;rw[hv]at h1;cases h1;rcases h3 with⟨rfl,rfl⟩|⟨b,T,arr,rfl,hc,hU,hb,hsz,hle,hr⟩
 ·exact⟨a,0,rfl,sw,sw,.inl rfl⟩
 ·refine⟨_,c,rfl,hle,hm,.inr ⟨b,0,rfl,λi hi j cc hcc=>?_⟩⟩;obtain⟨x,h1,h2⟩:=hr i hi j cc hcc;exact⟨x,by simp[World.cell?,hb,h1],h2⟩
theorem Fh{hp:Nat->AO}{e:Sh}{c:AV}{l:List (Sem e)}{v:Value}(h:wI hp e c=Q1 l)(hr:Rv w U ρ c v)
  (hob:∀id∈c.ids,bA w U ρ id (hp id)):SlR w U ρ e l v:=by
 cases c<;>simp[wI]at h
 case nils=>
  subst h;cases hr;exact⟨_,0,rfl,sw,sw,.inl rfl⟩
 case sl e' l'=>
  obtain⟨rfl,h⟩:=h;subst h;exact oG hr
 case vec id=>
  cases hr with
  |vec _ _ hv _=>
  have h1:=hob id (by simp[AV.ids]);cases ho:hp id with
  |dead=>simp[ho]at h
  |box cs=>simp[ho]at h
  |fmap es=>simp[ho]at h
  |vmap u es=>simp[ho]at h
  | frz e' l'=>
   simp[ho]at h;obtain⟨rfl,h⟩:=h;subst h;rw[ho]at h1;obtain⟨v',hv',hrv⟩:=h1;rw[hv]at hv';cases hv';exact oG hrv
  | vec e' l'=>
   simp[ho]at h;obtain⟨rfl,h⟩:=h;subst h;rw[ho]at h1;exact L2 h1 hv
def ej(size n:Nat)(vals:Nat->Nat->Value):List Value:=(List.range (n*size)).map λq=>vals (q/size) (q%size)
theorem xX{size n:Nat}{vals:Nat->Nat->Value}{i j:Nat}(hi:i<n)(hj:j<size):(ej size n vals)[i*size+j]?=Q1 (vals i j):=by
 have hlt:i*size+j<n*size:=by
  have:=g7 size (yq hi);rw[kN]at this;omega
 have h1:(i*size+j)/size=i:=by
  rw[oO,Nat.add_mul_div_right _ _ ow,Nat.div_eq_of_lt hj];omega
 have h2:(i*size+j)%size=j:=by
  rw[oO,Nat.add_mul_mod_self_right,Nat.mod_eq_of_lt hj]
 simp[ej,ym hlt,h1,h2]
theorem dX{size n:Nat}{vals:Nat->Nat->Value}:(ej size n vals).length=n*size:=by simp[ej]
theorem SlR.cells{e:Sh}{l:List (Sem e)}{v:Value}(h:SlR w U ρ e l v)(hpos:0<e.size):∃(a:Option Addr)(cap:Nat)(vals:Nat->Nat->Value),v=.slice a l.length cap/\l.length<=cap/\
  (∀i(hi:i<l.length)(j:Nat)(c:AV),(zq e l[i])[j]?=Q1 c->Rv w U ρ c (vals i j))/\(∀x∈ej e.size l.length vals,x.oneCell'=Q3)/\
  (a=Q2->l=[])/\∀ad,a=Q1 ad->∀(q:Nat) x,(ej e.size l.length vals)[q]?=Q1 x->w.cell? (ad.add q)=Q1 x:=by
 obtain⟨a,cap,rfl,hc,hm,h⟩:=h;rcases h with rfl|⟨b,o,rfl,hr⟩
 ·exact⟨a,cap,λ_ _=>undef,rfl,hc,sw,by simp[ej],λ_=>rfl,by simp[ej]⟩
 ·have hex:∀i j,i<l.length->j<e.size->∃x,w.cell? ⟨b,o+i*e.size+j,Q2⟩=Q1 x/\x.oneCell'=Q3/\∀(hi:i<l.length) c,(zq e l[i])[j]?=Q1 c->Rv w U ρ c x:=by
   intro i j hi hj;have hget:(zq e l[i])[j]?=Q1 ((zq e l[i])[j]'(by rw[zW];exact hj)):=zQ _;obtain⟨x,h1,h2⟩:=hr i hi j _ hget;exact⟨x,h1,fL e l[i] j _ x hget h2,λhi c hc=>by rw[hget]at hc;cases hc;exact h2⟩
  let vals:Nat->Nat->Value:=λi j=>(w.cell? ⟨b,o+i*e.size+j,Q2⟩).getD undef
  refine⟨_,cap,vals,rfl,hc,λi hi j c hc=>?_,λx hx=>?_,(λh=>by cases h),λad had q x hq=>?_⟩
  ·grind
  ·simp only[ej,bn,pp]at hx;obtain⟨q,hq,rfl⟩:=hx;obtain⟨x,h1,h2,_⟩:=hex (q/e.size) (q%e.size) ((Nat.div_lt_iff_lt_mul hpos).2 hq) (Nat.mod_lt _ hpos);grind
  ·cases had;simp only[ej,fA,eD]at hq;obtain⟨q',hq',rfl⟩:=hq;obtain⟨hlt,hqq⟩:=xS hq';subst hqq;obtain⟨x,h1,h2,_⟩:=hex (q'/e.size) (q'%e.size) ((Nat.div_lt_iff_lt_mul hpos).2 hlt) (Nat.mod_lt _ hpos);rw[Addr.add_none];have:o+q'=o+q'/e.size*e.size+q'%e.size:=by have:=Nat.div_add_mod q' e.size;rw[Nat.mul_comm]at this;omega
   grind
theorem Ef.newVec{n:Nat}{hp:Nat->AO}{wr:List (Nat×AO)}(hwr:∀id o,(id,o)∈wr->o=.dead){e:Sh}{l:List (Sem e)}{v:Value}{w':World}{U':Nat->Prop}(hn:ρ n=Q2)(hone:v.oneCell'=Q3)(hext:mg w w')
  (hsame:∀b,b<w.heap.size->(∀id o,(id,o)∈wr->¬aj ρ id (hp id) b)->w'.heap[b]?=w.heap[b]?) (hub:∀b,U' b->b<w'.heap.size) (hU:∀b,b<w.heap.size->(U' b↔U b))
  (hobj:bA w' U' (mz ρ n v) n (.vec e l)) (hown:∀b,fa v=Q1 b->w.heap.size<=b\/∃id o,(id,o)∈wr/\aj ρ id (hp id) b):
  Ef n hp {val:=.vec n,wr:=wr,nw:=[.vec e l]} w U ρ v w' U' (mz ρ n v):=by
 have hidx:∀id o,(n<=id/\([AO.vec e l]:List AO)[id-n]?=Q1 o)->id=n:=by
  rintro id o ⟨h1,h2⟩;have:=(dh.1 h2).1;simp at this;omega
 refine⟨hext,.vec n v (by simp[mz]) hone,?_,?_,?_,eW hn,hsame,hub,λb hb h=>(hU b hb).1 h,λb hb h _=>(hU b hb).2 h,?_,?_⟩
 ·intro id o h;rw[hwr id o h];trivial
 ·grind
 ·intro id h;unfold mz;rw[if_neg (by simp at h;omega)]
 ·rintro id o b (h|h) ho
  ·rw[hwr id o h]at ho;simp[aj,AO.owns]at ho
  ·have:=hidx id o h;subst this;obtain⟨_,x,hx,hb⟩:=ho;simp[mz]at hx;subst hx;exact hown b hb
 ·rintro id1 o1 id2 o2 b (h|h) h' ho ho'
  ·rw[hwr id1 o1 h]at ho;simp[aj,AO.owns]at ho
  ·rcases h' with h'|h'
   ·rw[hwr id2 o2 h']at ho';simp[aj,AO.owns]at ho'
   ·rw[hidx id1 o1 h,hidx id2 o2 h']
theorem RT{size n m:Nat}{f g:Nat->Nat->Value}{i j:Nat}(hj:j<size)(hi:i<n+m):
  (ej size n f++ej size m g)[i*size+j]?=Q1 (if i<n then f i j else g (i-n) j):=by
 by_cases h:i<n
 ·rw[if_pos h,mG]
  ·exact xX h hj
  ·rw[dX];have:=g7 size (yq h);rw[kN]at this;omega
 ·rw[if_neg h];have hge:n*size<=i*size:=g7 _ ow;rw[nG (by rw[dX];omega),dX];rw[show i*size+j-n*size=(i-n)*size+j by rw[Nat.sub_mul];omega];exact xX ow hj
theorem Src.ofSlR{e:Sh}{l:List (Sem e)}{a:Option Addr}{cap:Nat}{vals:Nat->Nat->Value}{t:TypeId}{el:TypeId}(hu:P.underlying t=Q1 (.slice el))
  (h1:∀x∈ej e.size l.length vals,x.oneCell'=Q3) (hn:a=Q2->l=[]) (hc:∀ad,a=Q1 ad->∀(q:Nat) x,(ej e.size l.length vals)[q]?=Q1 x->w.cell? (ad.add q)=Q1 x):
  Src P e.size t (.slice a l.length cap) l.length (ej e.size l.length vals) w:=by
 cases a with
 | none=>
  have:=hn rfl;subst this;simpa[ej]using Src.ofNil (P:=P) w (size:=e.size) hu cap
 |some ad=>exact Src.ofSlice w hu ad l.length cap _ dX (hc ad rfl) h1
theorem Er(z:Array Value)(n:Nat):(Builtin.zeroCells z n).size=n*z.size:=by simp[Builtin.zeroCells]
theorem Ga{n:Nat}{e:Sh}{l0 l':List (Sem e)}{elem:TypeId}{z:Value}{newCap:Nat}{f g:Nat->Nat->Value}(hn:ρ n=Q2)
  (hzc:z.cells.size=e.size) (hcap:l0.length+l'.length<=newCap) (hpos:0<newCap) (hmax:l0.length+l'.length<=1073741824)
  (hf:∀i(hi:i<l0.length)(j:Nat)(c:AV),(zq e l0[i])[j]?=Q1 c->Rv w U ρ c (f i j)) (hg:∀i(hi:i<l'.length)(j:Nat)(c:AV),(zq e l'[i])[j]?=Q1 c->Rv w U ρ c (g i j)):
  bA (w.drew.alloc (.cells ((ej e.size l0.length f++ej e.size l'.length g).toArray++Builtin.zeroCells z.cells (newCap-(l0.length+l'.length))) elem))
   (λb=>U b\/b=w.heap.size) (mz ρ n (.slice (Q1 ⟨w.heap.size,0,Q2⟩) (l0.length+l'.length) newCap)) n (.vec e (l0++l')):=by
 generalize hobj:Obj.cells ((ej e.size l0.length f++ej e.size l'.length g).toArray++Builtin.zeroCells z.cells (newCap-(l0.length+l'.length))) elem=ob;have hk:∀b,b<w.heap.size->¬U b->(w.drew.alloc ob).heap[b]?=w.heap[b]?:=λb hb _=>bj w.drew _ b hb
 have hu:∀b,b<w.heap.size->(U b\/b=w.heap.size)->U b:=λb hb h=>h.elim id (λe=>by omega)
 have hs:w.heap.size<=(w.drew.alloc ob).heap.size:=by rw[aX];exact Nat.le_succ _
 have hnew:(w.drew.alloc ob).heap[w.heap.size]?=Q1 ob:=cD w.drew ob;refine⟨_,newCap,by simp[mz],by simp;unfold aF;omega,.inr ⟨w.heap.size,elem,_,rfl,hpos,.inr rfl,by rw[hnew,<-hobj],?_,by simpa using hcap,?_⟩⟩
 ·simp only[Array.size_append,List.size_toArray,j9,dX,Er,hzc];rw[<-nF,<-nF];congr 1;omega
 ·intro i hi j c hc;simp only[j9]at hi;have hj:j<e.size:=by have:=(dh.1 hc).1;rwa [zW]at this
  refine⟨if i<l0.length then f i j else g (i-l0.length) j,?_,?_⟩
  ·rw[Array.getElem?_append_left]
   ·simpa using RT hj hi
   ·simp only[List.size_toArray,j9,dX];rw[<-nF];have:=g7 e.size (yq hi);rw[kN]at this;omega
  ·by_cases hlt:i<l0.length
   ·rw[if_pos hlt];rw[List.getElem_append_left hlt]at hc;exact(hf i hlt j c hc).mono hs hk hu (eW hn)
   ·rw[if_neg hlt];rw[List.getElem_append_right ow]at hc;exact(hg _ _ j c hc).mono hs hk hu (eW hn)
theorem mg.drew(w:World):mg w w.drew:=⟨ae _,rfl,rfl,rfl,λ_ _=>rfl⟩
theorem Kg{E:bW}(hE:EnvOk E){n:Nat}{hp:Nat->AO}{elem t t' el' ty:TypeId}{ab ax:AV}{vb vx:Value}{f:fT}{fp:List Nat}
  (h:(uI E hp n elem ab ax).val=Q1 f) (hu:E.P.underlying t=Q1 (.slice elem)) (hu':E.P.underlying t'=Q1 (.slice el'))
  (hb:Rv w U ρ ab vb) (hx:Rv w U ρ ax vx) (hub:∀b,U b->b<w.heap.size) (hfp:GZ w U ρ hp fp) (hin1:∀id∈ab.ids,id∈fp) (hin2:∀id∈ax.ids,id∈fp) (hn:ρ n=Q2):
  ∃v w' U' ρ',(Builtin.append_ #[t,t'] ty #[vb,vx]).run E.P w=.ok v w'/\Ef n hp f w U ρ v w' U' ρ'/\∀id o,(id,o)∈f.wr->id∈fp:=by
 have none0:∀(a:Option Addr)(i:TypeInfo),E.P.info? elem=Q1 i->∀x,(Builtin.lenOf x).run E.P w=.ok 0 w->(Builtin.firstCells i.size 0 x).run E.P w=.ok #[] w->
   (Builtin.append_ #[t,t'] ty #[.slice a 0 0,x]).run E.P w=.ok (.slice a 0 0) w:=by
  intro a i hi x hl hf;cases a<;>simp[Builtin.append_,bz hu,bz hu',Go.sizeOf,typeInfo,hi,hl,hf,storeCells]
 unfold uI at h;split at h
 ·
  rename_i e he;obtain⟨i,z,hinfo,hisz,hpos,hbytes,hz,hzc⟩:=hE.sh elem e he;split at h
  ·rename_i l hl;simp at h;obtain⟨hmax,rfl⟩:=h;cases hb with
   |nils a=>
   obtain⟨a',cap',g,rfl,hle,hg,hone,hnone,hcell⟩:=(Fh hl hx (λid hid=>hfp.ob id (hin2 id hid))).cells hpos;have hsrc:=Src.ofSlR (P:=E.P) (w:=w) (e:=e) (cap:=cap') hu' hone hnone hcell;rw[<-hisz]at hsrc;by_cases h0:l=[]
   ·subst h0;refine⟨.slice a 0 0,w,U,_,none0 a i hinfo _ (hsrc.len w) (by simpa[ej]using hsrc.cells),Ef.newVec sw hn rfl (mg.refl w) (λ_ _ _=>rfl) hub (λ_ _=>Iff.rfl) ?_ ?_,sw⟩
    ·exact⟨a,0,by simp[mz],sw,.inl ⟨rfl,rfl⟩⟩
    ·intro b hb;cases a<;>simp[fa]at hb
   ·have hlpos:0<l.length:=List.length_pos_iff.2 h0;have hold:(Builtin.firstCells i.size 0 (.slice a 0 0)).run E.P w.drew=.ok ([]:List Value).toArray w.drew:=by
     cases a<;>simp[Builtin.firstCells,loadCells,loadCellsFrom]
    have hrun:=run_append_grow_src (P:=E.P) w t t' ty elem i z hu hinfo hz a 0 0 [] hold (.slice a' l.length cap') l.length _ hsrc ow ow
     (growslice_fits ow (by have:(0+l.length)*i.bytes<=1073741824*131072:=Ff ow hbytes;omega))
    have hge:=grownCap_ge w (0+l.length) 0 elem
    have hvec:=Ga (w:=w) (U:=U) (ρ:=ρ) (n:=n) (e:=e) (l0:=[]) (l':=l) (elem:=elem) (z:=z) (newCap:=grownCap w (0+l.length) 0 elem) (f:=λ_ _=>undef) (g:=g) hn
     (by rw[hzc,hisz]) (by simpa using hge) ow (by simpa using hmax) sw hg
    have e0:ej e.size ([]:List (Sem e)).length (λ_ _=>undef)=[]:=by simp[ej]
    rw[e0]at hvec;simp only[jI]at hvec;rw[hisz]at hrun;refine⟨_,_,_,_,hrun,Ef.newVec sw hn rfl ((mg.drew w).trans (mg.alloc w.drew _ _)) (λb hb _=>bj w.drew _ b hb) ?_ ?_ hvec ?_,sw⟩
    ·intro b hb;rw[aX];rcases hb with hb|hb
     ·have:=hub b hb;exact Nat.lt_succ_of_lt this
     ·rw[hb];exact Nat.lt_succ_self _
    ·grind
    ·intro b hb;simp[fa]at hb;exact .inl ow
  ·simp at h
 ·
  rename_i e id he;obtain⟨i,z,hinfo,hisz,hpos,hbytes,hz,hzc⟩:=hE.sh elem e he;split at h
  ·rename_i e' l0 hid;split at h
   ·rename_i hee;subst hee;split at h
    ·rename_i l' hl;simp at h;obtain⟨hmax,rfl⟩:=h;have hidfp:=hin1 id (by simp[AV.ids]);cases hb with
     |vec _ _ hv hv1=>
     have hob:=hfp.ob id hidfp;rw[hid]at hob;obtain⟨a',cap',g,rfl,hle,hg,hone,hnone,hcell⟩:=(Fh hl hx (λid hid=>hfp.ob id (hin2 id hid))).cells hpos;have hsrc:=Src.ofSlR (P:=E.P) (w:=w) (e:=e') (cap:=cap') hu' hone hnone hcell;obtain⟨a0,cap0,f0,rfl,hle0,hf0,hone0,hnone0,hcell0⟩:=(L2 hob hv).cells hpos;have hwr:∀id' o,(id',o)∈[(id,AO.dead)]->o=.dead:=by intro id' o h;simp at h;exact h.2
     have hfpw:∀id' o,(id',o)∈[(id,AO.dead)]->id'∈fp:=by intro id' o h;simp at h;rw[h.1];exact hidfp
     by_cases hroom:l0.length+l'.length<=cap0
     ·
      obtain⟨a1,c1,hv1',hm1,h3⟩:=hob;rw[hv]at hv1';cases hv1';rcases h3 with⟨rfl,rfl⟩|⟨b,T,arr,rfl,hc,hUb,hbb,hsz,hle1,hrr⟩
      ·have hl0:l'=[]:=by simpa using hroom
       subst hl0;rw[<-hisz]at hsrc;refine⟨.slice a0 0 0,w,U,_,none0 a0 i hinfo _ (hsrc.len w) (by simpa[ej]using hsrc.cells),Ef.newVec hwr hn rfl (mg.refl w) (λ_ _ _=>rfl) hub (λ_ _=>Iff.rfl) ?_ ?_,hfpw⟩
       ·exact⟨a0,0,by simp[mz],sw,.inl ⟨sw,rfl⟩⟩
       ·intro b hb;cases a0<;>simp[fa]at hb
      ·have hnl:=dX (size:=e'.size) (n:=l'.length) (vals:=g);have hmul:(l0.length+l'.length)*e'.size<=cap0*e'.size:=g7 _ hroom;rw[nF]at hmul
       have hrun:=run_append_room_src (P:=E.P) w t t' ty elem i hu hinfo b 0 l0.length cap0 (.slice a' l'.length cap') l'.length _ (by rw[hisz];exact hsrc) hroom
        (λj hj=>by
         have:0+l0.length*i.size+j<arr.size:=by rw[hisz];omega
         simp only[World.cell?,hbb,Option.isSome_none,zF,if_false,td this,Fa])
        (λj hj=>by simp[World.frozen?,hbb])
       rw[hisz,jJ]at hrun;have hown:aj ρ id (hp id) b:=⟨by rw[hid];rfl,_,hv,by simp[fa];omega⟩;have hk:∀b',b'<w.heap.size->¬U b'->(w.setCells b (l0.length*e'.size) (ej e'.size l'.length g)).heap[b']?=w.heap[b']?:=λb' _ hb'=>bV _ _ _ _ _ (λe=>hb' (e▸hUb))
       have hs:w.heap.size<=(w.setCells b (l0.length*e'.size) (ej e'.size l'.length g)).heap.size:=by rw[jD];exact ae _
       refine⟨_,_,U,_,hrun,Ef.newVec hwr hn rfl (mg.setCells _ w b _) ?_ ?_ (λ_ _=>Iff.rfl) ?_ ?_,hfpw⟩
       ·intro b' _ hno;exact bV _ _ _ _ _ (λe=>hno id _ (by simp;rfl) (e▸hown))
       ·grind
       ·refine⟨Q1 ⟨b,0,Q2⟩,cap0,by simp[mz],by simp;unfold aF;omega,.inr ⟨b,T,_,rfl,hc,hUb,jA _ w b _ hbb,by simp[ip,hsz],by simpa using hroom,?_⟩⟩;intro i' hi' j c hc';simp only[j9]at hi';have hj:j<e'.size:=by have:=(dh.1 hc').1;rwa [zW]at this
        have hq:i'*e'.size+j<(l0.length+l'.length)*e'.size:=by
         have:=g7 e'.size (yq hi');rw[kN]at this;omega
        rw[nF]at hq;simp only[List.getElem?_toArray];rw[lB];by_cases hlt:i'<l0.length
        ·have hq2:i'*e'.size+j<l0.length*e'.size:=by
          have:=g7 e'.size (yq hlt);rw[kN]at this;omega
         rw[if_neg ow];rw[List.getElem_append_left hlt]at hc';obtain⟨x,h1,h2⟩:=hrr i' hlt j c hc';exact⟨x,by simpa using h1,h2.mono hs hk (λ_ _ h=>h) (eW hn)⟩
        ·have hge:l0.length*e'.size<=i'*e'.size:=g7 _ ow;rw[if_pos (by grind)];rw[List.getElem_append_right ow]at hc';refine⟨g (i'-l0.length) j,?_,(hg _ _ j c hc').mono hs hk (λ_ _ h=>h) (eW hn)⟩;rw[show i'*e'.size+j-l0.length*e'.size=(i'-l0.length)*e'.size+j by rw[Nat.sub_mul];omega];exact xX ow hj
       ·intro b' hb';simp[fa]at hb';simp_all
     ·
      have hold:(Builtin.firstCells i.size l0.length (.slice a0 l0.length cap0)).run E.P w.drew=.ok (ej e'.size l0.length f0).toArray w.drew:=by
       cases a0 with
       | none=>
        have:=hnone0 rfl;subst this;simp[Builtin.firstCells,ej]
       | some ad=>
        exact run_firstCells_some w.drew i.size l0.length ad l0.length cap0 _ (by rw[dX,hisz]) (λq x hq=>by simpa using hcell0 ad rfl q x hq)
      have hrun:=run_append_grow_src (P:=E.P) w t t' ty elem i z hu hinfo hz a0 l0.length cap0 _ hold (.slice a' l'.length cap') l'.length _ (by rw[hisz];exact hsrc) ow ow
       (growslice_fits ow (by have:(l0.length+l'.length)*i.bytes<=1073741824*131072:=Ff ow hbytes;omega))
      have hge:=grownCap_ge w (l0.length+l'.length) cap0 elem
      have hvec:=Ga (w:=w) (U:=U) (ρ:=ρ) (n:=n) (e:=e') (l0:=l0) (l':=l') (elem:=elem) (z:=z) (newCap:=grownCap w (l0.length+l'.length) cap0 elem) (f:=f0) (g:=g) hn
       (by rw[hzc,hisz]) hge ow hmax hf0 hg
      refine⟨_,_,_,_,hrun,Ef.newVec hwr hn rfl ((mg.drew w).trans (mg.alloc w.drew _ _)) (λb hb _=>bj w.drew _ b hb) ?_ ?_ hvec ?_,hfpw⟩
      ·intro b hb;rw[aX];rcases hb with hb|hb
       ·have:=hub b hb;exact Nat.lt_succ_of_lt this
       ·rw[hb];exact Nat.lt_succ_self _
      ·grind
      ·intro b hb;simp[fa]at hb;exact .inl ow
    ·simp at h
   ·simp at h
  ·simp at h
 ·simp at h
end
section
variable {P:Program} {w:World} {U:Nat->Prop} {ρ:Nat->Option Value}
theorem rX(a b:zB):((⟨a.toArray⟩:ByteArray)==⟨b.toArray⟩)=(a==b):=by
 show(a.toArray==b.toArray)=(a==b);simp
abbrev xx(es:List (zB×AV)):List Value:=es.map λp=>Value.string ⟨p.1.toArray⟩
theorem F4:∀(es:List (zB×AV))(ents:List MapEntry)(s:zB)(i:Nat),ents.map (·.key)=xx es->es.any (λp=>p.1==s)=Q4->
  Instr.findNow .string (.string ⟨s.toArray⟩) ents i=Q1 Q2
 |[],[],_,_,_,_=>rfl
 |[],_::_,_,_,h,_=>by simp at h
 |_::_,[],_,_,h,_=>by simp at h
 | p::es,e::ents,s,i,h,hn=>by
  simp only[xx,kc,List.cons.injEq]at h;simp only[List.any_cons,Bool.or_eq_false_iff]at hn;have hne:(s==p.1)=Q4:=by
   have:=hn.1;simp only[bX,ne_eq]at this⊢;exact λe=>this e.symm
  simp only[Instr.findNow,h.1,Instr.sameNow,rX,hne];exact F4 es ents s (i+1) h.2 hn.2
theorem F3:∀(es:List (zB×AV))(ents:List MapEntry)(s:zB)(i:Nat)(z:Tr fT)(f:fT),ents.map (·.key)=xx es->du w U ρ (es.map (·.2)) (ents.map (·.val))->(OU es s z).val=Q1 f->
  (∃j v av,Instr.findNow .string (.string ⟨s.toArray⟩) ents i=Q1 (Q1 (j,v))/\Rv w U ρ av v/\f={val:=av})\/(Instr.findNow .string (.string ⟨s.toArray⟩) ents i=Q1 Q2/\z.val=Q1 f)
 |[],[],_,_,_,_,_,_,hv=>.inr ⟨rfl,hv⟩
 |[],_::_,_,_,_,_,h,_,_=>by simp at h
 |_::_,[],_,_,_,_,h,_,_=>by simp at h
 | p::es,e::ents,s,i,z,f,h,hr,hv=>by
  simp only[xx,kc,List.cons.injEq]at h;obtain⟨k,av⟩:=p;simp only[OU,Tr.val]at hv;simp only[Instr.findNow,h.1,Instr.sameNow,rX];cases hk:s==k with
  | true=>
   rw[hk]at hv;simp[ret]at hv;subst hv;exact .inl ⟨i,e.val,av,rfl,hr.rv 0 av e.val rfl rfl,rfl⟩
  | false=>
   rw[hk]at hv;simp at hv;refine F3 es ents s (i+1) z f h.2 ⟨by have:=hr.len;simpa using this,λj c v hc hv'=>hr.rv (j+1) c v (by simpa using hc) (by simpa using hv')⟩ hv
theorem mg.allocO(w:World)(o:Obj):mg w (w.alloc o) where
 sz:=by rw[aX];omega
 os:=rfl
 out:=rfl
 tape:=rfl
 fr:=λa h=>BD (bj w _ _ h)
theorem Ef.mkMap{n:Nat}{hp:Nat->AO}{o0:AO}(ho0:o0=.fmap []\/∃u,o0=.vmap u [])(hub:∀b,U b->b<w.heap.size)(hn:ρ n=Q2):
  Ef n hp {val:=.mp n,nw:=[o0]} w U ρ (.map (Q1 w.heap.size)) (w.alloc (.map #[] 0)) (λb=>U b\/b=w.heap.size) (mz ρ n (.map (Q1 w.heap.size))):=by
 have hu:∀b,b<w.heap.size->(U b\/b=w.heap.size)->U b:=λb hb h=>h.elim id (λe=>by omega)
 refine⟨mg.allocO w _,.mp n _ (by simp[mz]) rfl,sw,?_,?_,eW hn,λb hb _=>bj w _ b hb,?_,λb hb h=>hu b hb h,λb _ h _=>.inl h,?_,?_⟩
 ·intro j o hj;cases j with
  |succ j=>simp at hj
  | zero=>
   simp at hj;subst hj;rcases ho0 with rfl|⟨u,rfl⟩
   ·exact⟨w.heap.size,#[],0,by simp[mz],.inr rfl,cD w _,⟨rfl,sw⟩,rfl⟩
   ·exact⟨w.heap.size,#[],0,by simp[mz],.inr rfl,cD w _,rfl,sw,rfl,sw⟩
 ·intro id h;unfold mz;rw[if_neg (by simp at h;omega)]
 ·intro b h;rw[aX];grind
 ·rintro id o b (h|⟨h1,h2⟩) ho
  ·simp at h
  ·have e1:id-n<1:=by have:=(dh.1 h2).1;simpa using this
   have hid:id=n:=by omega
   subst hid;obtain⟨_,v,hv,hb⟩:=ho;simp[mz]at hv;subst hv;simp[fa]at hb;exact .inl ow
 grind
/-! Yi that are values. -/
def kav(k:Int×Int×zB):AV:=.agg [.int .i64 k.1,.int .i64 k.2.1,.str k.2.2]
theorem Jg{a:AV}{k:Int×Int×zB}(h:R5 a=Q1 k):a=kav k:=by
 unfold R5 at h;split at h
 ·cases h;rfl
 ·cases h
theorem M0{k:Int×Int×zB}{v:Value}(h:Rv w U ρ (kav k) v):v=dN k/\iX k:=by
 unfold kav at h;cases h with
 |agg _ vs hl h1 hr=>
 match vs,hl,hr with
 | [v1,v2,v3],_,hr=>
  have e1:=hr 0 _ v1 rfl rfl;have e2:=hr 1 _ v2 rfl rfl;have e3:=hr 2 _ v3 rfl rfl;cases e1 with
  |int _ _ q1=>
  cases e2 with
  |int _ _ q2=>
  cases e3 with
  |str _ q3=>
  exact⟨rfl,q1,q2,q3⟩
theorem WC{k:Int×Int×zB}(h:iX k):Rv w U ρ (kav k) (dN k):=by
 refine .agg _ [.int .i64 k.1,.int .i64 k.2.1,.string ⟨k.2.2.toArray⟩] rfl (by simp[Value.oneCell']) ?_;intro j c v hc hv
 match j,hc,hv with
 |0,hc,hv=>cases hc;cases hv;exact .int _ _ h.1
 |1,hc,hv=>cases hc;cases hv;exact .int _ _ h.2.1
 |2,hc,hv=>cases hc;cases hv;exact .str _ h.2.2
theorem WZ{kt:TypeId}(h:nr P kt=Q3)(a b:Int×Int×zB):eqA P kt (kav a) (kav b)=Q1 (a==b):=by
 unfold nr at h;split at h
 ·rename_i fs hu;simp only[aE]at h;obtain⟨⟨h1,h2⟩,h3⟩:=h;split at h3
  ·rename_i f1 f2 f3 hfs;simp only[aE,aZ,HC,MZ]at h3;obtain⟨⟨⟨⟨n1,o1⟩,t1⟩,⟨⟨n2,o2⟩,t2⟩⟩,⟨⟨n3,o3⟩,t3⟩⟩:=h3;split at t1
   ·rename_i k1 u1;split at t2
    ·rename_i k2 u2;split at t3
     ·rename_i u3;simp only[kav,eqA,hu,h1,h2,hfs,EG,n1,o1,n2,o2,n3,o3,eqT,u1,u2,u3,beq_self_eq_true,yv,if_true,Bool.and_true];rfl
     ·cases t3
    ·cases t2
   ·cases t1
  ·cases h3
 ·cases h
theorem Lz{kt:TypeId}(h:nr P kt=Q3){a b:Int×Int×zB}(ha:iX a)(hb:iX b):(Op.equal kt (dN a) (dN b)).run P w=.ok (a==b) w:=
 (MF (U:=λ_=>False) (ρ:=λ_=>Q2) (WZ h a b) (WC ha) (WC hb) (by intro _ _ _ _ h;cases h) (by intro _ _ h;cases h)).1
theorem dg{kt:TypeId}(h:nr P kt=Q3)(k:Int×Int×zB)(em:Bool):(Instr.checkKey em 10000 kt (dN k)).run P w=.ok () w:=by
 unfold nr at h;split at h
 ·rename_i fs hu;simp only[aE]at h;obtain⟨⟨h1,h2⟩,h3⟩:=h;split at h3
  ·rename_i f1 f2 f3 hfs;simp only[aE,aZ,HC,MZ]at h3;obtain⟨⟨⟨⟨n1,o1⟩,t1⟩,⟨⟨n2,o2⟩,t2⟩⟩,⟨⟨n3,o3⟩,t3⟩⟩:=h3;split at t1
   ·rename_i k1 u1;split at t2
    ·rename_i k2 u2;split at t3
     ·rename_i u3;have e:fs=#[f1,f2,f3]:=by apply ml;simpa using hfs
      subst e;have a1:Ei P f1.type=Q1 Q4:=by simp[Ei,u1]
      have a2:Ei P f2.type=Q1 Q4:=by simp[Ei,u2]
      have a3:Ei P f3.type=Q1 Q4:=by simp[Ei,u3]
      show(Instr.checkKey em (9999+1) kt (dN k)).run P w=_;rw[Instr.checkKey.eq_2];have p1:(part f1.type #[Value.int .i64 k.1,.int .i64 k.2.1,.string ⟨k.2.2.toArray⟩] f1.offset).run P w=.ok (.int .i64 k.1) w:=by simp[part,jS a1,o1]
      have p2:(part f2.type #[Value.int .i64 k.1,.int .i64 k.2.1,.string ⟨k.2.2.toArray⟩] f2.offset).run P w=.ok (.int .i64 k.2.1) w:=by simp[part,jS a2,o2]
      have p3:(part f3.type #[Value.int .i64 k.1,.int .i64 k.2.1,.string ⟨k.2.2.toArray⟩] f3.offset).run P w=.ok (.string ⟨k.2.2.toArray⟩) w:=by simp[part,jS a3,o3]
      have c1:(Instr.checkKey em (9998+1) f1.type (.int .i64 k.1)).run P w=.ok () w:=by
       rw[Instr.checkKey.eq_2];simp[bz u1,Result.andThen]
      have c2:(Instr.checkKey em (9998+1) f2.type (.int .i64 k.2.1)).run P w=.ok () w:=by
       rw[Instr.checkKey.eq_2];simp[bz u2,Result.andThen]
      have c3:(Instr.checkKey em (9998+1) f3.type (.string ⟨k.2.2.toArray⟩)).run P w=.ok () w:=by
       rw[Instr.checkKey.eq_2];simp[bz u3,Result.andThen]
      have m1:f1.name≠"_":=by simpa using n1
      have m2:f2.name≠"_":=by simpa using n2
      have m3:f3.name≠"_":=by simpa using n3
      simp[dN,bz hu,Result.andThen,p1,p2,p3,c1,c2,c3,m1,m2,m3]
     ·cases t3
    ·cases t2
   ·cases t1
  ·cases h3
 ·cases h
def cn(es:List ((Int×Int×zB)×Int))(k:Int×Int×zB)(i:Nat):Option (Nat×Int):=match es with
 |[]=>Q2
 |p::r=>bif k==p.1 then Q1 (i,p.2)else cn r k (i+1)
abbrev Ce(u:Bool)(es:List ((Int×Int×zB)×Int)):List (Value×Value):=es.map λp=>(dN p.1,uE u p.2)
theorem ni{kt:TypeId}(h:nr P kt=Q3){k:Int×Int×zB}(hk:iX k)(u:Bool):∀(es:List ((Int×Int×zB)×Int))(ents:List MapEntry)(i:Nat),(ents.map λe=>(e.key,e.val))=Ce u es->(∀p∈es,cq .i64 p.2/\iX p.1)->
  (Instr.findAsking kt (dN k) ents i).run P w=.ok ((cn es k i).map λq=>(q.1,uE u q.2)) w
 |[],[],_,_,_=>by simp[Instr.findAsking,cn]
 |[],_::_,_,h,_=>by simp at h
 |_::_,[],_,h,_=>by simp at h
 | p::es,e::ents,i,he,ho=>by
  simp only[Ce,kc,List.cons.injEq,cB]at he;obtain⟨⟨e1,e2⟩,e3⟩:=he;have hp:=ho p (yn ..);have ih:=ni h hk u es ents (i+1) e3 (λq hq=>ho q (sB _ hq));simp only[Instr.findAsking,e1,cF,Lz h hk hp.2,pm,cn];cases hq:k==p.1
  ·simpa using ih
  ·simp[e2]
theorem jB{kt:TypeId}(h:nr P kt=Q3){k:Int×Int×zB}(hk:iX k)(u:Bool)(es:List ((Int×Int×zB)×Int))(ents:List MapEntry)(he:(ents.map λe=>(e.key,e.val))=Ce u es)(ho:∀p∈es,cq .i64 p.2/\iX p.1):
  (Instr.findKey kt (dN k) ents).run P w=.ok ((cn es k 0).map λq=>(q.1,uE u q.2)) w:=by
 have hu:∃fs,P.underlying kt=Q1 (.struct fs):=by
  unfold nr at h;split at h
  ·rename_i fs hu;exact⟨fs,hu⟩
  ·cases h
 obtain⟨fs,hu⟩:=hu;have hf:=ni (w:=w) h hk u es ents 0 he ho;cases ents with
 | nil=>
  cases es with
  |nil=>simp[Instr.findKey,bz hu,Result.andThen,Instr.findNow,cn]
  |cons p r=>simp at he
 | cons e r=>
  have hs:Instr.findNow (.struct fs) (dN k) (e::r) 0=Q2:=by
   simp only[Instr.findNow];have:Instr.sameNow (.struct fs) (dN k) e.key=Q2:=by simp[Instr.sameNow]
   rw[this]
  simp only[Instr.findKey,cF,bz hu,pm,hs];exact hf
theorem lG:∀{es:List ((Int×Int×zB)×Int)}{k:Int×Int×zB}{i:Nat},cn es k i=Q2->nv es k=Q4/\gB es k=0/\∀x,kr es k x=es++[(k,x)]
 |[],_,_,_=>⟨rfl,rfl,λ_=>rfl⟩
 | p::r,k,i,h=>by
  unfold cn at h;cases hq:k==p.1
  ·rw[hq]at h;obtain⟨h1,h2,h3⟩:=lG (i:=i+1) (by simpa using h);refine⟨by simpa[nv,hq]using h1,by simpa[gB,hq]using h2,λx=>?_⟩;rw[kr,hq,h3];rfl
  ·rw[hq]at h;cases h
theorem lH:∀{es:List ((Int×Int×zB)×Int)}{k:Int×Int×zB}{i j:Nat}{n:Int},cn es k i=Q1 (j,n)->i<=j/\nv es k=Q3/\gB es k=n/\(∃p,es[j-i]?=Q1 p/\p.1=k/\p.2=n)/\∀x,kr es k x=es.set (j-i) (k,x)
 |[],_,_,_,_,h=>by cases h
 | p::r,k,i,j,n,h=>by
  unfold cn at h;cases hq:k==p.1
  ·rw[hq]at h;obtain⟨h0,h1,h2,⟨q,h4,h5⟩,h3⟩:=lH (i:=i+1) (by simpa using h);have e:j-i=(j-(i+1))+1:=by omega
   refine⟨ow,by simpa[nv]using .inr (by simpa[nv]using h1),by simpa[gB,hq]using h2,⟨q,by rw[e];simpa using h4,h5⟩,λx=>?_⟩;rw[kr,hq,h3,e];rfl
  ·rw[hq]at h;simp only[zZ,bB,cB]at h;obtain⟨rfl,rfl⟩:=h;have hk:k=p.1:=by simpa using hq
   refine⟨ae _,by simp[nv,hq],by simp[gB,hq],⟨p,sw,hk.symm,rfl⟩,λx=>?_⟩;rw[kr,hq];simp
theorem sS(k:Int×Int×zB):Instr.sameBits 10000 (dN k) (dN k)=Q3:=by
 show Instr.sameBits (9999+1) (dN k) (dN k)=Q3;simp[dN,Instr.sameBits,rX]
theorem Ef.setMap{n:Nat}{hp:Nat->AO}{id r:Nat}{ents ents':Array MapEntry}{clock clock':Nat}{o':AO}(h1:ρ id=Q1 (.map (Q1 r)))(_:U r)(h3:w.heap[r]?=Q1 (.map ents clock))(hown:(hp id).owns=Q3)
  (hok:bA {w with heap:=w.heap.setIfInBounds r (.map ents' clock')} U ρ id o') (hub:∀b,U b->b<w.heap.size) {rv:AV} {vv:Value} (hrv:Rv {w with heap:=w.heap.setIfInBounds r (.map ents' clock')} U ρ rv vv):
  Ef n hp {val:=rv,wr:=[(id,o')]} w U ρ vv {w with heap:=w.heap.setIfInBounds r (.map ents' clock')} U ρ:=by
 obtain⟨e1,e2⟩:=BH (o':=Obj.map ents' clock') h3;have hrlt:r<w.heap.size:=(dU.1 h3).1;have hown':aj ρ id (hp id) r:=⟨hown,_,h1,rfl⟩;refine⟨⟨sw,rfl,rfl,rfl,?_⟩,hrv,?_,sw,λ_ _=>rfl,λ_ _ h=>h,?_,?_,λ_ _ h=>h,λ_ _ h _=>h,?_,?_⟩
 ·intro a _;by_cases hab:a.block=r
  ·unfold World.frozen?;simp only[hab,e1,h3]
  ·exact BD (e2 a.block hab)
 ·simp_all
 ·grind
 ·simp_all
 ·rintro id' o'' b (h'|⟨_,h'⟩) ho'
  ·simp only[gn,cB]at h';obtain⟨rfl,rfl⟩:=h';refine .inr ⟨id',_,gn.2 rfl,?_⟩;obtain⟨_,v,hv,hb⟩:=ho';exact⟨hown,v,hv,hb⟩
  ·simp at h'
 simp_all
theorem zar{u:Bool}{a:AV}{n:Int}{v:Value}(h:zgX u a=Q1 n)(hr:Rv w U ρ a v):v=uE u n/\cq .i64 n:=by
 unfold zgX at h;split at h
 ·cases h;cases hr with
  |int _ _ h1=>exact⟨rfl,h1⟩
 ·cases h;cases hr with
  |agg _ vs hl h1 hr=>
  match vs,hl with
  |[],_=>exact⟨rfl,by unfold cq;decide⟩
 ·cases h
theorem lL.push{ents:Array MapEntry}{clock:Nat}(h:lL ents clock)(k v:Value):lL (ents.push {key:=k,val:=v,born:=clock}) (clock+1):=by
 refine⟨by simp[h.1],λi e he=>?_⟩;rw[Array.getElem?_push]at he;split at he
 ·rename_i hi;cases he;rw[hi];exact h.1
 ·exact h.2 i e he
theorem lL.modify{ents:Array MapEntry}{clock:Nat}(h:lL ents clock)(j:Nat)(f:MapEntry->MapEntry)(hf:∀e,(f e).born=e.born):lL (ents.modify j f) clock:=by
 refine⟨by simp[h.1],λi e he=>?_⟩;rw[uj]at he;split at he
 ·cases hx:ents[i]? with
  |none=>rw[hx]at he;simp at he
  | some e0=>
   rw[hx]at he;simp at he;subst he;rw[hf];exact h.2 i e0 hx
 ·exact h.2 i e he
theorem yH{n:Nat}{hp:Nat->AO}{t:TypeId}{am ak ax:AV}{vm vk vx:Value}{f:fT}{fp:List Nat}(h:(uK P hp t am ak ax).val=some f)
  (hm:Rv w U ρ am vm) (hk:Rv w U ρ ak vk) (hx:Rv w U ρ ax vx) (hub:∀b,U b->b<w.heap.size) (hfp:GZ w U ρ hp fp) (hin:∀id∈am.ids,id∈fp):
  ∃w',(Instr.mapUpdate t vm vk vx).run P w=.ok () w'/\Ef n hp f w U ρ undef w' U ρ/\∀id o,(id,o)∈f.wr->id∈fp:=by
 unfold uK at h;split at h
 ·rename_i kt et ht;split at h
  ·rename_i hkt;split at h
   ·rename_i id s;have hid:=hin id (by simp[AV.ids]);have ho:=hfp.ob id hid;split at h
    ·rename_i es hes;simp only[Tr.val]at h;split at h
     ·rename_i hnone;simp only[yo]at hnone;simp only[bB]at h;subst h;rw[hes]at ho;obtain⟨r,ents,clock,h1,h2,h3,h4,h5⟩:=ho;cases hm with
      |mp _ _ hv _=>
      rw[h1]at hv;cases hv;cases hk with
      |str _ hs=>
      have hf:=F4 es ents.toList s 0 h5 hnone;obtain⟨e1,e2⟩:=BH (o':=Obj.map (ents.push {key:=.string ⟨s.toArray⟩,val:=vx,born:=clock}) (clock+1)) h3;have hrlt:r<w.heap.size:=(dU.1 h3).1;have hown:aj ρ id (hp id) r:=⟨by rw[hes];rfl,_,h1,rfl⟩;have hkk:∀b',b'<w.heap.size->¬U b'->(w.heap.setIfInBounds r (Obj.map (ents.push {key:=.string ⟨s.toArray⟩,val:=vx,born:=clock}) (clock+1)))[b']?=w.heap[b']?:=λb' _ hb'=>e2 b' (λe=>hb' (e▸h2))
      refine⟨{w with heap:=w.heap.setIfInBounds r (.map (ents.push {key:=.string ⟨s.toArray⟩,val:=vx,born:=clock}) (clock+1))},?_,?_,?_⟩
      ·simp[Instr.mapUpdate,bz ht,kM h3,JD hkt (k:=.string ⟨s.toArray⟩) trivial,JE hkt hf,yl _ h3,Result.andThen]
      ·refine⟨⟨sw,rfl,rfl,rfl,?_⟩,.tup [] [] rfl sw,?_,sw,λ_ _=>rfl,λ_ _ h=>h,?_,?_,λ_ _ h=>h,λ_ _ h _=>h,?_,?_⟩
       ·intro a _;by_cases hab:a.block=r
        ·unfold World.frozen?;simp only[hab,e1,h3]
        ·exact BD (e2 a.block hab)
       ·intro id' o' h';simp only[gn,cB]at h';obtain⟨rfl,rfl⟩:=h';refine⟨r,_,_,h1,h2,e1,?_,?_⟩
        ·have hm1:du {w with heap:=w.heap.setIfInBounds r (.map (ents.push {key:=.string ⟨s.toArray⟩,val:=vx,born:=clock}) (clock+1))} U ρ (es.map (·.2)) (ents.toList.map (·.val)):=
          h4.mono sw hkk (λ_ _ h=>h) (λ_ _ h=>h)
         have hx1:Rv {w with heap:=w.heap.setIfInBounds r (.map (ents.push {key:=.string ⟨s.toArray⟩,val:=vx,born:=clock}) (clock+1))} U ρ ax vx:=
          hx.mono sw hkk (λ_ _ h=>h) (λ_ _ h=>h)
         refine⟨by have:=hm1.len;simp at this⊢;exact this,λj c v hc hv=>?_⟩;simp only[iA,kc,List.map_nil,Array.toList_push]at hc hv;by_cases hj:j<(es.map (·.2)).length
         ·rw[mG hj]at hc;rw[mG (by rw[<-hm1.len];exact hj)]at hv;exact hm1.rv j c v hc hv
         ·rw[nG ow]at hc;rw[nG (by rw[<-hm1.len];omega),<-hm1.len]at hv;grind
        simp_all
       ·grind
       ·simp_all
       ·rintro id' o' b (h'|⟨_,h'⟩) ho'
        ·simp only[gn,cB]at h';obtain⟨rfl,rfl⟩:=h';refine .inr ⟨id',_,gn.2 rfl,?_⟩;obtain⟨_,v,hv,hb⟩:=ho';exact⟨by rw[hes];rfl,v,hv,hb⟩
        ·simp at h'
       simp_all
      simp_all
     ·cases h
    ·simp at h
   ·simp at h
  ·split at h
   ·rename_i hvk;split at h
    ·rename_i id v hvk2;have hid:=hin id (by simp[AV.ids]);have ho:=hfp.ob id hid;split at h
     ·rename_i u es hes;split at h
      ·rename_i nn hnn;simp only[Tr.val_ok,bB]at h;subst h;rw[hes]at ho;obtain⟨r,ents,clock,h1,h2,h3,h4,h5⟩:=ho;cases hm with
       |mp _ _ hv _=>
       rw[h1]at hv;cases hv;rw[Jg hvk2]at hk;obtain⟨rfl,hko⟩:=M0 hk;obtain⟨rfl,hno⟩:=zar hnn hx;have hfk:=jB (w:=w) hvk hko u es ents.toList h4 h5.1;have hown:(hp id).owns=Q3:=by rw[hes];rfl
       have hwrs:∀id' o',(id',o')∈[(id,AO.vmap u (kr es v nn))]->id'∈fp:=by
        intro id' o' h';simp only[gn,cB]at h';rw[h'.1];exact hid
       cases hfi:cn es v 0 with
       | none=>
        rw[hfi]at hfk;obtain⟨_,_,hput⟩:=lG hfi;refine⟨{w with heap:=w.heap.setIfInBounds r (.map (ents.push {key:=dN v,val:=uE u nn,born:=clock}) (clock+1))},?_,?_,hwrs⟩
        ·simp[Instr.mapUpdate,bz ht,kM h3,dg hvk,hfk,yl _ h3,Result.andThen]
        ·refine Ef.setMap h1 h2 h3 hown ?_ hub (.tup [] [] rfl sw);refine⟨r,_,_,h1,h2,(BH h3).1,?_,?_,h5.2.push _ _⟩
         ·simp_all
         grind
       | some q=>
        obtain⟨j,m⟩:=q;rw[hfi]at hfk;obtain⟨_,_,_,⟨p,hpj,hpk,hpn⟩,hput⟩:=lH hfi;rw[Nat.sub_zero]at hpj hput;have hent:∃e,ents.toList[j]?=Q1 e/\e.key=dN v:=by
         have:(ents.toList.map λe=>(e.key,e.val))[j]?=Q1 (dN p.1,uE u p.2):=by
          rw[h4];simp[hpj]
         rw[fA,eD]at this;obtain⟨e,he1,he2⟩:=this;simp only[cB]at he2;exact⟨e,he1,by rw[he2.1,hpk]⟩
        obtain⟨e,he1,he2⟩:=hent;have he3:ents[j]?=Q1 e:=by rw[<-sA];exact he1
        refine⟨{w with heap:=w.heap.setIfInBounds r (.map (ents.modify j λe=>{e with key:=dN v,val:=uE u nn}) clock)},?_,?_,hwrs⟩
        ·have hst:(Instr.keyThatStays (dN v) (dN v)).run P w=.ok (dN v) w:=by
          simp[Instr.keyThatStays,sS]
         simp[Instr.mapUpdate,bz ht,kM h3,dg hvk,hfk,he3,he2,hst,yl _ h3,Result.andThen]
        ·refine Ef.setMap h1 h2 h3 hown ?_ hub (.tup [] [] rfl sw);refine⟨r,_,_,h1,h2,(BH h3).1,?_,?_,h5.2.modify _ _ (λ_=>rfl)⟩
         ·rw[hput];apply Fb;intro q;have h4q:(ents.toList.map λe=>(e.key,e.val))[q]?=(Ce u es)[q]?:=by rw[h4]
          grind
         grind
      ·simp at h
     ·simp at h
    ·simp at h
   ·simp at h
  ·simp at h
 ·simp at h
theorem Cx:∀(es:List (zB×AV))(ents:List MapEntry)(s:zB)(i:Nat)(z:Tr fT)(f:fT),ents.map (·.key)=xx es->du w U ρ (es.map (·.2)) (ents.map (·.val))->(HK es s z).val=Q1 f->
  (∃j v av,Instr.findNow .string (.string ⟨s.toArray⟩) ents i=Q1 (Q1 (j,v))/\Rv w U ρ av v/\f={val:=.tup [av,.kb Q3]})\/(Instr.findNow .string (.string ⟨s.toArray⟩) ents i=Q1 Q2/\z.val=Q1 f)
 |[],[],_,_,_,_,_,_,hv=>.inr ⟨rfl,hv⟩
 |[],_::_,_,_,_,_,h,_,_=>by simp at h
 |_::_,[],_,_,_,_,h,_,_=>by simp at h
 | p::es,e::ents,s,i,z,f,h,hr,hv=>by
  simp only[xx,kc,List.cons.injEq]at h;obtain⟨k,av⟩:=p;simp only[HK,Tr.val]at hv;simp only[Instr.findNow,h.1,Instr.sameNow,rX];cases hk:s==k with
  | true=>
   rw[hk]at hv;simp[ret]at hv;subst hv;exact .inl ⟨i,e.val,av,rfl,hr.rv 0 av e.val rfl rfl,rfl⟩
  | false=>
   rw[hk]at hv;simp at hv;refine Cx es ents s (i+1) z f h.2 ⟨by have:=hr.len;simpa using this,λj c v hc hv'=>hr.rv (j+1) c v (by simpa using hc) (by simpa using hv')⟩ hv
theorem rS{a b:AV}{x y:Value}(ha:Rv w U ρ a x)(hb:Rv w U ρ b y):Rv w U ρ (.tup [a,b]) (.tuple #[x,y]):=by
 refine .tup _ [x,y] rfl ?_;grind
theorem qz{et:TypeId}{z:AV}(hz:wy P et=Q1 z):∃i zv,P.info? et=Q1 i/\i.zero=Q1 zv/\z=BB zv:=by
 unfold wy at hz;split at hz
 ·rename_i i hinfo;simp only[eD]at hz;grind
 ·cases hz
theorem SJ{zv:Value}{k:IntKind}{n:Int}(h:JA zv=.int k n):zv=.int k n:=by
 unfold JA at h;grind
theorem JB{zv:Value}{k:IntKind}{n:Int}(h:BB zv=.int k n):zv=.int k n:=by
 unfold BB at h;split at h
 ·split at h<;>cases h
 ·exact SJ h
theorem Qm{zv:Value}{cs:List AV}(h:BB zv=.agg cs)(h0:cs.isEmpty=Q3):zv=.agg #[]:=by
 unfold BB at h;split at h
 ·rename_i cs';split at h
  ·simp_all
  ·cases h
 ·unfold JA at h;grind
theorem Kh{hp:Nat->AO}{t:TypeId}{ax ai:AV}{vx vi:Value}{two:Bool}{f:fT}(h:(kY P hp t ax ai two).val=some f)(hx:Rv w U ρ ax vx)(hi:Rv w U ρ ai vi)(hob:∀id∈ax.ids,bA w U ρ id (hp id)):
  ∃r v,f={val:=r}/\(Instr.lookup t vx vi two).run P w=.ok v w/\Rv w U ρ r v:=by
 unfold kY at h;split at h
 ·rename_i kt et ht;split at h
  ·rename_i hkt;split at h
   ·rename_i id s;have ho:=hob id (by simp[AV.ids]);split at h
    ·rename_i es hes;rw[hes]at ho;obtain⟨r,ents,clock,h1,h2,h3,h4,h5⟩:=ho;cases hx with
     |mp _ _ hv _=>
     rw[h1]at hv;cases hv;cases hi with
     |str _ hs=>
     cases two with
     | false=>
      simp only[zF,if_false]at h;rcases F3 es ents.toList s 0 _ f h5 h4 h with⟨j,v,av,hf,hr,rfl⟩|⟨hf,hz⟩
      ·refine⟨av,v,rfl,?_,hr⟩;simp[Instr.lookup,bz ht,kM h3,JD hkt (k:=.string ⟨s.toArray⟩) trivial,JE hkt hf,Result.andThen]
      ·simp at hz;obtain⟨z,hz,rfl⟩:=hz;obtain⟨i,zv,hinfo,hz1,rfl⟩:=qz hz;refine⟨_,zv,rfl,?_,qH zv⟩;simp[Instr.lookup,bz ht,kM h3,JD hkt (k:=.string ⟨s.toArray⟩) trivial,JE hkt hf,Result.andThen,zeroValue,typeInfo,hinfo,hz1]
     | true=>
      simp only[if_true]at h;rcases Cx es ents.toList s 0 _ f h5 h4 h with⟨j,v,av,hf,hr,rfl⟩|⟨hf,hz⟩
      ·refine⟨_,.tuple #[v,.bool Q3],rfl,?_,rS hr (.kb Q3)⟩;simp[Instr.lookup,bz ht,kM h3,JD hkt (k:=.string ⟨s.toArray⟩) trivial,JE hkt hf,Result.andThen]
      ·unfold zcT at hz;split at hz
       ·rename_i z hz0;simp[ret]at hz;subst hz;obtain⟨i,zv,hinfo,hz1,rfl⟩:=qz hz0;refine⟨_,.tuple #[zv,.bool Q4],rfl,?_,rS (qH zv) (.kb Q4)⟩;simp[Instr.lookup,bz ht,kM h3,JD hkt (k:=.string ⟨s.toArray⟩) trivial,JE hkt hf,Result.andThen,zeroValue,typeInfo,hinfo,hz1]
       ·simp at hz
    ·simp at h
   ·simp at h
  ·split at h
   ·rename_i hvk;split at h
    ·rename_i id v hvk2;have ho:=hob id (by simp[AV.ids]);split at h
     ·rename_i u es hes;rw[hes]at ho;obtain⟨r,ents,clock,h1,h2,h3,h4,h5⟩:=ho;cases hx with
      |mp _ _ hv _=>
      rw[h1]at hv;cases hv;rw[Jg hvk2]at hi;obtain⟨rfl,hko⟩:=M0 hi;have hfk:=jB (w:=w) hvk hko u es ents.toList h4 h5.1
      have hrun:∀(i:TypeInfo)(zv:Value),P.info? et=Q1 i->i.zero=Q1 zv->zv=uE u 0->
        (Instr.lookup t (.map (Q1 r)) (dN v) two).run P w=.ok (if two then .tuple #[uE u (gB es v),.bool (nv es v)]else uE u (gB es v)) w:=by
       intro i zv hinfo hz1 hz2;subst hz2;cases hfi:cn es v 0 with
       | none=>
        rw[hfi]at hfk;obtain⟨e1,e2,_⟩:=lG hfi;cases two<;>simp[Instr.lookup,bz ht,kM h3,dg hvk,hfk,Result.andThen,zeroValue,typeInfo,hinfo,hz1,e1,e2]
       | some q=>
        obtain⟨j,m⟩:=q;rw[hfi]at hfk;obtain⟨_,e1,e2,_,_⟩:=lH hfi;cases two<;>simp[Instr.lookup,bz ht,kM h3,dg hvk,hfk,Result.andThen,e1,e2]
      have hio:cq .i64 (gB es v):=by
       cases hfi:cn es v 0 with
       |none=>rw[(lG hfi).2.1];unfold cq;decide
       | some q=>
        obtain⟨j,m⟩:=q;obtain⟨_,_,e2,⟨p,hp,_,hpn⟩,_⟩:=lH hfi;grind
      split at h
      ·rename_i z hz;split at h
       ·rename_i hc;obtain⟨rfl,rfl⟩:=hc;obtain⟨i,zv,hinfo,hz1,hz2⟩:=qz hz;have:=JB hz2.symm;subst this;simp[ret]at h;subst h;refine⟨_,_,rfl,hrun i _ hinfo hz1 rfl,?_⟩;cases two
        ·exact .int _ _ hio
        ·exact rS (.int _ _ hio) (.bool _)
       ·simp at h
      ·rename_i cs hz;split at h
       ·rename_i hc;obtain⟨rfl,hcs⟩:=hc;obtain⟨i,zv,hinfo,hz1,hz2⟩:=qz hz;have:=Qm hz2.symm hcs;subst this;simp[ret]at h;subst h;have hag:Rv w U ρ (.agg []) (.agg #[]):=.agg [] [] rfl sw sw;refine⟨_,_,rfl,hrun i _ hinfo hz1 rfl,?_⟩;cases two
        ·exact hag
        ·exact rS hag (.bool _)
       ·simp at h
      ·simp at h
     ·simp at h
    ·simp at h
   ·simp at h
  ·simp at h
 ·simp at h
theorem yj:∀{es:List ((Int×Int×zB)×Int)}{k:Int×Int×zB}{i:Nat},(cn es k i=Q2->lI es k=es.length)/\∀j n,cn es k i=Q1 (j,n)->j=i+lI es k
 |[],k,i=>⟨λ_=>rfl,λj n h=>by cases h⟩
 | p::r,k,i=>by
  obtain⟨h1,h2⟩:=yj (es:=r) (k:=k) (i:=i+1);unfold cn lI;grind
theorem PU:∀(es:List ((Int×Int×zB)×Int))(k:Int×Int×zB),lI es k<=es.length
 |[],_=>ae _
 | p::r,k=>by
  have:=PU r k;unfold lI;grind
theorem MJ{n:Nat}{hp:Nat->AO}{t:TypeId}{am ak:AV}{vm vk:Value}{f:fT}{fp:List Nat}(h:(uJ P hp t am ak).val=some f)
  (hm:Rv w U ρ am vm) (hk:Rv w U ρ ak vk) (hub:∀b,U b->b<w.heap.size) (hfp:GZ w U ρ hp fp) (hin:∀id∈am.ids,id∈fp):
  ∃v w',(Instr.mapEntry t vm vk).run P w=.ok v w'/\Ef n hp f w U ρ v w' U ρ/\∀id o,(id,o)∈f.wr->id∈fp:=by
 unfold uJ at h;split at h
 ·rename_i kt et ht;split at h
  ·rename_i hvk;split at h
   ·rename_i id v hvk2;have hid:=hin id (by simp[AV.ids]);have ho:=hfp.ob id hid;split at h
    ·rename_i es hes;split at h
     ·rename_i z hz;split at h
      ·rename_i hz0;subst hz0;simp only[Tr.val]at h;split at h
       ·rename_i hlen;have hlen:es.length<=1073741824:=lM hlen;simp only[bB]at h;subst h;rw[hes]at ho;obtain⟨r,ents,clock,h1,h2,h3,h4,h5⟩:=ho;cases hm with
        |mp _ _ hv _=>
        rw[h1]at hv;cases hv;rw[Jg hvk2]at hk;obtain⟨rfl,hko⟩:=M0 hk;obtain⟨i0,zv,hinfo,hz1,hz2⟩:=qz hz;have:=JB hz2.symm;subst this;have hfk:=jB (w:=w) hvk hko Q4 es ents.toList h4 h5.1;have hown:(hp id).owns=Q3:=by rw[hes];rfl
        have hesz:ents.size=es.length:=by have:=congrArg List.length h4;simpa using this
        have hwrs:∀id' o',(id',o')∈[(id,AO.vmap Q4 (jV es v))]->id'∈fp:=by
         intro id' o' h';simp only[gn,cB]at h';rw[h'.1];exact hid
        have hix:cq .i64 (lI es v:Int):=by
         have:=PU es v;unfold cq;exact⟨by show(-9223372036854775808:Int)<=_;omega,by show _<=(9223372036854775807:Int);omega⟩
        cases hfi:cn es v 0 with
        | none=>
         rw[hfi]at hfk;obtain⟨e1,e2,_⟩:=lG hfi;have e3:=(yj (es:=es) (k:=v) (i:=0)).1 hfi;have hvent:jV es v=es++[(v,0)]:=by simp[jV,e1]
         refine⟨.tuple #[.int .i64 0,goInt clock],{w with heap:=w.heap.setIfInBounds r (.map (ents.push {key:=dN v,val:=.int .i64 0,born:=clock}) (clock+1))},?_,?_,hwrs⟩
         ·simp[Instr.mapEntry,bz ht,kM h3,dg hvk,hfk,yl _ h3,Result.andThen,zeroValue,typeInfo,hinfo,hz1]
         ·refine Ef.setMap h1 h2 h3 hown ?_ hub ?_
          ·refine⟨r,_,_,h1,h2,(BH h3).1,?_,?_,h5.2.push _ _⟩
           ·rw[hvent];simp only[Array.toList_push,iA,h4,kc,List.map_nil];rfl
           ·rw[hvent];intro p hp;rcases cQ.1 hp with hp|hp
            ·exact h5.1 p hp
            ·simp at hp;subst hp;exact⟨(show cq .i64 0 by unfold cq;decide),hko⟩
          ·rw[e2];have hc:goInt clock=.int .i64 (lI es v:Int):=by rw[e3,h5.2.1,hesz];rfl
           rw[hc];exact rS (.int _ _ (by unfold cq;decide)) (.int _ _ hix)
        | some q=>
         obtain⟨j,m⟩:=q;rw[hfi]at hfk;obtain⟨_,e1,e2,⟨p,hpj,hpk,hpn⟩,_⟩:=lH hfi;have e3:=(yj (es:=es) (k:=v) (i:=0)).2 j m hfi;rw[jJ]at e3;rw[Nat.sub_zero]at hpj;have hvent:jV es v=es:=by simp[jV,e1]
         have hent:∃e,ents.toList[j]?=Q1 e/\e.key=dN v:=by
          have:(ents.toList.map λe=>(e.key,e.val))[j]?=Q1 (dN p.1,uE Q4 p.2):=by
           rw[h4];simp[hpj]
          rw[fA,eD]at this;obtain⟨e,he1,he2⟩:=this;simp only[cB]at he2;exact⟨e,he1,by rw[he2.1,hpk]⟩
         obtain⟨e,he1,he2⟩:=hent;have he3:ents[j]?=Q1 e:=by rw[<-sA];exact he1
         have hst:(Instr.keyThatStays (dN v) (dN v)).run P w=.ok (dN v) w:=by
          simp[Instr.keyThatStays,sS]
         refine⟨.tuple #[.int .i64 m,goInt e.born],{w with heap:=w.heap.setIfInBounds r (.map (ents.modify j λe=>{e with key:=dN v}) clock)},?_,?_,hwrs⟩
         ·simp[Instr.mapEntry,bz ht,kM h3,dg hvk,hfk,he3,he2,hst,yl _ h3,Result.andThen,uE]
         ·refine Ef.setMap h1 h2 h3 hown ?_ hub ?_
          ·refine⟨r,_,_,h1,h2,(BH h3).1,?_,by rw[hvent];exact h5.1,h5.2.modify _ _ (λ_=>rfl)⟩;rw[hvent];apply Fb;grind
          ·rw[e2];have hc:goInt e.born=.int .i64 (lI es v:Int):=by rw[h5.2.2 j e he3,e3];rfl
           rw[hc];have hm:cq .i64 m:=by rw[<-hpn];exact(h5.1 p (pl hpj)).1
           exact rS (.int _ _ hm) (.int _ _ hix)
       ·cases h
      ·simp at h
     ·simp at h
    ·simp at h
   ·simp at h
  ·simp at h
 ·simp at h
theorem uh:∀(es:List ((Int×Int×zB)×Int))(n:Nat)(x:Int)(p:(Int×Int×zB)×Int),es[n]?=Q1 p->j8 es n x=es.set n (p.1,x)
 |[],_,_,_,h=>by simp at h
 |q::r,0,x,p,h=>by simp at h;subst h;rfl
 | q::r,n+1,x,p,h=>by
  rw[j8,uh r n x p (by simpa using h)];rfl
theorem Am{n:Nat}{hp:Nat->AO}{t:TypeId}{am as_ ax:AV}{vm vs vx:Value}{f:fT}{fp:List Nat}(h:(nQ hp am as_ ax).val=Q1 f)
  (hm:Rv w U ρ am vm) (hs:Rv w U ρ as_ vs) (hx:Rv w U ρ ax vx) (hub:∀b,U b->b<w.heap.size) (hfp:GZ w U ρ hp fp) (hin:∀id∈am.ids,id∈fp):
  ∃w',(Instr.entryStore t vm vs vx).run P w=.ok () w'/\Ef n hp f w U ρ undef w' U ρ/\∀id o,(id,o)∈f.wr->id∈fp:=by
 unfold nQ at h;split at h
 ·rename_i id nn yy;have hid:=hin id (by simp[AV.ids]);have ho:=hfp.ob id hid;split at h
  ·rename_i es hes;simp only[Tr.val]at h;split at h
   ·rename_i hinb;obtain⟨hb0,hb1⟩:=lV.1 hinb;simp only[bB]at h;subst h;rw[hes]at ho;obtain⟨r,ents,clock,h1,h2,h3,h4,h5⟩:=ho;cases hm with
    |mp _ _ hv _=>
    rw[h1]at hv;cases hv;cases hs;cases hx with
    |int _ _ hy=>
    have hown:(hp id).owns=Q3:=by rw[hes];rfl
    have hesz:ents.size=es.length:=by have:=congrArg List.length h4;simpa using this
    have hlt:nn.toNat<ents.size:=by omega
    have hfi:ents.findIdx? (λe=>(e.born:Int)==nn)=Q1 nn.toNat:=by
     rw[Array.findIdx?_eq_some_iff_getElem];refine⟨hlt,?_,λj hj=>?_⟩
     ·have:=h5.2.2 nn.toNat ents[nn.toNat] (td hlt);grind
     ·have:=h5.2.2 j (ents[j]'ow) (td ow);grind
    obtain⟨p,hp⟩:∃p,es[nn.toNat]?=Q1 p:=⟨es[nn.toNat]'ow,zQ ow⟩;refine⟨{w with heap:=w.heap.setIfInBounds r (.map (ents.modify nn.toNat λe=>{e with val:=.int .i64 yy}) clock)},?_,?_,?_⟩
    ·simp[Instr.entryStore,kM h3,asInt,asIntOf,hfi,yl _ h3,Result.andThen]
    ·refine Ef.setMap h1 h2 h3 hown ?_ hub (.tup [] [] rfl sw);refine⟨r,_,_,h1,h2,(BH h3).1,?_,?_,h5.2.modify _ _ (λ_=>rfl)⟩
     ·rw[uh es _ yy p hp];apply Fb;intro q;have h4q:(ents.toList.map λe=>(e.key,e.val))[q]?=(Ce Q4 es)[q]?:=by rw[h4]
      simp only[fA,sA,uj,yp,Ce]at h4q⊢;by_cases hq:nn.toNat=q
      ·subst hq;have hjl:nn.toNat<es.length:=by omega
       rw[td hlt,hp]at h4q;simp only[yu,bB,cB]at h4q;simp[td hlt,hjl,h4q.1,uE]
      simp_all
     ·rw[uh es _ yy p hp];grind
    simp_all
   ·cases h
  ·simp at h
 ·simp at h
theorem Ef.frz{n:Nat}{hp:Nat->AO}{ids:List Nat}{r:AV}{v:Value}(hub:∀b,U b->b<w.heap.size)(hvf:∀j∈ids,pb (hp j)=Q3)
  (hob:∀j∈ids,bA w U ρ j (hp j)) (hval:Rv w (λb=>U b/\¬∃j∈ids,aj ρ j (hp j) b) ρ r v):
  Ef n hp {val:=r,wr:=gw hp ids} w U ρ v w (λb=>U b/\¬∃j∈ids,aj ρ j (hp j) b) ρ:=by
 generalize hU':(λb=>U b/\¬∃j∈ids,aj ρ j (hp j) b)=U' at hval⊢;have hsub:∀b,U' b->U b:=λb h=>by rw[<-hU']at h;exact h.1
 have hfz:∀j∈ids,∀b,aj ρ j (hp j) b->¬U' b:=λj hj b ho h=>by grind
 have noOwn:∀id o b,(id,o)∈gw hp ids->aj ρ id o b->False:=by
  intro id o b h ho;obtain⟨hin',rfl⟩:=dl h;rw[aj,pN (hvf id hin')]at ho;simp at ho
 refine⟨mg.refl w,hval,?_,sw,λ_ _=>rfl,λ_ _ h=>h,λ_ _ _=>rfl,λb' h=>hub b' (hsub b' h),λb' _ h=>hsub b' h,?_,?_,?_⟩
 ·intro id o h;obtain⟨hin',rfl⟩:=dl h;exact qS (hob id hin') (hvf id hin') hsub (hfz id hin')
 ·intro b' _ h hn;rw[<-hU'];exact⟨h,λ⟨j,hj,ho⟩=>hn j _ (qT hj) ho⟩
 ·simp_all
 simp_all
theorem Ki{n:Nat}{hp:Nat->AO}{t:TypeId}{ax:AV}{vx:Value}{lo hi mx:Option AV}{vlo vhi vmx:Option Value}{f:fT}{fp:List Nat}(h:(Ct P hp t ax lo hi mx).val=Q1 f)
  (hx:Rv w U ρ ax vx) (rlo:∀a v,lo=Q1 a->vlo=Q1 v->Rv w U ρ a v) (rhi:∀a v,hi=Q1 a->vhi=Q1 v->Rv w U ρ a v)
  (rmx:∀a v,mx=Q1 a->vmx=Q1 v->Rv w U ρ a v) (slo:lo.isSome=vlo.isSome) (shi:hi.isSome=vhi.isSome) (smx:mx.isSome=vmx.isSome)
  (hub:∀b,U b->b<w.heap.size) (hfp:GZ w U ρ hp fp) (hin:∀id∈ax.ids,id∈fp):
  ∃v U',(Instr.sliceAt t vx vlo vhi vmx).run P w=.ok v w/\Ef n hp f w U ρ v w U' ρ/\∀id o,(id,o)∈f.wr->id∈fp:=by
 unfold Ct at h;split at h
 ·rename_i id;have hid:=hin id (by simp[AV.ids]);have ho:=hfp.ob id hid;split at h
  ·rename_i e l hes;simp only[Tr.val_bind,gm]at h;obtain⟨f0,h0,h1⟩:=h;simp only[Tr.val_ok,bB]at h1;subst h1;have hsub:∀b,(U b/\¬∃j∈[id],aj ρ j (hp j) b)->U b:=λb hb=>hb.1
   have hsl:Rv w (λb=>U b/\¬∃j∈[id],aj ρ j (hp j) b) ρ (.sl e l) vx:=
    Az (hp:=hp) (e:=e) (c:=.vec id) (by simp[wI,hes]) hx hsub (λj hj=>by simp[cO]at hj;subst hj;exact ho)
     (λj hj b hb hU=>by simp[cO]at hj;simp_all)
   obtain⟨r,x,rfl,hrun,hr⟩:=tD (w:=w) (U:=λb=>U b/\¬∃j∈[id],aj ρ j (hp j) b) (ρ:=ρ) (vlo:=vlo) (vhi:=vhi) (vmx:=vmx) h0 hsl
    (λa v ha hv=>(rlo a v ha hv).weak hsub) (λa v ha hv=>(rhi a v ha hv).weak hsub) (λa v ha hv=>(rmx a v ha hv).weak hsub) slo shi smx
   refine⟨x,_,hrun,Ef.frz hub (by simp[hes,pb]) (by simp;exact ho) hr,λid' o' h'=>?_⟩;obtain⟨h2,_⟩:=dl h';simp at h2;rw[h2];exact hid
  ·rename_i e l hes;rw[hes]at ho;obtain⟨v',hv',hrv⟩:=ho;cases hx with
   |vec _ _ hv _=>
   rw[hv]at hv';cases hv';obtain⟨r,x,rfl,hrun,hr⟩:=tD (w:=w) (U:=U) (ρ:=ρ) (vlo:=vlo) (vhi:=vhi) (vmx:=vmx) h hrv rlo rhi rmx slo shi smx;exact⟨x,U,hrun,Ef.pure hub hr,sw⟩
  ·simp at h
 ·obtain⟨r,x,rfl,hrun,hr⟩:=tD (w:=w) (U:=U) (ρ:=ρ) (vlo:=vlo) (vhi:=vhi) (vmx:=vmx) h hx rlo rhi rmx slo shi smx;exact⟨x,U,hrun,Ef.pure hub hr,sw⟩
end
end Cad
