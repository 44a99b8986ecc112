/- What each operation says: cuts; and those that touch memory. What each operation says: stores, slices that are built, appends. -/
import Derived.Test.YtiefilkilbdpgaaGreatDoorS01
namespace Cad
open Go
section
variable {P:Program} {w:World} {U:Nat→Prop} {ρ:Nat→Option Value}

theorem jy {k:IntKind} {i:Int} {y:Nat} (code:BoundsCode) (h0:0≤i) (h1:i≤y):(Instr.sliceBound (.int k i) y code).run P w=.ok i.toNat w:=by
 simp [Instr.sliceBound,asIntOf,h0,h1]

theorem D8 (s:zo) (l h:Nat):(⟨s.toArray⟩:ByteArray).extract l h=⟨((s.drop l).take (h - l)).toArray⟩:=by
 apply ByteArray.ext
 simp [List.extract_eq_take_drop]

theorem uj {av:AV} {v:Value} {k:Int} (h:ld av=some k) (hr:Rv w U ρ av v):∃ ik,v=.int ik k:=by
 unfold ld at h
 split at h
 ·cases h; cases hr; exact ⟨_,rfl⟩
 ·cases h

theorem qM {isS:Bool} {len cap:Nat} {lo hi:Option AV} {vlo vhi:Option Value} {l h:Int}
  (hl:(match lo with | none=>some 0 | some a=>ld a)=some l) (hh:(match hi with | none=>some (len:Int) | some a=>ld a)=some h)
  (rlo:∀ a v,lo=some a→vlo=some v→Rv w U ρ a v) (rhi:∀ a v,hi=some a→vhi=some v→Rv w U ρ a v)
  (slo:lo.isSome=vlo.isSome) (shi:hi.isSome=vhi.isSome) (h0:0≤l) (h1:l≤h) (h2:h≤len) (h3:len≤cap):
  (Instr.sliceBounds isS len cap vlo vhi none).run P w=.ok (l.toNat,h.toNat,cap) w:=by
 cases hi with
 | none=>
  cases vhi with
  | some v=>simp at shi
  | none=>
  simp at hh; subst hh
  cases lo with
  | none=>
   cases vlo with
   | some v=>simp at slo
   | none=>simp at hl; subst hl; simp [Instr.sliceBounds]
  | some a=>
   cases vlo with
   | none=>simp at slo
   | some v=>
    obtain ⟨ik,rfl⟩:=uj hl (rlo _ _ rfl rfl)
    simp [Instr.sliceBounds,jy _ h0 h1]
 | some b=>
  cases vhi with
  | none=>simp at shi
  | some vb=>
  obtain ⟨ik,rfl⟩:=uj hh (rhi _ _ rfl rfl)
  have hb:∀ code,(Instr.sliceBound (.int ik h) cap code).run P w=.ok h.toNat w:=fun code=>jy code (by omega) (by omega)
  cases lo with
  | none=>
   cases vlo with
   | some v=>simp at slo
   | none=>simp at hl; subst hl; simp [Instr.sliceBounds,hb]
  | some a=>
   cases vlo with
   | none=>simp at slo
   | some v=>
    obtain ⟨ik',rfl⟩:=uj hl (rlo _ _ rfl rfl)
    simp [Instr.sliceBounds,hb,jy (y:=h.toNat) _ h0 (by omega)]

theorem oU {t:TypeId} {ax:AV} {vx:Value} {lo hi mx:Option AV} {vlo vhi vmx:Option Value} {f:ew} (h:(pL P t ax lo hi mx).val=some f)
  (hx:Rv w U ρ ax vx) (rlo:∀ a v,lo=some a→vlo=some v→Rv w U ρ a v) (rhi:∀ a v,hi=some a→vhi=some v→Rv w U ρ a v)
  (rmx:∀ a v,mx=some a→vmx=some v→Rv w U ρ a v) (slo:lo.isSome=vlo.isSome) (shi:hi.isSome=vhi.isSome) (smx:mx.isSome=vmx.isSome):
  ∃ r x,f={ val:=r }∧(Instr.sliceAt t vx vlo vhi vmx).run P w=.ok x w∧Rv w U ρ r x:=by
 have zero3:∀ (a:Option Addr) (len cap:Nat) (elem:TypeId) (k k':IntKind),P.underlying t=some (.slice elem)→(dL P elem).isSome→
   (Instr.sliceAt t (.slice a len cap) none (some (.int k 0)) (some (.int k' 0))).run P w=.ok (.slice a 0 0) w:=by
  intro a len cap elem k k' hu hs
  obtain ⟨sz,hs⟩:=Option.isSome_iff_exists.1 hs
  simp [Instr.sliceAt,Instr.slice,aW hu,Instr.sliceBounds,Instr.sliceBound,asIntOf,bz hs]
 unfold pL at h
 split at h
 ·rename_i s hu
  cases vmx with
  | some v=>simp at smx
  | none=>
  split at h
  ·rename_i l hh hl0 hh0
   simp at h
   obtain ⟨⟨⟨h0,h1⟩,h2⟩,rfl⟩:=h
   cases hx with
   | str _ hs=>
   have hb:=qM (P:=P) (w:=w) (U:=U) (ρ:=ρ) (isS:=false) (len:=s.length) (cap:=s.length) hl0 hh0 rlo rhi slo shi h0 h1 h2 (bd _)
   refine ⟨_,.string ⟨((s.drop l.toNat).take (hh.toNat - l.toNat)).toArray⟩,rfl,?_,.str _ (by simp; omega)⟩
   simp [Instr.sliceAt,Instr.slice,aW hu,w4,hb,D8]
  ·simp at h
 ·rename_i elem e s hu
  cases vmx with
  | some v=>simp at smx
  | none=>
  split at h
  ·rename_i hsz
   split at h
   ·rename_i l hh hl0 hh0
    simp at h
    obtain ⟨⟨⟨h0,h1⟩,h2⟩,rfl⟩:=h
    have key:∀ (a:Option Addr) (c:Nat),s.length≤c→(Instr.sliceAt t (.slice a s.length c) vlo vhi none).run P w=
      .ok (.slice (if c=l.toNat then a else a.map (·.add (l.toNat * e.size))) (hh.toNat - l.toNat) (c - l.toNat)) w:=by
     intro a c hc
     have hb:=qM (P:=P) (w:=w) (U:=U) (ρ:=ρ) (isS:=true) (len:=s.length) (cap:=c) hl0 hh0 rlo rhi slo shi h0 h1 h2 hc
     simp [Instr.sliceAt,Instr.slice,aW hu,hb,bz hsz]
    have hlen:((s.drop l.toNat).take (hh.toNat - l.toNat)).length=hh.toNat - l.toNat:=by simp; omega
    by_cases hlt:l.toNat < hh.toNat
    ·cases hx with
     | sl0 _ a c=>simp at h2; omega
     | sl _ _ b o c vals hc hm hb hU hcell hr=>
     refine ⟨_,_,rfl,key _ _ hc,?_⟩
     rw [if_neg (by omega)]
     simp only [ug,Addr.add_none]
     suffices hs:Rv w U ρ (.sl e ((s.drop l.toNat).take (hh.toNat - l.toNat))) (.slice (some ⟨b,o+l.toNat * e.size,none⟩) ((s.drop l.toNat).take (hh.toNat - l.toNat)).length (c - l.toNat)) by
      rw [hlen] at hs; exact hs
     refine .sl e _ b (o+l.toNat * e.size) (c - l.toNat) (fun i j=>vals (l.toNat+i) j) (by rw [hlen]; omega) (by rw [hlen]; omega) hb hU (fun i j hi hj=>?_) (fun i hi j c' hx=>?_)
     ·rw [hlen] at hi
      have:=hcell (l.toNat+i) j (by omega) hj
      rw [lS] at this
      rw [show o+l.toNat * e.size+i * e.size+j=o+(l.toNat * e.size+i * e.size)+j by omega]
      exact this
     ·rw [hlen] at hi
      have hget:((s.drop l.toNat).take (hh.toNat - l.toNat))[i]=s[l.toNat+i]'(by omega):=by simp
      rw [hget] at hx
      exact hr _ (by omega) j c' hx
    ·have hnil:(s.drop l.toNat).take (hh.toNat - l.toNat)=[]:=by
      rw [show hh.toNat - l.toNat=0 by omega]; simp
     rw [hnil]
     obtain ⟨a,c,rfl,hm,hc⟩:=BQ hx
     refine ⟨_,_,rfl,key a c hc,?_⟩
     rw [show hh.toNat - l.toNat=0 by omega]
     exact .sl0 e _ _
   ·simp at h
  ·simp at h
 ·rename_i elem e s k hu
  split at h
  ·rename_i k'
   split at h
   ·rename_i hsz
    simp at h; subst h
    cases vlo with
    | some v=>simp at slo
    | none=>
    cases vhi with
    | none=>simp at shi
    | some vh=>
    cases vmx with
    | none=>simp at smx
    | some vm=>
    have h1:=rhi _ _ rfl rfl
    have h2:=rmx _ _ rfl rfl
    cases h1; cases h2
    obtain ⟨a,c,rfl,hm,hc⟩:=BQ hx
    exact ⟨_,_,rfl,zero3 _ _ _ elem _ _ hu hsz,.nils _⟩
   ·simp at h
  ·simp at h
 ·rename_i elem k hu
  split at h
  ·rename_i k'
   split at h
   ·rename_i hsz
    simp at h; subst h
    cases vlo with
    | some v=>simp at slo
    | none=>
    cases vhi with
    | none=>simp at shi
    | some vh=>
    cases vmx with
    | none=>simp at smx
    | some vm=>
    have h1:=rhi _ _ rfl rfl
    have h2:=rmx _ _ rfl rfl
    cases h1; cases h2
    cases hx
    exact ⟨_,_,rfl,zero3 _ _ _ elem _ _ hu hsz,.nils _⟩
   ·simp at h
  ·simp at h
 ·simp at h

structure gu (w w':World):Prop where
 sz:w.heap.size≤w'.heap.size
 os:w'.os=w.os
 out:w'.output=w.output
 tape:w'.tape=w.tape
 fr:∀ a:Addr,a.block < w.heap.size→w'.frozen? a=w.frozen? a

theorem gu.refl (w:World):gu w w:=⟨bd _,rfl,rfl,rfl,fun _ _=>rfl⟩
theorem gu.trans {a b c:World} (h:gu a b) (h':gu b c):gu a c:=
 ⟨cv h.sz h'.sz,h'.os.trans h.os,h'.out.trans h.out,h'.tape.trans h.tape,fun x hx=>(h'.fr x (lQ hx h.sz)).trans (h.fr x hx)⟩

structure Ef (n:Nat) (hp:Nat→AO) (f:ew) (w:World) (U:Nat→Prop) (ρ:Nat→Option Value) (v:Value) (w':World) (U':Nat→Prop) (ρ':Nat→Option Value):Prop where
 ext:gu w w'
 val:Rv w' U' ρ' f.val v
 wr:∀ id o,(id,o)∈f.wr→be w' U' ρ' id o
 nw:∀ (j:Nat) o,f.nw[j]?=some o→be w' U' ρ' (n+j) o
 rho:∀ id,(id < n∨n+f.nw.length≤id)→ρ' id=ρ id
 rhon:∀ id v,ρ id=some v→ρ' id=some v
 same:∀ b,b < w.heap.size→(∀ id o,(id,o)∈f.wr→¬ zO ρ id (hp id) b)→w'.heap[b]?=w.heap[b]?
 ub:∀ b,U' b→b < w'.heap.size
 u1:∀ b,b < w.heap.size→U' b→U b
 u2:∀ b,b < w.heap.size→U b→(∀ id o,(id,o)∈f.wr→¬ zO ρ id (hp id) b)→U' b
 own:∀ id o b,((id,o)∈f.wr∨(n≤id∧f.nw[id - n]?=some o))→zO ρ' id o b→w.heap.size≤b∨∃ id' o',(id',o')∈f.wr∧zO ρ id' (hp id') b
 inj:∀ id1 o1 id2 o2 b,((id1,o1)∈f.wr∨(n≤id1∧f.nw[id1 - n]?=some o1))→((id2,o2)∈f.wr∨(n≤id2∧f.nw[id2 - n]?=some o2))→
  zO ρ' id1 o1 b→zO ρ' id2 o2 b→id1=id2

theorem Ef.pure {n:Nat} {hp:Nat→AO} {r:AV} {v:Value} (hub:∀ b,U b→b < w.heap.size) (h:Rv w U ρ r v):Ef n hp { val:=r } w U ρ v w U ρ where
 ext:=gu.refl w
 val:=h
 wr:=by simp
 nw:=by simp
 rho:=fun _ _=>rfl
 rhon:=fun _ _ h=>h
 same:=fun _ _ _=>rfl
 ub:=hub
 u1:=fun _ _ h=>h
 u2:=fun _ _ h _=>h
 own:=by simp
 inj:=by simp

theorem aY (w:World) (o:Obj) (b:Nat) (h:b < w.heap.size):(w.alloc o).heap[b]?=w.heap[b]?:=by
 show (w.heap.push o)[b]?=w.heap[b]?
 rw [Array.getElem?_push,if_neg (by omega)]

theorem dp (w:World) (o:Obj):(w.alloc o).heap[w.heap.size]?=some o:=by
 show (w.heap.push o)[w.heap.size]?=some o
 rw [Array.getElem?_push,if_pos rfl]

theorem aH (w:World) (o:Obj):(w.alloc o).heap.size=w.heap.size+1:=by
 show (w.heap.push o).size=_
 rw [Array.size_push]

theorem gu.alloc (w:World) (c:Array Value) (t:TypeId):gu w (w.alloc (.cells c t)) where
 sz:=by rw [aH]; omega
 os:=rfl
 out:=rfl
 tape:=rfl
 fr:=fun a h=>Cu (aY w _ _ h)

def j4 (ρ:Nat→Option Value) (n:Nat) (v:Value):Nat→Option Value:=fun id=>if id=n then some v else ρ id

theorem du {n:Nat} {v:Value} (hn:ρ n=none):∀ id x,ρ id=some x→j4 ρ n v id=some x:=by
 intro id x h
 unfold j4
 split
 ·rename_i e; subst e; rw [hn] at h; cases h
 ·exact h

theorem Ef.box {n:Nat} {hp:Nat→AO} {cs:List AV} {vals:Array Value} {T:TypeId} (hub:∀ b,U b→b < w.heap.size) (hn:ρ n=none)
  (hr:cK w U ρ cs vals.toList) (h1:∀ v∈vals.toList,v.oneCell'=true):
  Ef n hp { val:=.ptr n 0,nw:=[.box cs] } w U ρ (.pointer (some ⟨w.heap.size,0,none⟩)) (w.alloc (.cells vals T)) (fun b=>U b∨b=w.heap.size) (j4 ρ n (.pointer (some ⟨w.heap.size,0,none⟩))):=by
 have hk:∀ b,b < w.heap.size→¬ U b→(w.alloc (.cells vals T)).heap[b]?=w.heap[b]?:=fun b hb _=>aY w _ b hb
 have hu:∀ b,b < w.heap.size→(U b∨b=w.heap.size)→U b:=fun b hb h=>h.elim id (fun e=>by omega)
 have hs:w.heap.size≤(w.alloc (.cells vals T)).heap.size:=by rw [aH]; omega
 refine ⟨gu.alloc w vals T,.ptr n 0 _ (by simp [j4]),by simp,?_,?_,du hn,fun b hb _=>aY w _ b hb,?_,fun b hb h=>hu b hb h,fun b _ h _=>.inl h,?_,?_⟩
 ·intro j o hj
  cases j with
  | succ j=>simp at hj
  | zero=>
   simp at hj; subst hj
   exact ⟨w.heap.size,T,vals,by simp [j4],.inr rfl,dp w _,hr.mono hs hk hu (du hn),h1⟩
 ·intro id h
  unfold j4
  rw [if_neg (by simp at h; omega)]
 ·intro b h
  rw [aH]
  rcases h with h | h
  ·have:=hub b h; omega
  ·omega
 ·rintro id o b (h | ⟨h1,h2⟩) ho
  ·simp at h
  ·have:id - n=0:=by
    by_cases h0:id - n=0
    ·exact h0
    ·obtain ⟨k,hk⟩:=Nat.exists_eq_succ_of_ne_zero h0
     rw [hk] at h2; simp at h2
   have hid:id=n:=by omega
   subst hid
   obtain ⟨_,v,hv,hb⟩:=ho
   simp [j4] at hv; subst hv
   simp [c9] at hb
   exact .inl (by omega)
 ·rintro id1 o1 id2 o2 b (h | ⟨h1,h2⟩) (h' | ⟨h1',h2'⟩) _ _
  ·simp at h
  ·simp at h
  ·simp at h'
  ·have e1:id1 - n < 1:=by have:=(bM.1 h2).1; simpa using this
   have e2:id2 - n < 1:=by have:=(bM.1 h2').1; simpa using this
   omega

end
section
variable {P:Program} {w:World} {U:Nat→Prop} {ρ:Nat→Option Value}

theorem Bg (w:World) (b o:Nat) (v:Value) {arr:Array Value} {T:TypeId} {fz:Nat×Nat} (h:w.heap[b]?=some (.cells arr T fz)):
  (w.setCell ⟨b,o,none⟩ v).heap[b]?=some (.cells (arr.setIfInBounds o v) T fz):=by
 simp [World.setCell,x5,h]

theorem o4 (w:World) (b o b':Nat) (v:Value) (h:b'≠b):(w.setCell ⟨b,o,none⟩ v).heap[b']?=w.heap[b']?:=by
 simp only [World.setCell,x5]
 rw [if_neg (fun e=>h e.symm)]

theorem bN:∀ (vs:List Value) (w:World) (b o:Nat) {arr:Array Value} {T:TypeId} {fz:Nat×Nat},w.heap[b]?=some (.cells arr T fz)→
  (w.setCells b o vs).heap[b]?=some (.cells (f8 arr.toList o vs).toArray T fz)
 | [],_,_,_,_,_,_,h=>by simpa [World.setCells,f8] using h
 | v::r,w,b,o,arr,T,fz,h=>by
  rw [World.setCells]
  have:=bN r _ b (o+1) (Bg w b o v h)
  rw [this]
  simp [f8]

theorem zV:∀ (vs:List Value) (w:World) (b o b':Nat),b'≠b→(w.setCells b o vs).heap[b']?=w.heap[b']?
 | [],_,_,_,_,_=>rfl
 | v::r,w,b,o,b',h=>by
  rw [World.setCells,zV r _ b (o+1) b' h,o4 w b o b' v h]

theorem qt (w:World) (a:Addr) (v:Value):(w.setCell a v).heap.size=w.heap.size:=by simp [World.setCell]

theorem gu.setCells:∀ (vs:List Value) (w:World) (b o:Nat),gu w (w.setCells b o vs)
 | [],w,_,_=>gu.refl w
 | v::r,w,b,o=>by
  have h1:gu w (w.setCell ⟨b,o,none⟩ v):=⟨by rw [qt]; exact bd _,rfl,rfl,rfl,fun a _=>by rw [World.frozen?_setCell]⟩
  rw [World.setCells]
  exact h1.trans (gu.setCells r _ b (o+1))

theorem aR:∀ (vs:List Value) (w:World) (b o:Nat),(w.setCells b o vs).heap.size=w.heap.size
 | [],_,_,_=>rfl
 | v::r,w,b,o=>by rw [World.setCells,aR r,qt]

theorem bW:∀ (l vs:List Value) (off q:Nat),(f8 vs off l)[q]?=if off≤q∧q < off+l.length∧q < vs.length then l[q - off]? else vs[q]?
 | [],vs,off,q=>by
  rw [if_neg (by simp; omega)]; rfl
 | v::l,vs,off,q=>by
  rw [f8,bW l _ (off+1) q]
  simp only [jM,oe]
  by_cases h1:off=q
  ·subst h1
   rw [if_neg (by omega)]
   by_cases h2:off < vs.length
   ·rw [if_pos (by omega),lP h2]; simp
   ·rw [if_neg (by omega),jJ]; simp [h2]
  ·by_cases h2:off+1≤q∧q < off+1+l.length∧q < vs.length
   ·rw [if_pos h2,if_pos (by omega),show q - off=(q - (off+1))+1 by omega]
    simp
   ·rw [if_neg h2,if_neg (by omega),pj h1]

theorem iB {t:TypeId} {v:Value} {b o sz:Nat} {arr:Array Value} {T:TypeId} (hsz:dL P t=some sz) (hv:v.cells.toList.length=sz)
  (hb:w.heap[b]?=some (.cells arr T (0,0))) (hin:o+sz≤arr.size) (h1:∀ x∈v.cells.toList,x.oneCell'=true):
  (storeVar t ⟨b,o,none⟩ v).run P w=.ok () (w.setCells b o v.cells.toList):=by
 have hc:∀ j,j < v.cells.toList.length→(w.cell? ⟨b,o+0+j,none⟩).isSome=true:=by
  intro j hj
  have:o+j < arr.size:=by omega
  simp [World.cell?,hb,gZ this]
 have hf:∀ j,j < v.cells.toList.length→w.frozen? ⟨b,o+0+j,none⟩=false:=by
  intro j hj
  simp [World.frozen?,hb]
 have:=run_storeCells_cells (P:=P) b o v.cells.toList 0 w hc hf h1
 rw [oh] at this
 have hsize:v.cells.size=sz:=by simpa using hv
 simp [storeVar,bz hsz,hsize,this]

theorem Ef.store {n id off:Nat} {hp:Nat→AO} {cs vs:List AV} {b:Nat} {vals:Array Value} {T:TypeId} {vv:List Value} (hub:∀ b,U b→b < w.heap.size) (hid:hp id=.box cs)
  (hρ:ρ id=some (.pointer (some ⟨b,0,none⟩))) (hU:U b) (hb:w.heap[b]?=some (.cells vals T (0,0))) (hr:cK w U ρ cs vals.toList) (h1:∀ v∈vals.toList,v.oneCell'=true)
  (hv:cK w U ρ vs vv) (hv1:∀ x∈vv,x.oneCell'=true):
  Ef n hp { val:=.tup [],wr:=[(id,.box (setCells cs off vs))] } w U ρ undef (w.setCells b off vv) U ρ:=by
 have hown:zO ρ id (hp id) b:=⟨by rw [hid]; rfl,_,hρ,rfl⟩
 have hk:∀ b',b' < w.heap.size→¬ U b'→(w.setCells b off vv).heap[b']?=w.heap[b']?:=fun b' _ hb'=>zV _ _ _ _ _ (fun e=>hb' (e▸hU))
 have hs:w.heap.size≤(w.setCells b off vv).heap.size:=by rw [aR]; exact bd _
 refine ⟨gu.setCells vv w b off,.tup [] [] rfl (by simp),?_,by simp,fun _ _=>rfl,fun _ _ h=>h,?_,?_,fun _ _ h=>h,fun _ _ h _=>h,?_,?_⟩
 ·intro id' o' h
  simp at h
  obtain ⟨rfl,rfl⟩:=h
  refine ⟨b,T,(f8 vals.toList off vv).toArray,hρ,hU,bN vv w b off hb,?_,?_⟩
  ·simpa using (tK vs vv cs vals.toList off hr hv).mono hs hk (fun _ _ h=>h) (fun _ _ h=>h)
  ·simpa using wX vv vals.toList off h1 hv1
 ·intro b' _ hn
  exact zV _ _ _ _ _ (fun e=>hn id _ (by simp; rfl) (e▸hown))
 ·intro b' h; rw [aR]; exact hub b' h
 ·rintro id' o' b' (h | ⟨_,h⟩) ho
  ·simp at h
   obtain ⟨rfl,rfl⟩:=h
   refine .inr ⟨id',_,by simp; rfl,?_⟩
   obtain ⟨_,v,hv',hb'⟩:=ho
   exact ⟨by rw [hid]; rfl,v,hv',hb'⟩
  ·simp at h
 ·rintro id1 o1 id2 o2 b' (h | ⟨_,h⟩) (h' | ⟨_,h'⟩) _ _
  ·simp at h h'; rw [h.1,h'.1]
  all_goals simp at h h'

theorem nv {U':Nat→Prop} {id:Nat} {o:AO} (ho:be w U ρ id o) (hvf:kG o=true) (hu:∀ b,U' b→U b) (hf:∀ b,zO ρ id o b→¬ U' b):be w U' ρ id (sW o):=by
 cases o with
 | frz e l=>
  obtain ⟨v,h1,h2⟩:=ho
  exact ⟨v,h1,h2.weak hu⟩
 | vec e l=>
  have ho':=ho
  obtain ⟨a,c,h1,h2,h3⟩:=ho
  have:=s6 (w:=w) (U:=U) (U':=U') (ρ:=ρ) (hp:=fun _=>.vec e l) (e:=e) (c:=.vec id) (l:=l) (by simp [xw]) (.vec id _ h1 rfl) hu
   (fun id' h=>by simp [bw] at h; subst h; exact ho') (fun id' h=>by simp [bw] at h; subst h; exact hf)
  exact ⟨_,h1,this⟩
 | dead=>simp [kG] at hvf
 | box cs=>simp [kG] at hvf
 | fmap es=>simp [kG] at hvf
 | vmap u es=>simp [kG] at hvf
 | hol e l i m=>simp [kG] at hvf

theorem cD {hp:Nat→AO} {ids:List Nat} {id:Nat} {o:AO} (h:(id,o)∈ed hp ids):id∈ids∧o=sW (hp id):=by
 simp only [ed,fe,bC] at h
 obtain ⟨a,ha,rfl,rfl⟩:=h
 exact ⟨ha,rfl⟩

theorem nz {hp:Nat→AO} {ids:List Nat} {id:Nat} (h:id∈ids):(id,sW (hp id))∈ed hp ids:=by
 simp only [ed,fe,bC]
 exact ⟨id,h,rfl,rfl⟩

theorem mG {o:AO} (h:kG o=true):(sW o).owns=false:=by cases o <;> simp [kG] at h <;> rfl

theorem Df:∀ (e:Sh) (y:Sem e) (q:Nat) (cc:AV),(zn e y)[q]?=some cc→bw cc=[]:=by
 intro e
 induction e with
 | unit=>intro y q cc h; simp [zn] at h
 | bool=>intro y q cc h; cases q <;> simp [zn] at h; subst h; rfl
 | int k=>intro y q cc h; cases q <;> simp [zn] at h; subst h; rfl
 | str=>intro y q cc h; cases q <;> simp [zn] at h; subst h; rfl
 | sl e ih=>intro y q cc h; cases q <;> simp [zn] at h; subst h; rfl
 | pr a b iha ihb=>
  intro y q cc h
  simp only [zn] at h
  rcases Nat.lt_or_ge q (zn a y.1).length with hl | hl
  ·rw [j6 hl] at h; exact iha _ _ _ h
  ·rw [lc hl] at h; exact ihb _ _ _ h
 | expr=>
  intro y q cc h
  match q with
  | 0=>simp [zn] at h; subst h; rfl
  | 1=>simp [zn] at h; subst h; rfl
  | 2=>simp [zn] at h; subst h; rfl
  | 3=>simp [zn] at h; subst h; rfl
  | 4=>simp [zn] at h; subst h; rfl
  | 5=>simp [zn] at h; subst h; rfl
  | _+6=>simp [zn] at h

theorem qu:∀ (vs es:List AV) (off:Nat) (c:AV),c∈setCells es off vs→c∈es∨c∈vs
 | [],_,_,_,h=>.inl h
 | v::vs,es,off,c,h=>by
  rcases qu vs _ _ c h with h | h
  ·rcases mr h with h | h
   ·exact .inl h
   ·exact .inr (by simp [h])
  ·exact .inr (by simp [h])

theorem Ef.storeHol {n id i m:Nat} {hp:Nat→AO} {e:Sh} {l:List (List (Sem e))} {b c:Nat} {arr:Array Value} {T:TypeId} {vx:Value} (hub:∀ b,U b→b < w.heap.size) (hid:hp id=.vec (.sl e) l)
  (hρ:ρ id=some (.slice (some ⟨b,0,none⟩) l.length c)) (hc:0 < c) (hU:U b) (hb:w.heap[b]?=some (.cells arr T (0,0))) (hm:l.length≤zC) (hsz:arr.size=c * 1) (hle:l.length≤c)
  (hr:∀ i (hi:i < l.length) (j:Nat) (c:AV),(zn (.sl e) l[i])[j]?=some c→∃ v,arr[i * 1+j]?=some v∧Rv w U ρ c v) (hi:i < l.length) (hv:Rv w U ρ (.vec m) vx):
  Ef n hp { val:=.tup [],wr:=[(id,.hol e l i m)] } w U ρ undef (w.setCells b i [vx]) U ρ:=by
 have hown:zO ρ id (hp id) b:=⟨by rw [hid]; rfl,_,hρ,by simp [c9]; omega⟩
 have hk:∀ b',b' < w.heap.size→¬ U b'→(w.setCells b i [vx]).heap[b']?=w.heap[b']?:=fun b' _ hb'=>zV _ _ _ _ _ (fun e=>hb' (e▸hU))
 have hs:w.heap.size≤(w.setCells b i [vx]).heap.size:=by rw [aR]; exact bd _
 have hmono:∀ {cc:AV} {v:Value},Rv w U ρ cc v→Rv (w.setCells b i [vx]) U ρ cc v:=fun h=>h.mono hs hk (fun _ _ h=>h) (fun _ _ h=>h)
 refine ⟨gu.setCells [vx] w b i,.tup [] [] rfl (by simp),?_,by simp,fun _ _=>rfl,fun _ _ h=>h,?_,?_,fun _ _ h=>h,fun _ _ h _=>h,?_,?_⟩
 ·intro id' o' h
  simp at h
  obtain ⟨rfl,rfl⟩:=h
  refine ⟨b,T,(f8 arr.toList i [vx]).toArray,c,hρ,hm,hi,hU,bN [vx] w b i hb,by simp [cd]; omega,hle,fun k hk hki=>?_,vx,?_,hmono hv⟩
  ·obtain ⟨v,h1,h2⟩:=hr k hk 0 _ rfl
   refine ⟨v,?_,hmono h2⟩
   simp only [jG]
   rw [bW,if_neg (by simp; omega)]
   simpa using h1
  ·simp only [jG]
   rw [bW,if_pos (by simp; omega)]
   simp
 ·intro b' _ hn
  exact zV _ _ _ _ _ (fun e=>hn id _ (by simp; rfl) (e▸hown))
 ·intro b' h; rw [aR]; exact hub b' h
 ·rintro id' o' b' (h | ⟨_,h⟩) ho
  ·simp at h
   obtain ⟨rfl,rfl⟩:=h
   refine .inr ⟨id',_,by simp; rfl,?_⟩
   obtain ⟨_,v,hv',hb'⟩:=ho
   exact ⟨by rw [hid]; rfl,v,hv',hb'⟩
  ·simp at h
 ·rintro id1 o1 id2 o2 b' (h | ⟨_,h⟩) (h' | ⟨_,h'⟩) _ _
  ·simp at h h'; rw [h.1,h'.1]
  all_goals simp at h h'

theorem Ef.storeVec {n id i off:Nat} {hp:Nat→AO} {e:Sh} {l:List (Sem e)} {x:Sem e} {vs:List AV} {b c:Nat} {arr:Array Value} {T:TypeId} {vv:List Value} (hub:∀ b,U b→b < w.heap.size) (hid:hp id=.vec e l)
  (hρ:ρ id=some (.slice (some ⟨b,0,none⟩) l.length c)) (hc:0 < c) (hU:U b) (hb:w.heap[b]?=some (.cells arr T (0,0))) (hm:l.length≤zC) (hsz:arr.size=c * e.size) (hle:l.length≤c)
  (hr:∀ i (hi:i < l.length) (j:Nat) (c:AV),(zn e l[i])[j]?=some c→∃ v,arr[i * e.size+j]?=some v∧Rv w U ρ c v)
  (hv:cK w U ρ vs vv) (hin:off+vs.length≤e.size) (hi:i < l.length)
  (himp:cm hp e (setCells (zn e l[i]) off vs)=some (x,[]))
  (hvf:∀ j∈vs.flatMap bw,kG (hp j)=true∧j≠id) (hob:∀ j∈vs.flatMap bw,be w U ρ j (hp j))
  (hinj:∀ j∈vs.flatMap bw,∀ b,zO ρ j (hp j) b→¬ zO ρ id (hp id) b):
  Ef n hp { val:=.tup [],wr:=(id,.vec e (l.set i x))::ed hp (vs.flatMap bw) } w U ρ undef (w.setCells b (i * e.size+off) vv)
   (fun b=>U b∧¬ ∃ j∈vs.flatMap bw,zO ρ j (hp j) b) ρ:=by
 have hown:zO ρ id (hp id) b:=⟨by rw [hid]; rfl,_,hρ,by simp [c9]; omega⟩
 have hnb:¬ ∃ j∈vs.flatMap bw,zO ρ j (hp j) b:=fun ⟨j,hj,ho⟩=>hinj j hj b ho hown
 generalize hU':(fun b=>U b∧¬ ∃ j∈vs.flatMap bw,zO ρ j (hp j) b)=U'
 have hsub:∀ b,U' b→U b:=fun b h=>by rw [← hU'] at h; exact h.1
 have hfz:∀ j∈vs.flatMap bw,∀ b,zO ρ j (hp j) b→¬ U' b:=fun j hj b ho h=>by rw [← hU'] at h; exact h.2 ⟨j,hj,ho⟩
 have hUb:U' b:=by rw [← hU']; exact ⟨hU,hnb⟩
 have hk:∀ b',b' < w.heap.size→¬ U' b'→(w.setCells b (i * e.size+off) vv).heap[b']?=w.heap[b']?:=fun b' _ hb'=>zV _ _ _ _ _ (fun e=>hb' (e▸hUb))
 have hs:w.heap.size≤(w.setCells b (i * e.size+off) vv).heap.size:=by rw [aR]; exact bd _
 have hmono:∀ {cc:AV} {v:Value},Rv w U' ρ cc v→Rv (w.setCells b (i * e.size+off) vv) U' ρ cc v:=fun h=>h.mono hs hk (fun _ _ h=>h) (fun _ _ h=>h)
 have hblk:=bN vv w b (i * e.size+off) hb
 have hvlen:vv.length=vs.length:=hv.len.symm
 have hmul:(i+1) * e.size≤c * e.size:=cN _ (by omega)
 rw [ee] at hmul
 have helem:∀ (j:Nat) (cc:AV),(zn e x)[j]?=some cc→Rv w U' ρ cc ((f8 arr.toList (i * e.size+off) vv)[i * e.size+j]?.getD undef):=by
  have hrl:cK w U ρ (zn e l[i]) ((List.range e.size).map fun j=>(arr[i * e.size+j]?).getD undef):=by
   refine ⟨by simp [zN],fun j cc v hcc hv=>?_⟩
   simp only [de,dI] at hv
   obtain ⟨j',hj,rfl⟩:=hv
   obtain ⟨hlt,hjj⟩:=nJ hj
   subst hjj
   obtain ⟨v,h1,h2⟩:=hr i hi _ cc hcc
   rw [h1]; exact h2
  have hset:=tK vs vv _ _ off hrl hv
  refine (gK (w:=w) (U:=U) (U':=U') (ρ:=ρ) (hp:=hp) hsub e _ x [] (fun j=>(f8 arr.toList (i * e.size+off) vv)[i * e.size+j]?.getD undef) himp ?_ ?_).2.2
  ·intro j cc hj
   have hlt:j < e.size:=by
    have:=(bM.1 hj).1
    rwa [mb,zN] at this
   refine hset.rv j cc _ hj ?_
   have hlt2:i * e.size+j < arr.size:=by omega
   rw [bW,bW]
   simp only [ye,List.length_range,Array.length_toList]
   by_cases hc1:off≤j∧j < off+vv.length∧j < e.size
   ·rw [if_pos hc1,if_pos (by omega),show i * e.size+j - (i * e.size+off)=j - off by omega]
    rw [zJ (by omega)]; simp
   ·rw [if_neg hc1,if_neg (by omega)]
    simp [x7 hlt,gZ hlt2]
  ·intro j hj
   have hj':j∈vs.flatMap bw:=by
    simp only [Cx] at hj ⊢
    obtain ⟨cc,hcc,hj⟩:=hj
    rcases qu _ _ _ _ hcc with h | h
    ·obtain ⟨q,hq⟩:=List.mem_iff_getElem?.1 h
     rw [Df e _ q cc hq] at hj; simp at hj
    ·exact ⟨cc,h,hj⟩
   exact ⟨hob j hj',fun b' ho=>hfz j hj' b' ho⟩
 refine ⟨gu.setCells vv w b _,.tup [] [] rfl (by simp),?_,by simp,fun _ _=>rfl,fun _ _ h=>h,?_,?_,fun b' _ h=>hsub b' h,?_,?_,?_⟩
 ·intro id' o' h
  simp only [cY,bC] at h
  rcases h with ⟨rfl,rfl⟩ | h
  ·refine ⟨_,c,by rw [hρ]; simp,by simpa using hm,.inr ⟨b,T,(f8 arr.toList (i * e.size+off) vv).toArray,rfl,hc,hUb,hblk,by simp [cd,hsz],by simpa using hle,?_⟩⟩
   intro i' hi' j cc hcc
   simp only [jM] at hi'
   by_cases hii:i=i'
   ·subst hii
    have hcc':(zn e x)[j]?=some cc:=by simpa using hcc
    have hlt:j < e.size:=by have:=(bM.1 hcc').1; rwa [zN] at this
    have hlt2:i * e.size+j < (f8 arr.toList (i * e.size+off) vv).length:=by rw [cd]; simp; omega
    refine ⟨(f8 arr.toList (i * e.size+off) vv)[i * e.size+j],by simp [zJ hlt2],?_⟩
    have:=helem j cc hcc'
    rw [zJ hlt2] at this
    exact hmono this
   ·rw [List.getElem_set_ne hii] at hcc
    obtain ⟨v,h1,h2⟩:=hr i' hi' j cc hcc
    refine ⟨v,?_,hmono (h2.weak hsub)⟩
    have hlt:j < e.size:=by have:=(bM.1 hcc).1; rwa [zN] at this
    have hne:¬ (i * e.size+off≤i' * e.size+j∧i' * e.size+j < i * e.size+off+vv.length∧i' * e.size+j < arr.toList.length):=by
     rintro ⟨q1,q2,_⟩
     rcases Nat.lt_or_gt_of_ne hii with hlt' | hlt'
     ·have:=cN e.size (pm hlt')
      rw [ee] at this
      omega
     ·have:=cN e.size (pm hlt')
      rw [ee] at this
      omega
    simp only [jG]
    rw [bW,if_neg hne]
    simpa using h1
  ·obtain ⟨hin',rfl⟩:=cD h
   refine (nv (hob id' hin') (hvf id' hin').1 hsub (hfz id' hin')).mono hs hk (fun _ _ h=>h) (fun _ _ h=>h) ?_
   intro b' ho
   have:=mG (hvf id' hin').1
   rw [zO,this] at ho
   simp at ho
 ·intro b' _ hn
  exact zV _ _ _ _ _ (fun e'=>hn id _ (by simp; exact .inl rfl) (e'▸hown))
 ·intro b' h; rw [aR]; exact hub b' (hsub b' h)
 ·intro b' _ h hn
  rw [← hU']
  exact ⟨h,fun ⟨j,hj,ho⟩=>hn j _ (ms _ (nz hj)) ho⟩
 ·rintro id' o' b' (h | ⟨_,h⟩) ho
  ·simp only [cY,bC] at h
   rcases h with ⟨rfl,rfl⟩ | h
   ·refine .inr ⟨id',_,ud,?_⟩
    obtain ⟨_,v,hv',hb'⟩:=ho
    exact ⟨by rw [hid]; rfl,v,hv',hb'⟩
   ·obtain ⟨hin',rfl⟩:=cD h
    have:=mG (hvf id' hin').1
    rw [zO,this] at ho
    simp at ho
  ·simp at h
 ·rintro id1 o1 id2 o2 b' (h | ⟨_,h⟩) (h' | ⟨_,h'⟩) ho ho'
  ·have key:∀ id' o',(id',o')∈((id,AO.vec e (l.set i x))::ed hp (vs.flatMap bw))→zO ρ id' o' b'→id'=id:=by
    intro id' o' h ho
    simp only [cY,bC] at h
    rcases h with ⟨rfl,_⟩ | h
    ·rfl
    ·obtain ⟨hin',rfl⟩:=cD h
     have:=mG (hvf id' hin').1
     rw [zO,this] at ho
     simp at ho
   rw [key _ _ h ho,key _ _ h' ho']
  all_goals simp at h h'

end
section
variable {P:Program} {w:World} {U:Nat→Prop} {ρ:Nat→Option Value}

structure tR (w:World) (U:Nat→Prop) (ρ:Nat→Option Value) (hp:Nat→AO) (fp:List Nat):Prop where
 ob:∀ id∈fp,be w U ρ id (hp id)
 inj:∀ id1∈fp,∀ id2∈fp,∀ b,zO ρ id1 (hp id1) b→zO ρ id2 (hp id2) b→id1=id2

theorem oV {n:Nat} {hp:Nat→AO} {t:TypeId} {aa ax:AV} {va vx:Value} {f:ew} {fp:List Nat} (h:(pM P hp t aa ax).val=some f)
  (ha:Rv w U ρ aa va) (hx:Rv w U ρ ax vx) (hub:∀ b,U b→b < w.heap.size) (hfp:tR w U ρ hp fp) (hin1:∀ id∈aa.ids,id∈fp) (hin2:∀ id∈cJ ax,id∈fp):
  ∃ w' U',(Instr.storeAt t va vx).run P w=.ok () w'∧Ef n hp f w U ρ undef w' U' ρ∧∀ id o,(id,o)∈f.wr→id∈fp:=by
 unfold pM at h
 split at h
 ·rename_i vs sz hcs hsz
  obtain ⟨hv,hv1⟩:=eA hcs hx
  split at h
  ·rename_i hlen
   split at h
   ·rename_i id off
    cases ha with
    | ptr _ _ b hb=>
    have ho:=hfp.ob id (hin1 id (by simp [AV.ids]))
    split at h
    ·rename_i cs hid
     rw [hid] at ho
     obtain ⟨b',T,vals,h1,h2,h3,h4,h5⟩:=ho
     rw [hb] at h1; cases h1
     split at h
     ·rename_i hle
      simp at h; subst h
      refine ⟨_,U,?_,Ef.store hub hid hb h2 h3 h4 h5 hv hv1,?_⟩
      ·have:=iB (P:=P) (w:=w) (o:=off) hsz (by rw [← hv.len]; exact hlen) h3 (by have:=h4.len; simp at this; omega) hv1
       simp [Instr.storeAt,Instr.sureAddr,this]
      ·intro id' o' h'
       simp at h'; rw [h'.1]; exact hin1 id (by simp [AV.ids])
     ·simp at h
    ·simp at h
   ·rename_i id sz' i off
    cases ha with
    | vptr _ _ _ _ b n' c hb=>
    have hidfp:=hin1 id (by simp [AV.ids])
    have ho:=hfp.ob id hidfp
    split at h
    ·rename_i e l hid
     split at h
     ·rename_i hcond
      obtain ⟨rfl,hoff,hall⟩:=hcond
      split at h
      ·rename_i x himp
       simp at h
       obtain ⟨hi,rfl⟩:=h
       have hobid:=ho
       rw [hid] at ho
       obtain ⟨a,c',h1,hm,h3⟩:=ho
       rw [hb] at h1; cases h1
       rcases h3 with ⟨rfl,_⟩ | ⟨b',T,arr,hba,hc,hU,hbb,hsz',hle,hrr⟩
       ·simp at hi
       ·cases hba
        have hget:l[i]?.getD (zj e)=l[i]:=by simp [zJ hi]
        rw [aJ,hget] at himp
        have hids:∀ j∈vs.flatMap bw,j∈fp:=fun j hj=>hin2 j (by simpa [cJ,hcs] using hj)
        simp only [cX,aL,bne_iff_ne,ne_eq] at hall
        refine ⟨_,_,?_,Ef.storeVec hub hid hb hc hU hbb hm hsz' hle hrr hv (by omega) hi himp hall (fun j hj=>hfp.ob j (hids j hj))
         (fun j hj b' ho1 ho2=>(hall j hj).2 (hfp.inj j (hids j hj) id hidfp b' ho1 ho2)),?_⟩
        ·have hmul:(i+1) * e.size≤c * e.size:=cN _ (by omega)
         rw [ee] at hmul
         have:=iB (P:=P) (w:=w) (o:=i * e.size+off) hsz (by rw [← hv.len]; exact hlen) hbb (by omega) hv1
         simp [Instr.storeAt,Instr.sureAddr,this]
        ·intro id' o' h'
         simp only [cY,bC] at h'
         rcases h' with ⟨rfl,_⟩ | h'
         ·exact hidfp
         ·exact hids _ (cD h').1
      ·simp at h
     ·simp at h
    ·simp at h
   ·simp at h
  ·simp at h
 ·simp at h

theorem De {n:Nat} {hp:Nat→AO} {t:TypeId} {aa ax:AV} {va vx:Value} {f:ew} {fp:List Nat} (h:(vI P hp t aa ax).val=some f)
  (ha:Rv w U ρ aa va) (hx:Rv w U ρ ax vx) (hub:∀ b,U b→b < w.heap.size) (hfp:tR w U ρ hp fp) (hin1:∀ id∈aa.ids,id∈fp) (hin2:∀ id∈cJ ax,id∈fp):
  ∃ w' U',(Instr.storeAt t va vx).run P w=.ok () w'∧Ef n hp f w U ρ undef w' U' ρ∧∀ id o,(id,o)∈f.wr→id∈fp:=by
 unfold vI at h
 split at h
 ·rename_i id sz i off m
  split at h
  ·rename_i e l e' l' hid hm'
   split at h
   ·rename_i hcond
    obtain ⟨rfl,rfl,rfl,hne,hsz⟩:=hcond
    simp at h
    obtain ⟨hi,rfl⟩:=h
    cases ha with
    | vptr _ _ _ _ b n' c hb=>
    have hidfp:=hin1 id (by simp [AV.ids])
    have ho:=hfp.ob id hidfp
    rw [hid] at ho
    obtain ⟨a,c',h1,hm,h3⟩:=ho
    rw [hb] at h1; cases h1
    have h1:vx.oneCell'=true:=by cases hx; assumption
    have hcells:vx.cells = #[vx]:=by cases vx <;> simp [Value.oneCell'] at h1 <;> rfl
    rcases h3 with ⟨rfl,_⟩ | ⟨b',T,arr,hba,hc,hU,hbb,hsz',hle,hrr⟩
    ·simp at hi
    ·cases hba
     refine ⟨_,U,?_,Ef.storeHol hub hid hb hc hU hbb hm hsz' hle hrr hi hx,?_⟩
     ·have hs1:arr.size=c * 1:=hsz'
      have:=iB (P:=P) (w:=w) (v:=vx) (o:=i * 1+0) hsz (by rw [hcells]; rfl) hbb (by omega) (by rw [hcells]; simpa using h1)
      rw [hcells] at this
      simp at this
      simp [Instr.storeAt,Instr.sureAddr,this]
     ·intro id' o' h'
      simp at h'
      rw [h'.1]; exact hidfp
   ·simp at h
  ·exact oV h ha hx hub hfp hin1 hin2
 ·exact oV h ha hx hub hfp hin1 hin2

theorem r6 {hp:Nat→AO} {e:Sh} {v:AV} {x:Sem e} (h:rZ hp e v=some x):∃ cs,cellsOf v=some cs∧cm hp e cs=some (x,[]):=by
 unfold rZ at h
 split at h
 ·split at h
  ·rename_i cs hcs
   split at h
   ·rename_i y hy
    cases h
    exact ⟨cs,hcs,hy⟩
   ·cases h
  ·cases h
 ·cases h

theorem qQ {hp:Nat→AO} {e:Sh} {U':Nat→Prop} (hsub:∀ b,U' b→U b):∀ (vs:List AV) (vals:List Value) (l:List (Sem e)),qP hp e vs=some l→cK w U ρ vs vals→
  (∀ id∈vs.flatMap cJ,be w U ρ id (hp id)∧∀ b,zO ρ id (hp id) b→¬ U' b)→
  l.length=vals.length∧(∀ v∈vals,v.cells.size=e.size∧∀ x∈v.cells.toList,x.oneCell'=true)∧
  ∀ i (hi:i < l.length) (hv:i < vals.length) (j:Nat) (c:AV),(zn e l[i])[j]?=some c→∃ v,vals[i].cells[j]?=some v∧Rv w U' ρ c v
 | [],vals,l,h,hr,_=>by
  simp [qP] at h; subst h
  have:=hr.len
  simp at this
  have hv:vals=[]:=Ct (by simpa using this.symm)
  subst hv
  simp
 | v::vs,[],l,_,hr,_=>by have:=hr.len; simp at this
 | v :: vs,u::vals,l,h,hr,hob=>by
  simp only [qP] at h
  split at h
  ·rename_i x l' hx hl
   cases h
   obtain ⟨cs,hcs,himp⟩:=r6 hx
   obtain ⟨hcv,hcv1⟩:=eA hcs (hr.rv 0 v u rfl rfl)
   obtain ⟨h1,h2,h3⟩:=qQ hsub vs vals l' hl ⟨by have:=hr.len; simpa using this,fun j c v hc hv=>hr.rv (j+1) c v hc hv⟩
    (fun id hid=>hob id (by simp only [List.flatMap_cons,bn]; exact .inr hid))
   obtain ⟨q1,q2,q3⟩:=gK (w:=w) (U:=U) (U':=U') (ρ:=ρ) (hp:=hp) hsub e cs x [] (fun j=>(u.cells.toList[j]?).getD undef) himp
    (fun j c hj=>by
     have hlt:j < u.cells.toList.length:=by rw [← hcv.len]; exact (bM.1 hj).1
     exact hcv.rv j c _ hj (by simp [zJ hlt]))
    (fun id hid=>hob id (by simp only [List.flatMap_cons,bn]; exact .inl (by simpa [cJ,hcs] using hid)))
   have hsz:u.cells.size=e.size:=by
    have:=hcv.len
    simp at this q1
    omega
   refine ⟨by simp [h1],?_,?_⟩
   ·intro y hy
    simp only [cY] at hy
    rcases hy with rfl | hy
    ·exact ⟨hsz,hcv1⟩
    ·exact h2 y hy
   ·intro i hi hv j c hc
    cases i with
    | zero=>
     simp only [List.getElem_cons_zero] at hc ⊢
     have hlt:j < u.cells.size:=by rw [hsz]; have:=(bM.1 hc).1; rwa [zN] at this
     refine ⟨u.cells[j],gZ hlt,?_⟩
     have:=q3 j c hc
     simpa [gZ hlt] using this
    | succ i=>
     simp only [List.getElem_cons_succ] at hc ⊢
     exact h3 i (by simpa using hi) (by simpa using hv) j c hc
  ·cases h

theorem ro (size:Nat):∀ (vs:List Value) (k:Nat) (cells:List Value),(∀ v∈vs,v.cells.size=size)→(k+vs.length) * size≤cells.length→
  ∃ r:List Value,Instr.fill (fun i=>some (i * size,size)) cells.toArray ((vs.zipIdx k).map fun p=>(p.2,p.1))=some r.toArray∧r.length=cells.length∧
   (∀ q,q < k * size→r[q]?=cells[q]?)∧∀ i (hi:i < vs.length) j,j < size→r[(k+i) * size+j]?=vs[i].cells[j]?
 | [],k,cells,_,_=>⟨cells,by simp [Instr.fill],rfl,fun _ _=>rfl,by simp⟩
 | v::vs,k,cells,hsz,hle=>by
  have hv:=hsz v (by simp)
  simp only [oe] at hle
  have hm:k * size+size≤cells.length:=by
   have h1:(k+1) * size≤(k+(vs.length+1)) * size:=cN _ (by omega)
   rw [ee] at h1
   omega
  obtain ⟨r,e1,e2,e3,e4⟩:=ro size vs (k+1) (f8 cells (k * size) v.cells.toList) (fun x hx=>hsz x (by simp [hx]))
   (by rw [cd,show k+1+vs.length=k+(vs.length+1) by omega]; exact hle)
  refine ⟨r,?_,by rw [e2,cd],?_,?_⟩
  ·simp only [List.zipIdx_cons,jO,Instr.fill]
   rw [if_neg (by simp; omega)]
   rw [← e1]
   congr 1
   have:=vO cells v.cells.toList 0 (k * size)
   rw [oh] at this
   rw [← this,← Array.foldl_toList,Array.toList_zipIdx]
  ·intro q hq
   rw [e3 q (by rw [ee]; omega),bW,if_neg (by omega)]
  ·intro i hi j hj
   cases i with
   | zero=>
    simp only [oh,List.getElem_cons_zero]
    rw [e3 _ (by rw [ee]; omega),bW,if_pos (by simp; omega),show k * size+j - k * size=j by omega]
    simp
   | succ i=>
    simp only [List.getElem_cons_succ]
    have:=e4 i (by simpa using hi) j hj
    rwa [show k+1+i=k+(i+1) by omega] at this

structure EnvOk (E:bt):Prop where
 sh:∀ t e,E.sh t=some e→∃ i z,E.P.info? t=some i∧i.size=e.size∧0 < e.size∧i.bytes≤131072∧i.zero=some z∧z.cells.size=i.size

theorem mH:∀ (ps:List (Nat×AV)) (n:Nat),pQ n ps=true→ps=((ps.map (·.2)).zipIdx n).map fun p=>(p.2,p.1)
 | [],_,_=>rfl
 | (i,v)::r,n,h=>by
  simp [pQ] at h
  obtain ⟨rfl,h⟩:=h
  simp only [jO,List.zipIdx_cons]
  congr 1
  exact mH r (i+1) h

theorem Ef.allocFrz {n:Nat} {hp:Nat→AO} {ids:List Nat} {arr:Array Value} {T:TypeId} {r:AV} {v:Value} (hub:∀ b,U b→b < w.heap.size) (hvf:∀ j∈ids,kG (hp j)=true)
  (hob:∀ j∈ids,be w U ρ j (hp j)) (hval:Rv (w.alloc (.cells arr T)) (fun b=>U b∧¬ ∃ j∈ids,zO ρ j (hp j) b) ρ r v):
  Ef n hp { val:=r,wr:=ed hp ids } w U ρ v (w.alloc (.cells arr T)) (fun b=>U b∧¬ ∃ j∈ids,zO ρ j (hp j) b) ρ:=by
 generalize hU':(fun b=>U b∧¬ ∃ j∈ids,zO ρ j (hp j) b)=U' at hval ⊢
 have hsub:∀ b,U' b→U b:=fun b h=>by rw [← hU'] at h; exact h.1
 have hfz:∀ j∈ids,∀ b,zO ρ j (hp j) b→¬ U' b:=fun j hj b ho h=>by rw [← hU'] at h; exact h.2 ⟨j,hj,ho⟩
 have hk:∀ b',b' < w.heap.size→¬ U' b'→(w.alloc (.cells arr T)).heap[b']?=w.heap[b']?:=fun b' hb _=>aY w _ b' hb
 have hs:w.heap.size≤(w.alloc (.cells arr T)).heap.size:=by rw [aH]; omega
 have noOwn:∀ id o b,(id,o)∈ed hp ids→zO ρ id o b→False:=by
  intro id o b h ho
  obtain ⟨hin',rfl⟩:=cD h
  rw [zO,mG (hvf id hin')] at ho
  simp at ho
 refine ⟨gu.alloc w arr T,hval,?_,by simp,fun _ _=>rfl,fun _ _ h=>h,fun b' hb _=>aY w _ b' hb,?_,fun b' _ h=>hsub b' h,?_,?_,?_⟩
 ·intro id o h
  have h0:=h
  obtain ⟨hin',rfl⟩:=cD h
  exact (nv (hob id hin') (hvf id hin') hsub (hfz id hin')).mono hs hk (fun _ _ h=>h) (fun _ _ h=>h) (fun b' ho=>(noOwn id _ b' h0 ho).elim)
 ·intro b' h; rw [aH]; have:=hub b' (hsub b' h); omega
 ·intro b' _ h hn
  rw [← hU']
  exact ⟨h,fun ⟨j,hj,ho⟩=>hn j _ (nz hj) ho⟩
 ·rintro id o b' (h | ⟨_,h⟩) ho
  ·exact (noOwn id o b' h ho).elim
  ·simp at h
 ·rintro id1 o1 id2 o2 b' (h | ⟨_,h⟩) _ ho _
  ·exact (noOwn id1 o1 b' h ho).elim
  ·simp at h

theorem sS {E:bt} (hE:EnvOk E) {n:Nat} {hp:Nat→AO} {t:TypeId} {len:Nat} {ps:List (Nat×AV)} {vps:List (Nat×Value)} {f:ew} {fp:List Nat}
  (h:(lr E hp t len ps).val=some f) (hi:ps.map (·.1)=vps.map (·.1)) (hr:cK w U ρ (ps.map (·.2)) (vps.map (·.2)))
  (hub:∀ b,U b→b < w.heap.size) (hfp:tR w U ρ hp fp) (hin:∀ id∈ps.flatMap (fun p=>cJ p.2),id∈fp):
  ∃ v w' U',(Instr.buildSlice t len vps.toArray).run E.P w=.ok v w'∧Ef n hp f w U ρ v w' U' ρ∧∀ id o,(id,o)∈f.wr→id∈fp:=by
 unfold lr at h
 split at h
 ·rename_i elem hu
  split at h
  ·split at h
   ·rename_i hemp
    simp at hemp
    obtain ⟨rfl,hsz⟩:=hemp
    have hvps:vps=[]:=by
     have:=congrArg List.length hi
     simp at this
     exact Ct (by omega)
    subst hvps
    simp at h; subst h
    obtain ⟨sz,hsz⟩:=Option.isSome_iff_exists.1 hsz
    have hrun:∃ arr,(Instr.buildSlice t 0 #[]).run E.P w=.ok (.slice (some ⟨w.heap.size,0,none⟩) 0 0) (w.alloc (.cells arr elem)):=
     ⟨_,by simp [Instr.buildSlice,aW hu,bz hsz,Instr.fill,newRow]; rfl⟩
    obtain ⟨arr,hrun⟩:=hrun
    exact ⟨_,_,_,hrun,Ef.allocFrz (ids:=[]) (T:=elem) hub (by simp) (by simp) (.nils _),by simp⟩
   ·simp at h
  ·rename_i hne
   split at h
   ·rename_i e he
    split at h
    ·rename_i hcond
     simp at hcond
     obtain ⟨⟨⟨hlen,hord⟩,hmax⟩,hvf⟩:=hcond
     split at h
     ·rename_i l hl
      simp at h; subst h
      obtain ⟨i,z,hinfo,hisz,hpos,_,hz,hzc⟩:=hE.sh elem e he
      have hsz:dL E.P elem=some e.size:=by simp [dL,hinfo,hisz]
      have hids:∀ id∈(ps.map (·.2)).flatMap cJ,id∈ps.flatMap (fun p=>cJ p.2):=by
       intro id hid
       simpa [List.flatMap_map] using hid
      have hvf':∀ j∈ps.flatMap (fun p=>cJ p.2),kG (hp j)=true:=by
       intro j hj
       simp only [Cx] at hj
       obtain ⟨p,hp',hj⟩:=hj
       exact hvf p.1 p.2 hp' j hj
      generalize hU':(fun b=>U b∧¬ ∃ j∈ps.flatMap (fun p=>cJ p.2),zO ρ j (hp j) b)=U'
      have hsub:∀ b,U' b→U b:=fun b h=>by rw [← hU'] at h; exact h.1
      obtain ⟨h1,h2,h3⟩:=qQ (w:=w) (U:=U) (ρ:=ρ) (U':=U') hsub _ _ l hl hr
       (fun id hid=>⟨hfp.ob id (hin id (hids id hid)),fun b ho h=>by rw [← hU'] at h; exact h.2 ⟨id,hids id hid,ho⟩⟩)
      have hvps:vps=((vps.map (·.2)).zipIdx 0).map fun p=>(p.2,p.1):=by
       have h1:=mH ps 0 hord
       have hidx:ps.map (·.1)=List.range' 0 ps.length:=by
        have:=congrArg (List.map (·.1)) h1
        rw [rY] at this
        rw [this]
        have e2:((fun x:Nat×AV=>x.1) ∘ fun p:AV×Nat=>(p.2,p.1))=Prod.snd:=rfl
        rw [e2,List.zipIdx_map_snd]
        simp
       have hl2:ps.length=vps.length:=by have:=congrArg List.length hi; simpa using this
       rw [hi,hl2] at hidx
       apply List.ext_getElem
       ·simp
       ·intro k hk hk'
        have:(vps.map (·.1))[k]?=(List.range' 0 vps.length)[k]?:=by rw [hidx]
        rw [de,zJ hk,List.getElem?_range' hk] at this
        simp at this
        simp
        exact Prod.ext this rfl
      have hlen2:vps.length=len:=by rw [← hlen]; have:=congrArg List.length hi; simpa using this.symm
      obtain ⟨r,e1,e2,e3,e4⟩:=ro e.size (vps.map (·.2)) 0 (((Array.range (len * e.size)).map (z.cells[· % z.cells.size]!)).toList)
       (fun v hv=>(h2 v hv).1) (by simp [hlen2])
      rw [← hvps] at e1
      have hne0:len * e.size≠0:=by
       have:len≠0:=fun h0=>hne h0
       exact Nat.mul_ne_zero this (by omega)
      have hbig:¬ (2 ^ 24 < len * e.size):=by omega
      have hll:l.length=len:=by rw [h1]; simpa using hlen2
      refine ⟨.slice (some ⟨w.heap.size,0,none⟩) len len,w.alloc (.cells r.toArray elem),_,?_,Ef.allocFrz hub hvf' (fun j hj=>hfp.ob j (hin j hj)) ?_,fun id o h=>hin id (cD h).1⟩
      ·simp only [Gv] at e1
       simp only [Instr.buildSlice,cZ,aW hu,bz hsz,jj]
       simp only [gt_iff_lt,hbig,if_false,hne0,ol,jj,cZ,zeroValue,typeInfo,run_program,hinfo,hz,e1,newRow,run_newObj]
       rfl
      ·rw [hU']
       have hk:∀ b',b' < w.heap.size→¬ U' b'→(w.alloc (.cells r.toArray elem)).heap[b']?=w.heap[b']?:=fun b' hb _=>aY w _ b' hb
       have hs:w.heap.size≤(w.alloc (.cells r.toArray elem)).heap.size:=by rw [aH]; omega
       suffices hsuf:Rv (w.alloc (.cells r.toArray elem)) U' ρ (.sl e l) (.slice (some ⟨w.heap.size,0,none⟩) l.length len) by rw [hll] at hsuf; exact hsuf
       refine .sl e l w.heap.size 0 len (fun i j=>(r[i * e.size+j]?).getD undef) (by omega) (by unfold zC; have:len≤len * e.size:=Nat.le_mul_of_pos_right _ hpos; omega) (by rw [aH]; omega)
        (fun h=>by have:=hub _ (hsub _ h); omega) (fun i' j hi' hj=>?_) (fun i' hi' j c hc=>?_)
       ·have hlt:i' * e.size+j < r.length:=by
         rw [e2]
         have:(i'+1) * e.size≤len * e.size:=cN _ (by omega)
         rw [ee] at this
         simp
         omega
        unfold World.cell?
        rw [dp]
        simp [zJ hlt]
       ·have hi'':i' < (vps.map (·.2)).length:=by rw [← h1]; exact hi'
        obtain ⟨v,hv1,hv2⟩:=h3 i' hi' hi'' j c hc
        have hj:j < e.size:=by have:=(bM.1 hc).1; rwa [zN] at this
        have:=e4 i' hi'' j hj
        rw [ez] at this
        rw [this,hv1]
        exact hv2.mono hs hk (fun _ _ h=>h) (fun _ _ h=>h)
     ·simp at h
    ·simp at h
   ·simp at h
 ·simp at h

end
section
variable {P:Program} {w:World} {U:Nat→Prop} {ρ:Nat→Option Value}

def SlR (w:World) (U:Nat→Prop) (ρ:Nat→Option Value) (e:Sh) (l:List (Sem e)) (v:Value):Prop:=
 ∃ a cap,v=.slice a l.length cap∧l.length≤cap∧l.length≤zC∧(l=[]∨∃ b o,a=some ⟨b,o,none⟩∧
  ∀ i (hi:i < l.length) (j:Nat) (c:AV),(zn e l[i])[j]?=some c→∃ x,w.cell? ⟨b,o+i * e.size+j,none⟩=some x∧Rv w U ρ c x)

theorem HX {e:Sh} {l:List (Sem e)} {v:Value} (h:Rv w U ρ (.sl e l) v):SlR w U ρ e l v:=by
 cases h with
 | sl0 _ a c=>exact ⟨a,c,rfl,by simp,by simp,.inl rfl⟩
 | sl _ _ b o c vals hc hm hb hU hcell hr=>
  refine ⟨_,c,rfl,hc,hm,.inr ⟨b,o,rfl,fun i hi j cc hcc=>⟨vals i j,hcell i j hi ?_,hr i hi j cc hcc⟩⟩⟩
  have:=(bM.1 hcc).1; rwa [zN] at this

theorem qF {id:Nat} {e:Sh} {l:List (Sem e)} {v:Value} (h:be w U ρ id (.vec e l)) (hv:ρ id=some v):SlR w U ρ e l v:=by
 obtain ⟨a,c,h1,hm,h3⟩:=h
 rw [hv] at h1; cases h1
 rcases h3 with ⟨rfl,rfl⟩ | ⟨b,T,arr,rfl,hc,hU,hb,hsz,hle,hr⟩
 ·exact ⟨a,0,rfl,by simp,by simp,.inl rfl⟩
 ·refine ⟨_,c,rfl,hle,hm,.inr ⟨b,0,rfl,fun i hi j cc hcc=>?_⟩⟩
  obtain ⟨x,h1,h2⟩:=hr i hi j cc hcc
  exact ⟨x,by simp [World.cell?,hb,h1],h2⟩

theorem yh {hp:Nat→AO} {e:Sh} {c:AV} {l:List (Sem e)} {v:Value} (h:xw hp e c=some l) (hr:Rv w U ρ c v)
  (hob:∀ id∈c.ids,be w U ρ id (hp id)):SlR w U ρ e l v:=by
 cases c <;> simp [xw] at h
 case nils=>
  subst h
  cases hr
  exact ⟨_,0,rfl,by simp,by simp,.inl rfl⟩
 case sl e' l'=>
  obtain ⟨rfl,h⟩:=h
  subst h
  exact HX hr
 case vec id=>
  cases hr with
  | vec _ _ hv _=>
  have h1:=hob id (by simp [AV.ids])
  cases ho:hp id with
  | dead=>simp [ho] at h
  | box cs=>simp [ho] at h
  | fmap es=>simp [ho] at h
  | vmap u es=>simp [ho] at h
  | hol e l i m=>simp [ho] at h
  | frz e' l'=>
   simp [ho] at h
   obtain ⟨rfl,h⟩:=h
   subst h
   rw [ho] at h1
   obtain ⟨v',hv',hrv⟩:=h1
   rw [hv] at hv'; cases hv'
   exact HX hrv
  | vec e' l'=>
   simp [ho] at h
   obtain ⟨rfl,h⟩:=h
   subst h
   rw [ho] at h1
   exact qF h1 hv

def aI (size n:Nat) (vals:Nat→Nat→Value):List Value:=(List.range (n * size)).map fun q=>vals (q / size) (q % size)

theorem gP {size n:Nat} {vals:Nat→Nat→Value} {i j:Nat} (hi:i < n) (hj:j < size):(aI size n vals)[i * size+j]?=some (vals i j):=by
 have hlt:i * size+j < n * size:=by
  have:=cN size (pm hi)
  rw [ee] at this
  omega
 have h1:(i * size+j) / size=i:=by
  rw [po,Nat.add_mul_div_right _ _ (by omega),Nat.div_eq_of_lt hj]; omega
 have h2:(i * size+j) % size=j:=by
  rw [po,Nat.add_mul_mod_self_right,Nat.mod_eq_of_lt hj]
 simp [aI,x7 hlt,h1,h2]

theorem aP {size n:Nat} {vals:Nat→Nat→Value}:(aI size n vals).length=n * size:=by simp [aI]

theorem SlR.cells {e:Sh} {l:List (Sem e)} {v:Value} (h:SlR w U ρ e l v) (hpos:0 < e.size):∃ (a:Option Addr) (cap:Nat) (vals:Nat→Nat→Value),v=.slice a l.length cap∧l.length≤cap∧
  (∀ i (hi:i < l.length) (j:Nat) (c:AV),(zn e l[i])[j]?=some c→Rv w U ρ c (vals i j))∧(∀ x∈aI e.size l.length vals,x.oneCell'=true)∧
  (a=none→l=[])∧∀ ad,a=some ad→∀ (q:Nat) x,(aI e.size l.length vals)[q]?=some x→w.cell? (ad.add q)=some x:=by
 obtain ⟨a,cap,rfl,hc,hm,h⟩:=h
 rcases h with rfl | ⟨b,o,rfl,hr⟩
 ·exact ⟨a,cap,fun _ _=>undef,rfl,hc,by simp,by simp [aI],fun _=>rfl,by simp [aI]⟩
 ·have hex:∀ i j,i < l.length→j < e.size→∃ x,w.cell? ⟨b,o+i * e.size+j,none⟩=some x∧x.oneCell'=true∧∀ (hi:i < l.length) c,(zn e l[i])[j]?=some c→Rv w U ρ c x:=by
   intro i j hi hj
   have hget:(zn e l[i])[j]?=some ((zn e l[i])[j]'(by rw [zN]; exact hj)):=zJ _
   obtain ⟨x,h1,h2⟩:=hr i hi j _ hget
   exact ⟨x,h1,ie e l[i] j _ x hget h2,fun hi c hc=>by rw [hget] at hc; cases hc; exact h2⟩
  let vals:Nat→Nat→Value:=fun i j=>(w.cell? ⟨b,o+i * e.size+j,none⟩).getD undef
  refine ⟨_,cap,vals,rfl,hc,fun i hi j c hc=>?_,fun x hx=>?_,(fun h=>by cases h),fun ad had q x hq=>?_⟩
  ·have hj:j < e.size:=by have:=(bM.1 hc).1; rwa [zN] at this
   obtain ⟨x,h1,_,h3⟩:=hex i j hi hj
   simp only [vals,h1,bP]
   exact h3 hi c hc
  ·simp only [aI,fe,uh] at hx
   obtain ⟨q,hq,rfl⟩:=hx
   obtain ⟨x,h1,h2,_⟩:=hex (q / e.size) (q % e.size) ((Nat.div_lt_iff_lt_mul hpos).2 hq) (Nat.mod_lt _ hpos)
   simp only [vals,h1,bP]
   exact h2
  ·cases had
   simp only [aI,de,dI] at hq
   obtain ⟨q',hq',rfl⟩:=hq
   obtain ⟨hlt,hqq⟩:=nJ hq'
   subst hqq
   obtain ⟨x,h1,h2,_⟩:=hex (q' / e.size) (q' % e.size) ((Nat.div_lt_iff_lt_mul hpos).2 hlt) (Nat.mod_lt _ hpos)
   rw [Addr.add_none]
   have:o+q'=o+q' / e.size * e.size+q' % e.size:=by have:=Nat.div_add_mod q' e.size; rw [Nat.mul_comm] at this; omega
   rw [this]
   simp only [vals,h1,bP]

theorem Ef.newVec {n:Nat} {hp:Nat→AO} {wr:List (Nat×AO)} (hwr:∀ id o,(id,o)∈wr→o=.dead) {e:Sh} {l:List (Sem e)} {v:Value} {w':World} {U':Nat→Prop} (hn:ρ n=none) (hone:v.oneCell'=true) (hext:gu w w')
  (hsame:∀ b,b < w.heap.size→(∀ id o,(id,o)∈wr→¬ zO ρ id (hp id) b)→w'.heap[b]?=w.heap[b]?) (hub:∀ b,U' b→b < w'.heap.size) (hU:∀ b,b < w.heap.size→(U' b↔U b))
  (hobj:be w' U' (j4 ρ n v) n (.vec e l)) (hown:∀ b,c9 v=some b→w.heap.size≤b∨∃ id o,(id,o)∈wr∧zO ρ id (hp id) b):
  Ef n hp { val:=.vec n,wr:=wr,nw:=[.vec e l] } w U ρ v w' U' (j4 ρ n v):=by
 have hidx:∀ id o,(n≤id∧([AO.vec e l]:List AO)[id - n]?=some o)→id=n:=by
  rintro id o ⟨h1,h2⟩
  have:=(bM.1 h2).1
  simp at this
  omega
 refine ⟨hext,.vec n v (by simp [j4]) hone,?_,?_,?_,du hn,hsame,hub,fun b hb h=>(hU b hb).1 h,fun b hb h _=>(hU b hb).2 h,?_,?_⟩
 ·intro id o h
  rw [hwr id o h]; trivial
 ·intro j o hj
  cases j with
  | succ j=>simp at hj
  | zero=>simp at hj; subst hj; exact hobj
 ·intro id h
  unfold j4
  rw [if_neg (by simp at h; omega)]
 ·rintro id o b (h | h) ho
  ·rw [hwr id o h] at ho
   simp [zO,AO.owns] at ho
  ·have:=hidx id o h
   subst this
   obtain ⟨_,x,hx,hb⟩:=ho
   simp [j4] at hx; subst hx
   exact hown b hb
 ·rintro id1 o1 id2 o2 b (h | h) h' ho ho'
  ·rw [hwr id1 o1 h] at ho
   simp [zO,AO.owns] at ho
  ·rcases h' with h' | h'
   ·rw [hwr id2 o2 h'] at ho'
    simp [zO,AO.owns] at ho'
   ·rw [hidx id1 o1 h,hidx id2 o2 h']

theorem Ju {size n m:Nat} {f g:Nat→Nat→Value} {i j:Nat} (hj:j < size) (hi:i < n+m):
  (aI size n f++aI size m g)[i * size+j]?=some (if i < n then f i j else g (i - n) j):=by
 by_cases h:i < n
 ·rw [if_pos h,j6]
  ·exact gP h hj
  ·rw [aP]
   have:=cN size (pm h)
   rw [ee] at this
   omega
 ·rw [if_neg h]
  have hge:n * size≤i * size:=cN _ (by omega)
  rw [lc (by rw [aP]; omega),aP]
  rw [show i * size+j - n * size=(i - n) * size+j by rw [Nat.sub_mul]; omega]
  exact gP (by omega) hj

theorem Src.ofSlR {e:Sh} {l:List (Sem e)} {a:Option Addr} {cap:Nat} {vals:Nat→Nat→Value} {t:TypeId} {el:TypeId} (hu:P.underlying t=some (.slice el))
  (h1:∀ x∈aI e.size l.length vals,x.oneCell'=true) (hn:a=none→l=[]) (hc:∀ ad,a=some ad→∀ (q:Nat) x,(aI e.size l.length vals)[q]?=some x→w.cell? (ad.add q)=some x):
  Src P e.size t (.slice a l.length cap) l.length (aI e.size l.length vals) w:=by
 cases a with
 | none=>
  have:=hn rfl
  subst this
  simpa [aI] using Src.ofNil (P:=P) w (size:=e.size) hu cap
 | some ad=>exact Src.ofSlice w hu ad l.length cap _ aP (hc ad rfl) h1

theorem gn (z:Array Value) (n:Nat):(Builtin.zeroCells z n).size=n * z.size:=by simp [Builtin.zeroCells]

theorem y4 {n:Nat} {e:Sh} {l0 l':List (Sem e)} {elem:TypeId} {z:Value} {newCap:Nat} {f g:Nat→Nat→Value} (hn:ρ n=none)
  (hzc:z.cells.size=e.size) (hcap:l0.length+l'.length≤newCap) (hpos:0 < newCap) (hmax:l0.length+l'.length≤1073741824)
  (hf:∀ i (hi:i < l0.length) (j:Nat) (c:AV),(zn e l0[i])[j]?=some c→Rv w U ρ c (f i j)) (hg:∀ i (hi:i < l'.length) (j:Nat) (c:AV),(zn e l'[i])[j]?=some c→Rv w U ρ c (g i j)):
  be (w.drew.alloc (.cells ((aI e.size l0.length f++aI e.size l'.length g).toArray++Builtin.zeroCells z.cells (newCap - (l0.length+l'.length))) elem))
   (fun b=>U b∨b=w.heap.size) (j4 ρ n (.slice (some ⟨w.heap.size,0,none⟩) (l0.length+l'.length) newCap)) n (.vec e (l0++l')):=by
 generalize hobj:Obj.cells ((aI e.size l0.length f++aI e.size l'.length g).toArray++Builtin.zeroCells z.cells (newCap - (l0.length+l'.length))) elem=ob
 have hk:∀ b,b < w.heap.size→¬ U b→(w.drew.alloc ob).heap[b]?=w.heap[b]?:=fun b hb _=>aY w.drew _ b hb
 have hu:∀ b,b < w.heap.size→(U b∨b=w.heap.size)→U b:=fun b hb h=>h.elim id (fun e=>by omega)
 have hs:w.heap.size≤(w.drew.alloc ob).heap.size:=by rw [aH]; exact Nat.le_succ _
 have hnew:(w.drew.alloc ob).heap[w.heap.size]?=some ob:=dp w.drew ob
 refine ⟨_,newCap,by simp [j4],by simp; unfold zC; omega,.inr ⟨w.heap.size,elem,_,rfl,hpos,.inr rfl,by rw [hnew,← hobj],?_,by simpa using hcap,?_⟩⟩
 ·simp only [Array.size_append,List.size_toArray,pk,aP,gn,hzc]
  rw [← lS,← lS]
  congr 1
  omega
 ·intro i hi j c hc
  simp only [pk] at hi
  have hj:j < e.size:=by have:=(bM.1 hc).1; rwa [zN] at this
  refine ⟨if i < l0.length then f i j else g (i - l0.length) j,?_,?_⟩
  ·rw [Array.getElem?_append_left]
   ·simpa using Ju hj hi
   ·simp only [List.size_toArray,pk,aP]
    rw [← lS]
    have:=cN e.size (pm hi)
    rw [ee] at this
    omega
  ·by_cases hlt:i < l0.length
   ·rw [if_pos hlt]
    rw [List.getElem_append_left hlt] at hc
    exact (hf i hlt j c hc).mono hs hk hu (du hn)
   ·rw [if_neg hlt]
    rw [List.getElem_append_right (by omega)] at hc
    exact (hg _ _ j c hc).mono hs hk hu (du hn)

theorem gu.drew (w:World):gu w w.drew:=⟨bd _,rfl,rfl,rfl,fun _ _=>rfl⟩

theorem Db {E:bt} (hE:EnvOk E) {n:Nat} {hp:Nat→AO} {elem t t' el' ty:TypeId} {ab ax:AV} {vb vx:Value} {f:ew} {fp:List Nat}
  (h:(pI E hp n elem ab ax).val=some f) (hu:E.P.underlying t=some (.slice elem)) (hu':E.P.underlying t'=some (.slice el'))
  (hb:Rv w U ρ ab vb) (hx:Rv w U ρ ax vx) (hub:∀ b,U b→b < w.heap.size) (hfp:tR w U ρ hp fp) (hin1:∀ id∈ab.ids,id∈fp) (hin2:∀ id∈ax.ids,id∈fp) (hn:ρ n=none):
  ∃ v w' U' ρ',(Builtin.append_ #[t,t'] ty #[vb,vx]).run E.P w=.ok v w'∧Ef n hp f w U ρ v w' U' ρ'∧∀ id o,(id,o)∈f.wr→id∈fp:=by
 have none0:∀ (a:Option Addr) (i:TypeInfo),E.P.info? elem=some i→∀ x,(Builtin.lenOf x).run E.P w=.ok 0 w→(Builtin.firstCells i.size 0 x).run E.P w=.ok #[] w→
   (Builtin.append_ #[t,t'] ty #[.slice a 0 0,x]).run E.P w=.ok (.slice a 0 0) w:=by
  intro a i hi x hl hf
  cases a <;> simp [Builtin.append_,aW hu,aW hu',Go.sizeOf,typeInfo,hi,hl,hf,storeCells]
 unfold pI at h
 split at h
 ·
  rename_i e he
  obtain ⟨i,z,hinfo,hisz,hpos,hbytes,hz,hzc⟩:=hE.sh elem e he
  split at h
  ·rename_i l hl
   simp at h
   obtain ⟨hmax,rfl⟩:=h
   cases hb with
   | nils a=>
   obtain ⟨a',cap',g,rfl,hle,hg,hone,hnone,hcell⟩:=(yh hl hx (fun id hid=>hfp.ob id (hin2 id hid))).cells hpos
   have hsrc:=Src.ofSlR (P:=E.P) (w:=w) (e:=e) (cap:=cap') hu' hone hnone hcell
   rw [← hisz] at hsrc
   by_cases h0:l=[]
   ·subst h0
    refine ⟨.slice a 0 0,w,U,_,none0 a i hinfo _ (hsrc.len w) (by simpa [aI] using hsrc.cells),Ef.newVec (by simp) hn rfl (gu.refl w) (fun _ _ _=>rfl) hub (fun _ _=>Iff.rfl) ?_ ?_,by simp⟩
    ·exact ⟨a,0,by simp [j4],by simp,.inl ⟨rfl,rfl⟩⟩
    ·intro b hb; cases a <;> simp [c9] at hb
   ·have hlpos:0 < l.length:=List.length_pos_iff.2 h0
    have hold:(Builtin.firstCells i.size 0 (.slice a 0 0)).run E.P w.drew=.ok ([]:List Value).toArray w.drew:=by
     cases a <;> simp [Builtin.firstCells,loadCells,loadCellsFrom]
    have hrun:=run_append_grow_src (P:=E.P) w t t' ty elem i z hu hinfo hz a 0 0 [] hold (.slice a' l.length cap') l.length _ hsrc (by omega) (by omega)
     (growslice_fits (by omega) (by have:(0+l.length) * i.bytes≤1073741824 * 131072:=jN (by omega) hbytes; omega))
    have hge:=grownCap_ge w (0+l.length) 0 elem
    have hvec:=y4 (w:=w) (U:=U) (ρ:=ρ) (n:=n) (e:=e) (l0:=[]) (l':=l) (elem:=elem) (z:=z) (newCap:=grownCap w (0+l.length) 0 elem) (f:=fun _ _=>undef) (g:=g) hn
     (by rw [hzc,hisz]) (by simpa using hge) (by omega) (by simpa using hmax) (by simp) hg
    have e0:aI e.size ([]:List (Sem e)).length (fun _ _=>undef)=[]:=by simp [aI]
    rw [e0] at hvec
    simp only [List.length_nil] at hvec
    rw [hisz] at hrun
    refine ⟨_,_,_,_,hrun,Ef.newVec (by simp) hn rfl ((gu.drew w).trans (gu.alloc w.drew _ _)) (fun b hb _=>aY w.drew _ b hb) ?_ ?_ hvec ?_,by simp⟩
    ·intro b hb
     rw [aH]
     rcases hb with hb | hb
     ·have:=hub b hb; exact Nat.lt_succ_of_lt this
     ·rw [hb]; exact Nat.lt_succ_self _
    ·intro b hb
     exact ⟨fun h=>h.elim (fun x=>x) (fun e=>by omega),.inl⟩
    ·intro b hb
     simp [c9] at hb
     exact .inl (by omega)
  ·simp at h
 ·
  rename_i e id he
  obtain ⟨i,z,hinfo,hisz,hpos,hbytes,hz,hzc⟩:=hE.sh elem e he
  split at h
  ·rename_i e' l0 hid
   split at h
   ·rename_i hee
    subst hee
    split at h
    ·rename_i l' hl
     simp at h
     obtain ⟨hmax,rfl⟩:=h
     have hidfp:=hin1 id (by simp [AV.ids])
     cases hb with
     | vec _ _ hv hv1=>
     have hob:=hfp.ob id hidfp
     rw [hid] at hob
     obtain ⟨a',cap',g,rfl,hle,hg,hone,hnone,hcell⟩:=(yh hl hx (fun id hid=>hfp.ob id (hin2 id hid))).cells hpos
     have hsrc:=Src.ofSlR (P:=E.P) (w:=w) (e:=e') (cap:=cap') hu' hone hnone hcell
     obtain ⟨a0,cap0,f0,rfl,hle0,hf0,hone0,hnone0,hcell0⟩:=(qF hob hv).cells hpos
     have hwr:∀ id' o,(id',o)∈[(id,AO.dead)]→o=.dead:=by intro id' o h; simp at h; exact h.2
     have hfpw:∀ id' o,(id',o)∈[(id,AO.dead)]→id'∈fp:=by intro id' o h; simp at h; rw [h.1]; exact hidfp
     by_cases hroom:l0.length+l'.length≤cap0
     ·
      obtain ⟨a1,c1,hv1',hm1,h3⟩:=hob
      rw [hv] at hv1'; cases hv1'
      rcases h3 with ⟨rfl,rfl⟩ | ⟨b,T,arr,rfl,hc,hUb,hbb,hsz,hle1,hrr⟩
      ·have hl0:l'=[]:=by simpa using hroom
       subst hl0
       rw [← hisz] at hsrc
       refine ⟨.slice a0 0 0,w,U,_,none0 a0 i hinfo _ (hsrc.len w) (by simpa [aI] using hsrc.cells),Ef.newVec hwr hn rfl (gu.refl w) (fun _ _ _=>rfl) hub (fun _ _=>Iff.rfl) ?_ ?_,hfpw⟩
       ·exact ⟨a0,0,by simp [j4],by simp,.inl ⟨by simp,rfl⟩⟩
       ·intro b hb; cases a0 <;> simp [c9] at hb
      ·have hnl:=aP (size:=e'.size) (n:=l'.length) (vals:=g)
       have hmul:(l0.length+l'.length) * e'.size≤cap0 * e'.size:=cN _ hroom
       rw [lS] at hmul
       have hrun:=run_append_room_src (P:=E.P) w t t' ty elem i hu hinfo b 0 l0.length cap0 (.slice a' l'.length cap') l'.length _ (by rw [hisz]; exact hsrc) hroom
        (fun j hj=>by
         have:0+l0.length * i.size+j < arr.size:=by rw [hisz]; omega
         simp only [World.cell?,hbb,Option.isSome_none,zH,if_false,gZ this,fa])
        (fun j hj=>by simp [World.frozen?,hbb])
       rw [hisz,ez] at hrun
       have hown:zO ρ id (hp id) b:=⟨by rw [hid]; rfl,_,hv,by simp [c9]; omega⟩
       have hk:∀ b',b' < w.heap.size→¬ U b'→(w.setCells b (l0.length * e'.size) (aI e'.size l'.length g)).heap[b']?=w.heap[b']?:=fun b' _ hb'=>zV _ _ _ _ _ (fun e=>hb' (e▸hUb))
       have hs:w.heap.size≤(w.setCells b (l0.length * e'.size) (aI e'.size l'.length g)).heap.size:=by rw [aR]; exact bd _
       refine ⟨_,_,U,_,hrun,Ef.newVec hwr hn rfl (gu.setCells _ w b _) ?_ ?_ (fun _ _=>Iff.rfl) ?_ ?_,hfpw⟩
       ·intro b' _ hno
        exact zV _ _ _ _ _ (fun e=>hno id _ (by simp; rfl) (e▸hown))
       ·intro b' h'; rw [aR]; exact hub b' h'
       ·refine ⟨some ⟨b,0,none⟩,cap0,by simp [j4],by simp; unfold zC; omega,.inr ⟨b,T,_,rfl,hc,hUb,bN _ w b _ hbb,by simp [cd,hsz],by simpa using hroom,?_⟩⟩
        intro i' hi' j c hc'
        simp only [pk] at hi'
        have hj:j < e'.size:=by have:=(bM.1 hc').1; rwa [zN] at this
        have hq:i' * e'.size+j < (l0.length+l'.length) * e'.size:=by
         have:=cN e'.size (pm hi')
         rw [ee] at this
         omega
        rw [lS] at hq
        simp only [jG]
        rw [bW]
        by_cases hlt:i' < l0.length
        ·have hq2:i' * e'.size+j < l0.length * e'.size:=by
          have:=cN e'.size (pm hlt)
          rw [ee] at this
          omega
         rw [if_neg (by omega)]
         rw [List.getElem_append_left hlt] at hc'
         obtain ⟨x,h1,h2⟩:=hrr i' hlt j c hc'
         exact ⟨x,by simpa using h1,h2.mono hs hk (fun _ _ h=>h) (du hn)⟩
        ·have hge:l0.length * e'.size≤i' * e'.size:=cN _ (by omega)
         rw [if_pos (by simp only [hnl,Array.length_toList]; omega)]
         rw [List.getElem_append_right (by omega)] at hc'
         refine ⟨g (i' - l0.length) j,?_,(hg _ _ j c hc').mono hs hk (fun _ _ h=>h) (du hn)⟩
         rw [show i' * e'.size+j - l0.length * e'.size=(i' - l0.length) * e'.size+j by rw [Nat.sub_mul]; omega]
         exact gP (by omega) hj
       ·intro b' hb'
        simp [c9] at hb'
        exact .inr ⟨id,_,by simp; rfl,by rw [← hb'.2]; exact hown⟩
     ·
      have hold:(Builtin.firstCells i.size l0.length (.slice a0 l0.length cap0)).run E.P w.drew=.ok (aI e'.size l0.length f0).toArray w.drew:=by
       cases a0 with
       | none=>
        have:=hnone0 rfl
        subst this
        simp [Builtin.firstCells,aI]
       | some ad=>
        exact run_firstCells_some w.drew i.size l0.length ad l0.length cap0 _ (by rw [aP,hisz]) (fun q x hq=>by simpa using hcell0 ad rfl q x hq)
      have hrun:=run_append_grow_src (P:=E.P) w t t' ty elem i z hu hinfo hz a0 l0.length cap0 _ hold (.slice a' l'.length cap') l'.length _ (by rw [hisz]; exact hsrc) (by omega) (by omega)
       (growslice_fits (by omega) (by have:(l0.length+l'.length) * i.bytes≤1073741824 * 131072:=jN (by omega) hbytes; omega))
      have hge:=grownCap_ge w (l0.length+l'.length) cap0 elem
      have hvec:=y4 (w:=w) (U:=U) (ρ:=ρ) (n:=n) (e:=e') (l0:=l0) (l':=l') (elem:=elem) (z:=z) (newCap:=grownCap w (l0.length+l'.length) cap0 elem) (f:=f0) (g:=g) hn
       (by rw [hzc,hisz]) hge (by omega) hmax hf0 hg
      refine ⟨_,_,_,_,hrun,Ef.newVec hwr hn rfl ((gu.drew w).trans (gu.alloc w.drew _ _)) (fun b hb _=>aY w.drew _ b hb) ?_ ?_ hvec ?_,hfpw⟩
      ·intro b hb
       rw [aH]
       rcases hb with hb | hb
       ·have:=hub b hb; exact Nat.lt_succ_of_lt this
       ·rw [hb]; exact Nat.lt_succ_self _
      ·intro b hb
       exact ⟨fun h=>h.elim (fun x=>x) (fun e=>by omega),.inl⟩
      ·intro b hb
       simp [c9] at hb
       exact .inl (by omega)
    ·simp at h
   ·simp at h
  ·simp at h
 ·simp at h

end
end Cad
