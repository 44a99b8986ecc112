/- Regions: one operation behind the other. Regions whose order is drawn: where operations that get in one another's way are ordered, every order comes to the same. -/
import Derived.Test.YtiefilkilbdpgaaGreatDoorN03
import Derived.Orders
namespace Cad
open Go

structure cI where
 w0:World
 U0:Nat→Prop
 B0:Nat→Prop
 ρ0:Nat→Option Value

structure Wd (gl:Nat→AV) (C:cI) (w:World) (U:Nat→Prop):Prop where
 ext:gz C.w0 w
 same:∀ b,b < C.w0.heap.size→¬ C.B0 b→w.heap[b]?=C.w0.heap[b]?
 ub:∀ b,U b→b < w.heap.size
 u1:∀ b,b < C.w0.heap.size→U b→C.U0 b
 u2:∀ b,b < C.w0.heap.size→C.U0 b→¬ C.B0 b→U b
 gl:xS gl w U

structure hJ (C:cI) (w:World) (U:Nat→Prop) (ρ:Nat→Option Value) (hp:Nat→AO):Prop where
 ob:∀ id,bg w U ρ id (hp id)
 inj:∀ id1 id2 b,zP ρ id1 (hp id1) b→zP ρ id2 (hp id2) b→id1=id2
 blk:∀ id b,zP ρ id (hp id) b→C.B0 b∨C.w0.heap.size≤b

section
variable {gl:Nat→AV} {C:cI} {w:World} {U:Nat→Prop} {ρ:Nat→Option Value}

theorem pI {n:Nat} {hpl hp hp':Nat→AO} {f:eE} {v:Value} {w':World} {U':Nat→Prop} {ρ':Nat→Option Value} (hW:Wd gl C w U) (hH:hJ C w U ρ hp) (hef:Ef n hpl f w U ρ v w' U' ρ')
  (hloc:∀ id o,(id,o)∈f.wr→hpl id=hp id)
  (h1:∀ id,(∃ o,(id,o)∈f.wr)→∃ o,(id,o)∈f.wr∧hp' id=o) (h2:∀ (j:Nat) o,f.nw[j]?=some o→hp' (n+j)=o)
  (h3:∀ id,(¬ ∃ o,(id,o)∈f.wr)→(id < n∨n+f.nw.length≤id)→hp' id=hp id):
  Wd gl C w' U'∧hJ C w' U' ρ' hp'∧∀ {c:AV} {x:Value},Rv w U ρ c x→Rv w' U' ρ' c x:=by
 have hownU:∀ id o b,(id,o)∈f.wr→zP ρ id (hpl id) b→U b∧b < w.heap.size:=by
  intro id o b hid ho
  rw [hloc id o hid] at ho
  exact (hH.ob id).inU ho
 have hk:∀ b,b < w.heap.size→¬ U b→w'.heap[b]?=w.heap[b]?:=fun b hb hU=>hef.same b hb (fun id o hid ho=>hU (hownU id o b hid ho).1)
 have mono:∀ {c:AV} {x:Value},Rv w U ρ c x→Rv w' U' ρ' c x:=fun h=>h.mono hef.ext.sz hk hef.u1 hef.rhon
 have kind:∀ id,(∃ o,(id,o)∈f.wr∧hp' id=o)∨(n≤id∧∃ o,f.nw[id - n]?=some o∧hp' id=o)∨((¬ ∃ o,(id,o)∈f.wr)∧(id < n∨n+f.nw.length≤id)∧hp' id=hp id):=by
  intro id
  by_cases hw:∃ o,(id,o)∈f.wr
  ·exact .inl (h1 id hw)
  ·by_cases hn:n≤id∧id < n+f.nw.length
   ·refine .inr (.inl ⟨hn.1,f.nw[id - n]'(by omega),zJ (by omega),?_⟩)
    have:=h2 (id - n) _ (zJ (by omega))
    rwa [show n+(id - n)=id by omega] at this
   ·exact .inr (.inr ⟨hw,by omega,h3 id hw (by omega)⟩)
 have other:∀ id,(¬ ∃ o,(id,o)∈f.wr)→∀ b,zP ρ id (hp id) b→b < w.heap.size∧∀ id' o',(id',o')∈f.wr→¬ zP ρ id' (hpl id') b:=by
  intro id hw b ho
  refine ⟨((hH.ob id).inU ho).2,fun id' o' hid' ho'=>?_⟩
  rw [hloc id' o' hid'] at ho'
  have:=hH.inj id id' b ho ho'
  subst this
  exact hw ⟨o',hid'⟩
 have ownsBack:∀ id,(id < n∨n+f.nw.length≤id)→∀ o b,zP ρ' id o b→zP ρ id o b:=by
  rintro id hid o b ⟨h,v,hv,hb⟩
  rw [hef.rho id hid] at hv
  exact ⟨h,v,hv,hb⟩
 have ownKnown:∀ id b,((∃ o,(id,o)∈f.wr∧hp' id=o)∨(n≤id∧∃ o,f.nw[id - n]?=some o∧hp' id=o))→zP ρ' id (hp' id) b→
   w.heap.size≤b∨∃ id' o',(id',o')∈f.wr∧zP ρ id' (hp id') b:=by
  intro id b hid ho
  have hin:((id,hp' id)∈f.wr∨(n≤id∧f.nw[id - n]?=some (hp' id))):=by
   rcases hid with ⟨o,h,rfl⟩ | ⟨h,o,h',rfl⟩
   ·exact .inl h
   ·exact .inr ⟨h,h'⟩
  rcases hef.own id _ b hin ho with h | ⟨id',o',hid',ho'⟩
  ·exact .inl h
  ·exact .inr ⟨id',o',hid',by rw [← hloc id' o' hid']; exact ho'⟩
 refine ⟨⟨hW.ext.trans hef.ext,?_,hef.ub,?_,?_,?_⟩,⟨?_,?_,?_⟩,mono⟩
 ·intro b hb hB
  rw [hef.same b (mb hb hW.ext.sz) (fun id o hid ho=>?_)]
  ·exact hW.same b hb hB
  ·rw [hloc id o hid] at ho
   rcases hH.blk id b ho with h | h
   ·exact hB h
   ·omega
 ·intro b hb hU
  exact hW.u1 b hb (hef.u1 b (mb hb hW.ext.sz) hU)
 ·intro b hb hU hB
  refine hef.u2 b (mb hb hW.ext.sz) (hW.u2 b hb hU hB) (fun id o hid ho=>?_)
  rw [hloc id o hid] at ho
  rcases hH.blk id b ho with h | h
  ·exact hB h
  ·omega
 ·intro g
  exact (hW.gl g).mono hef.ext.sz hk hef.u1 (fun _ _ h=>by cases h)
 ·intro id
  rcases kind id with ⟨o,h,e⟩ | ⟨h,o,h',e⟩ | ⟨hw,hid,e⟩
  ·rw [e]; exact hef.wr id o h
  ·rw [e]
   have:=hef.nw (id - n) o h'
   rwa [show n+(id - n)=id by omega] at this
  ·rw [e]
   refine (hH.ob id).mono hef.ext.sz hk hef.u1 hef.rhon (fun b ho=>?_)
   obtain ⟨hb,hno⟩:=other id hw b ho
   exact ⟨hef.same b hb hno,hef.u2 b hb ((hH.ob id).inU ho).1 hno⟩
 ·intro id1 id2 b ho1 ho2
  have k1:=kind id1
  have k2:=kind id2
  have cross:∀ id1 id2,((∃ o,(id1,o)∈f.wr∧hp' id1=o)∨(n≤id1∧∃ o,f.nw[id1 - n]?=some o∧hp' id1=o))→
    ((¬ ∃ o,(id2,o)∈f.wr)∧(id2 < n∨n+f.nw.length≤id2)∧hp' id2=hp id2)→zP ρ' id1 (hp' id1) b→zP ρ' id2 (hp' id2) b→False:=by
   intro id1 id2 k1 ⟨hw,hid,e⟩ ho1 ho2
   rw [e] at ho2
   have ho2':=ownsBack id2 hid _ b ho2
   obtain ⟨hb,hno⟩:=other id2 hw b ho2'
   rcases ownKnown id1 b k1 ho1 with h | ⟨id',o',hid',ho'⟩
   ·omega
   ·exact hno id' o' hid' (by rw [hloc id' o' hid']; exact ho')
  rcases k1 with k1 | k1 | k1 <;> rcases k2 with k2 | k2 | k2
  ·obtain ⟨o1,h1',e1⟩:=k1; obtain ⟨o2,h2',e2⟩:=k2
   rw [e1] at ho1; rw [e2] at ho2
   exact hef.inj id1 o1 id2 o2 b (.inl h1') (.inl h2') ho1 ho2
  ·obtain ⟨o1,h1',e1⟩:=k1; obtain ⟨hn2,o2,h2',e2⟩:=k2
   rw [e1] at ho1; rw [e2] at ho2
   exact hef.inj id1 o1 id2 o2 b (.inl h1') (.inr ⟨hn2,h2'⟩) ho1 ho2
  ·exact (cross id1 id2 (.inl k1) k2 ho1 ho2).elim
  ·obtain ⟨hn1,o1,h1',e1⟩:=k1; obtain ⟨o2,h2',e2⟩:=k2
   rw [e1] at ho1; rw [e2] at ho2
   exact hef.inj id1 o1 id2 o2 b (.inr ⟨hn1,h1'⟩) (.inl h2') ho1 ho2
  ·obtain ⟨hn1,o1,h1',e1⟩:=k1; obtain ⟨hn2,o2,h2',e2⟩:=k2
   rw [e1] at ho1; rw [e2] at ho2
   exact hef.inj id1 o1 id2 o2 b (.inr ⟨hn1,h1'⟩) (.inr ⟨hn2,h2'⟩) ho1 ho2
  ·exact (cross id1 id2 (.inr k1) k2 ho1 ho2).elim
  ·exact (cross id2 id1 (.inl k2) k1 ho2 ho1).elim
  ·exact (cross id2 id1 (.inr k2) k1 ho2 ho1).elim
  ·obtain ⟨_,hid1,e1⟩:=k1; obtain ⟨_,hid2,e2⟩:=k2
   rw [e1] at ho1; rw [e2] at ho2
   exact hH.inj id1 id2 b (ownsBack id1 hid1 _ b ho1) (ownsBack id2 hid2 _ b ho2)
 ·intro id b ho
  rcases kind id with k | k | ⟨_,hid,e⟩
  ·rcases ownKnown id b (.inl k) ho with h | ⟨id',o',hid',ho'⟩
   ·exact .inr (cy hW.ext.sz h)
   ·exact hH.blk id' b ho'
  ·rcases ownKnown id b (.inr k) ho with h | ⟨id',o',hid',ho'⟩
   ·exact .inr (cy hW.ext.sz h)
   ·exact hH.blk id' b ho'
  ·rw [e] at ho
   exact hH.blk id b (ownsBack id hid _ b ho)

structure xR (C:cI) (st:RS) (a:Act) (w:World) (U:Nat→Prop) (ρ:Nat→Option Value):Prop where
 tm:cK w U ρ st.tmps a.tmps.toList
 hp:hJ C w U ρ st.hp
 new:∀ id,st.heap.length≤id→ρ id=none
 kn:∀ d b,st.known.lookup d=some b→a.tmps[d]?=some (.bool b)
 df:a.defers=[]
 r0:∀ id v,C.ρ0 id=some v→ρ id=some v

theorem BP {E:bx} {tmps:List AV} {known:List (Nat×Bool)} {a:Act} (htm:cK w U ρ tmps a.tmps.toList) (hkn:∀ d b,known.lookup d=some b→a.tmps[d]?=some (.bool b)) (hgl:xS E.gl w U) (x:Operand):
  Rv w U ρ (qY E tmps known x) (a.eval x):=by
 cases x with
 | tmp t=>
  simp only [qY,Act.eval]
  cases hk:known.lookup t with
  | some b=>
   have:=hkn t b hk
   simp only [ka,this,bM]
   exact .kb b
  | none=>
   by_cases ht:t < tmps.length
   ·have ht':t < a.tmps.toList.length:=by rw [← htm.len]; exact ht
    have h1:a.tmps.getD t undef=a.tmps.toList[t]:=by
     simp only [Array.length_toList] at ht'
     simp [Array.getD,ht']
    rw [h1]
    exact htm.rv t _ _ (by rw [aH,zJ ht]; rfl) (zJ ht')
   ·rw [aH,dg (Nat.le_of_not_lt ht)]
    exact .any _
 | const v=>exact lv v
 | global g=>exact (hgl g).mono (aY _) (fun _ _ _=>rfl) (fun _ _ h=>h) (fun _ _ h=>by cases h)
 | func f=>simp only [qY,Act.eval]; exact .clo (.func f) [] [] [] [] rfl rfl (by simp) (by simp)

theorem bm:∀ (wr:List (Nat×AO)) (h:List AO),(lr h wr).length=h.length
 | [],_=>rfl
 | (i,o)::r,h=>by simp [lr,bm r]

theorem ou:∀ (wr:List (Nat×AO)) (h:List AO) (id:Nat),(¬ ∃ o,(id,o)∈wr)→(lr h wr).getD id .dead=h.getD id .dead
 | [],_,_,_=>rfl
 | (i,o)::r,h,id,hn=>by
  rw [lr,ou r _ id (fun ⟨o',ho'⟩=>hn ⟨o',by simp [ho']⟩)]
  have:i≠id:=fun e=>hn ⟨o,by simp [e]⟩
  simp [pD this]

theorem ov:∀ (wr:List (Nat×AO)) (h:List AO) (id:Nat),(∀ p∈wr,p.1 < h.length)→(∃ o,(id,o)∈wr)→∃ o,(id,o)∈wr∧(lr h wr).getD id .dead=o
 | [],_,_,_,⟨_,h⟩=>by simp at h
 | (i,o)::r,h,id,hl,hex=>by
  by_cases hr:∃ o,(id,o)∈r
  ·obtain ⟨o',h1,h2⟩:=ov r (h.set i o) id (fun p hp=>by rw [jR]; exact hl p (by simp [hp])) hr
   exact ⟨o',by simp [h1],h2⟩
  ·obtain ⟨o',ho'⟩:=hex
   simp only [c9,bv] at ho'
   rcases ho' with ⟨rfl,rfl⟩ | ho'
   ·refine ⟨o',by simp,?_⟩
    rw [lr,ou r _ _ hr]
    have:id < h.length:=hl (id,o') (by simp)
    simp [ma this]
   ·exact (hr ⟨o',ho'⟩).elim

theorem tQ {tmps:List AV} {a:Act} {d:Option Tmp} {c:AV} {v:Value} (h:cK w U ρ tmps a.tmps.toList) (hv:Rv w U ρ c v):cK w U ρ (na tmps d c) (a.put d v).tmps.toList:=by
 cases d with
 | none=>exact h
 | some d=>
  simp only [na,Act.put]
  refine ⟨by simp [h.len],fun j c' v' hc hv'=>?_⟩
  simp only [Array.toList_setIfInBounds] at hv'
  by_cases hj:d=j
  ·subst hj
   rw [jP] at hc hv'
   simp only [if_true] at hc hv'
   split at hc
   ·rename_i hlt
    rw [if_pos (by rw [← h.len]; exact hlt)] at hv'
    cases hc; cases hv'; exact hv
   ·cases hc
  ·rw [pD hj] at hc hv'
   exact h.rv j c' v' hc hv'

theorem Au {known:List (Nat×Bool)} {a:Act} {d:Option Tmp} {v:Value} (h:∀ d b,known.lookup d=some b→a.tmps[d]?=some (.bool b)):
  ∀ d' b,(ph known d).lookup d'=some b→(a.put d v).tmps[d']?=some (.bool b):=by
 intro d' b hl
 cases d with
 | none=>exact h d' b hl
 | some d=>
  simp only [ph] at hl
  have key:∀ (k:List (Nat×Bool)),(k.filter fun p=>p.1 != d).lookup d'=some b→d'≠d∧k.lookup d'=some b:=by
   intro k
   induction k with
   | nil=>simp
   | cons p k ih=>
    intro hk
    rw [List.filter_cons] at hk
    split at hk
    ·rename_i hp
     rw [yH] at hk ⊢
     split at hk
     ·rename_i he
      cases hk
      simp at hp he
      exact ⟨by rw [he]; exact hp,by simp⟩
     ·rename_i he
      obtain ⟨h1,h2⟩:=ih hk
      exact ⟨h1,h2⟩
    ·rename_i hp
     obtain ⟨h1,h2⟩:=ih hk
     refine ⟨h1,?_⟩
     rw [yH]
     have:(d'==p.1)=false:=by
      simp at hp
      simp [hp,h1]
     rw [this]; exact h2
  obtain ⟨hne,hk⟩:=key known hl
  simp only [Act.put]
  rw [Array.getElem?_setIfInBounds_ne (fun e=>hne e.symm)]
  exact h d' b hk

theorem wl {hp:Nat→AO} {ev:Operand→AV} {o:Oper} (h:DY hp ev o=true):
  (ft o.op=true→∀ x∈o.op.operands.toList,∀ id∈(ev x).ids,id∈qa hp ev o)∧(o5 o.op=true→∀ id∈qa hp ev o,∀ j∈(hp id).ids,j∈qa hp ev o):=by
 unfold DY at h
 constructor
 ·intro hm x hx id hid
  simp only [hm,fk,Bool.false_or,aM,cY,uA] at h
  exact h.1 id (fq (List.mem_map_of_mem hx) hid)
 ·intro hm id hid j hj
  have hm2:ft o.op=true:=by
   cases ho:o.op <;> rw [ho] at hm <;> simp_all [o5,ft]
  simp only [hm,hm2,fk,Bool.false_or,aM,cY,uA] at h
  exact h.2 id hid j hj

theorem tN {E:bx} (hE:zl E) {st st':RS} {o:Oper} {a:Act} (h:(ye E o st).val=some st') (hc:xR C st a w U ρ) (hW:Wd E.gl C w U)
  (K:Act→World→Prop) (Q:Exit→Act→World→Prop) (hK:∀ a' w' U' ρ',xR C st' a' w' U' ρ'→Wd E.gl C w' U'→K a' w'):o.wp E.P a w K Q:=by
 unfold ye at h
 split at h
 ·rename_i hfp
  simp only [Tr.val_bind,fa] at h
  obtain ⟨f,hf,h⟩:=h
  split at h
  ·rename_i hwl
   simp at h; subst h
   obtain ⟨hin,hcl⟩:=wl hfp
   have hn:∀ j,j < f.nw.length→ρ (st.heap.length+j)=none:=fun j _=>hc.new _ (by omega)
   obtain ⟨hwp,hwr⟩:=Ap hE (w:=w) (U:=U) (ρ:=ρ) (a:=a) (fp:=qa st.hp (qY E st.tmps st.known) o) hf (fun x _=>BP hc.tm hc.kn hW.gl x) hW.ub hW.gl
    ⟨fun id _=>hc.hp.ob id,fun id1 _ id2 _ b=>hc.hp.inj id1 id2 b⟩ hin hcl hn
   refine hwp K Q (fun v w' U' ρ' hef=>?_)
   simp only [cY,aM,zZ] at hwl
   replace hwl:∀ p∈f.wr,p.1 < st.heap.length:=fun p hp=>(hwl p hp).1
   have hset:=ov f.wr st.heap
   obtain ⟨hW',hH',mono⟩:=pI (hp':=fun id=>(lr st.heap f.wr++f.nw).getD id .dead) hW hc.hp hef (fun _ _ _=>rfl)
    (fun id hex=>by
     obtain ⟨o',h1,h2⟩:=ov f.wr st.heap id hwl hex
     refine ⟨o',h1,?_⟩
     have:id < st.heap.length:=hwl _ h1
     rw [aH,kd (by rw [bm]; exact this),← aH]
     exact h2)
    (fun j o' hj=>by
     rw [aH,lw (by rw [bm]; omega),bm,show st.heap.length+j - st.heap.length=j by omega,hj]
     rfl)
    (fun id hno hid=>by
     rcases hid with hid | hid
     ·rw [aH,kd (by rw [bm]; exact hid),← aH]
      exact ou f.wr st.heap id hno
     ·simp only [RS.hp]
      rw [aH,aH,dg (by simp [bm]; omega),dg (by omega)])
   refine hK _ _ U' ρ' ⟨tQ ⟨hc.tm.len,fun j c x hx hv=>mono (hc.tm.rv j c x hx hv)⟩ hef.val,hH',?_,Au hc.kn,?_,fun id v h=>hef.rhon id v (hc.r0 id v h)⟩ hW'
   ·intro id hid
    simp only [pE,bm] at hid
    rw [hef.rho id (.inr hid)]
    exact hc.new id (by omega)
   ·cases hd:o.dst <;> simp [Act.put,hc.df]
  ·simp at h
 ·simp at h

theorem ld {st:RS} {o:Oper} {a:Act} (hc:xR C st a w U ρ):xR C (kl o st) (a.put o.dst undef) w U ρ:=by
 refine ⟨tQ hc.tm (.tup [] [] rfl (by simp)),hc.hp,hc.new,Au hc.kn,?_,hc.r0⟩
 cases hd:o.dst <;> simp [Act.put,hc.df]

theorem Mf {E:bx} {ops:List Oper} {st:RS} {a:Act} (hc:xR C st a w U ρ) (hgl:xS E.gl w U) {j:Nat} {d:Nat} (hd:(ops[j]?).bind (·.dst)=some d):
  (∀ b,qY E st.tmps st.known (.tmp d)=.kb b→yielded ops.toArray a.tmps j=some b∧a.tmps[d]?=some (.bool b))∧
  (∀ b,qY E st.tmps st.known (.tmp d)=.bool b→yielded ops.toArray a.tmps j=some b∧a.tmps[d]?=some (.bool b))∧
  (∀ vs,qY E st.tmps st.known (.tmp d)=.tup vs→yielded ops.toArray a.tmps j=none):=by
 have hev:=BP (E:=E) hc.tm hc.kn hgl (.tmp d)
 have hd':(ops.toArray[j]?).bind (·.dst)=some d:=by simpa using hd
 have hbool:∀ b,a.eval (.tmp d)=.bool b→yielded ops.toArray a.tmps j=some b∧a.tmps[d]?=some (.bool b):=by
  intro b hb
  simp only [Act.eval,ka] at hb
  have:a.tmps[d]?=some (.bool b):=by
   cases ht:a.tmps[d]? with
   | none=>rw [ht] at hb; simp [undef] at hb
   | some v=>rw [ht] at hb; simp at hb; rw [hb]
  exact ⟨by unfold yielded; rw [hd']; simp [this],this⟩
 refine ⟨fun b hb=>?_,fun b hb=>?_,fun vs hvs=>?_⟩
 ·rw [hb] at hev
  generalize hx:a.eval (.tmp d)=x at hev
  cases hev
  exact hbool b hx
 ·rw [hb] at hev
  generalize hx:a.eval (.tmp d)=x at hev
  cases hev
  exact hbool b hx
 ·rw [hvs] at hev
  generalize hx:a.eval (.tmp d)=x at hev
  cases hev with
  | tup _ xs _ _=>
  simp only [Act.eval,ka] at hx
  cases ht:a.tmps[d]? with
  | none=>unfold yielded; rw [hd']; simp [ht]
  | some v=>rw [ht] at hx; simp at hx; subst hx; unfold yielded; rw [hd']; simp [ht]

theorem lK {st:RS} {a:Act} {d:Nat} {b:Bool} (hc:xR C st a w U ρ) (hb:a.tmps[d]?=some (.bool b)):xR C { st with known:=(d,b)::st.known } a w U ρ:=by
 refine ⟨hc.tm,hc.hp,hc.new,fun d' b' h=>?_,hc.df,hc.r0⟩
 rw [yH] at h
 split at h
 ·rename_i he
  cases h
  simp at he; rw [he]; exact hb
 ·exact hc.kn d' b' h

theorem Ki {E:bx} (hE:zl E) {ops:List Oper} {st st':RS} {o:Oper} {a:Act} (h:(py E ops st o).val=some st') (hc:xR C st a w U ρ) (hW:Wd E.gl C w U)
  (K:Act→World→Prop) (Q:Exit→Act→World→Prop) (hK:∀ a' w' U' ρ',xR C st' a' w' U' ρ'→Wd E.gl C w' U'→K a' w'):
  if Region.wanted o (yielded ops.toArray a.tmps) then o.wp E.P a w K Q∨(o.asks E.P a w∧LetsOut Q) else K (a.put o.dst undef) w:=by
 unfold py at h
 split at h
 ·rename_i hg
  simp only [Region.wanted,hg,if_true]
  exact .inl (tN hE h hc hW K Q hK)
 ·rename_i j want hg
  split at h
  ·rename_i hd
   simp at h; subst h
   have hy:yielded ops.toArray a.tmps j=none:=by
    have hd':(ops.toArray[j]?).bind (·.dst)=none:=by simpa using hd
    unfold yielded; rw [hd']; rfl
   simp only [Region.wanted,hg,hy]
   rw [if_neg (by simp)]
   exact hK _ _ U ρ (ld hc) hW
  ·rename_i d hd
   obtain ⟨hkb,hbb,htt⟩:=Mf (E:=E) hc hW.gl hd
   split at h
   ·rename_i b hb
    obtain ⟨hy,_⟩:=hkb b hb
    simp only [Region.wanted,hg,hy]
    split at h
    ·rename_i hbw
     simp at hbw; subst hbw
     rw [if_pos (by simp)]
     exact .inl (tN hE h hc hW K Q hK)
    ·rename_i hbw
     simp at h; subst h
     rw [if_neg (by simpa using hbw)]
     exact hK _ _ U ρ (ld hc) hW
   ·rename_i vs hvs
    simp at h; subst h
    simp only [Region.wanted,hg,htt vs hvs]
    rw [if_neg (by simp)]
    exact hK _ _ U ρ (ld hc) hW
   ·rename_i b hb
    obtain ⟨hy,hslot⟩:=hbb b hb
    simp only [Region.wanted,hg,hy]
    cases b
    ·simp only [Tr.val,zH,if_false] at h
     cases want
     ·simp only [zH,if_false] at h
      rw [if_pos (by simp)]
      exact .inl (tN hE h (lK hc hslot) hW K Q hK)
     ·simp at h; subst h
      rw [if_neg (by simp)]
      exact hK _ _ U ρ (ld (lK hc hslot)) hW
    ·simp only [Tr.val,if_true] at h
     cases want
     ·simp at h; subst h
      rw [if_neg (by simp)]
      exact hK _ _ U ρ (ld (lK hc hslot)) hW
     ·simp only [if_true] at h
      rw [if_pos (by simp)]
      exact .inl (tN hE h (lK hc hslot) hW K Q hK)
   ·simp at h

theorem we {E:bx} (hE:zl E) {ops:List Oper} {Q:Exit→Act→World→Prop} {st':RS} (hQ:∀ a' w' U' ρ',xR C st' a' w' U' ρ'→Wd E.gl C w' U'→Q .normal a' w'):
  ∀ (r:List Oper) (k:Nat) (st:RS) (a:Act) (w:World) (U:Nat→Prop) (ρ:Nat→Option Value),r=ops.drop k→(bU E ops r st).val=some st'→xR C st a w U ρ→Wd E.gl C w U→
   wpOps E.P ops.toArray Q (List.range' k r.length) a w
 | [],k,st,a,w,U,ρ,_,h,hc,hW=>by
  simp [bU] at h; subst h
  exact hQ a w U ρ hc hW
 | o::r,k,st,a,w,U,ρ,hr,h,hc,hW=>by
  simp only [bU,Tr.val_bind,fa] at h
  obtain ⟨st1,h1,h2⟩:=h
  have hget:ops.toArray[k]?=some o:=by
   have:ops[k]?=some o:=by
    have:=congrArg (·[0]?) hr
    simpa [jO] using this.symm
   simpa using this
  have hdrop:r=ops.drop (k+1):=by
   have:=congrArg List.tail hr
   simpa using this
  simp only [mc,List.range'_succ,wpOps,hget]
  exact Ki hE h1 hc hW _ _ (fun a' w' U' ρ' hc' hW'=>we hE hQ r (k+1) st1 a' w' U' ρ' hdrop h2 hc' hW')

end

structure tE (E:bx) (ops:List Oper) (o:Oper) (s s':RS) (r:yA):Prop where
 /-- what is known of slots is so -/
 tm:∃ v,s'.tmps=na s.tmps o.dst v
 len:s.heap.length≤s'.heap.length
 way:(∃ (kn:List (Nat×Bool)) (f:eE),(∀ d b,kn.lookup d=some b→s.tmps.getD d .any=.bool b∨s.tmps.getD d .any=.kb b)∧
   (∀ j want,o.guard=some (j,want)→∃ d,(ops[j]?).bind (·.dst)=some d∧(s.tmps.getD d .any=.bool want∨s.tmps.getD d .any=.kb want))∧
   (mP E (qY E s.tmps kn) s.hp s.heap.length o).val=some f∧DY s.hp (qY E s.tmps kn) o=true∧s'.tmps=na s.tmps o.dst f.val∧s'.heap=lr s.heap f.wr++f.nw∧
   (∀ p∈f.wr,p.1 < s.heap.length∧p.1∈qa s.hp (qY E s.tmps kn) o)∧r={ fp:=qa s.hp (qY E s.tmps kn) o,wr:=f.wr.map (·.1),base:=s.heap.length,nw:=f.nw.length })∨
  ((∃ j want,o.guard=some (j,want)∧((ops[j]?).bind (·.dst)=none∨∃ d,(ops[j]?).bind (·.dst)=some d∧(s.tmps.getD d .any=.bool (!want)∨s.tmps.getD d .any=.kb (!want)∨∃ vs,s.tmps.getD d .any=.tup vs)))∧
   s'.tmps=na s.tmps o.dst (.tup [])∧s'.heap=s.heap∧r={})

def OX (s:RS):Prop:=∀ d b,s.known.lookup d=some b→s.tmps.getD d .any=.bool b∨s.tmps.getD d .any=.kb b

theorem mT {known:List (Nat×Bool)} {d:Option Tmp} {d':Nat} {b:Bool} (h:(ph known d).lookup d'=some b):known.lookup d'=some b∧d≠some d':=by
 cases d with
 | none=>exact ⟨h,by simp⟩
 | some d=>
  simp only [ph] at h
  have key:∀ (k:List (Nat×Bool)),(k.filter fun p=>p.1 != d).lookup d'=some b→d'≠d∧k.lookup d'=some b:=by
   intro k
   induction k with
   | nil=>simp
   | cons p k ih=>
    intro hk
    rw [List.filter_cons] at hk
    split at hk
    ·rename_i hp
     rw [yH] at hk ⊢
     split at hk
     ·rename_i he
      cases hk
      simp at hp he
      exact ⟨by rw [he]; exact hp,by simp⟩
     ·rename_i he
      obtain ⟨h1,h2⟩:=ih hk
      exact ⟨h1,h2⟩
    ·rename_i hp
     obtain ⟨h1,h2⟩:=ih hk
     refine ⟨h1,?_⟩
     rw [yH]
     have:(d'==p.1)=false:=by
      simp at hp
      simp [hp,h1]
     rw [this]; exact h2
  obtain ⟨h1,h2⟩:=key known h
  exact ⟨h2,by simp; exact fun e=>h1 e.symm⟩

theorem nU {tmps:List AV} {d:Option Tmp} {v:AV} {s:Nat} (h:d≠some s):(na tmps d v).getD s .any=tmps.getD s .any:=by
 cases d with
 | none=>rfl
 | some d=>
  simp only [na,aH]
  rw [pD (by simpa using h)]

theorem OX.step {s:RS} {o:Oper} {tm:List AV} {v:AV} (h:OX s) (htm:tm=na s.tmps o.dst v):∀ d b,(ph s.known o.dst).lookup d=some b→tm.getD d .any=.bool b∨tm.getD d .any=.kb b:=by
 intro d b hl
 obtain ⟨h1,h2⟩:=mT hl
 rw [htm,nU h2]
 exact h d b h1

theorem qb {E:bx} {ops:List Oper} {o:Oper} {s s':RS} (kn:List (Nat×Bool)) (h:(ye E o { s with known:=kn }).val=some s') (hk:∀ d b,kn.lookup d=some b→s.tmps.getD d .any=.bool b∨s.tmps.getD d .any=.kb b)
  (hg:∀ j want,o.guard=some (j,want)→∃ d,(ops[j]?).bind (·.dst)=some d∧(s.tmps.getD d .any=.bool want∨s.tmps.getD d .any=.kb want)):∃ r,tE E ops o s s' r∧s'.log=s.log++[r]∧OX s':=by
 unfold ye at h
 split at h
 ·rename_i hfp
  simp only [Tr.val_bind,fa] at h
  obtain ⟨f,hf,h⟩:=h
  split at h
  ·rename_i hwl
   simp at h; subst h
   refine ⟨_,⟨⟨f.val,rfl⟩,by simp [bm],.inl ⟨kn,f,hk,hg,hf,hfp,rfl,rfl,?_,rfl⟩⟩,rfl,?_⟩
   ·intro p hp
    simp only [cY,aM,zZ,uA] at hwl
    exact hwl p hp
   ·intro d b hl
    obtain ⟨h1,h2⟩:=mT hl
    show (na s.tmps o.dst f.val).getD d .any=.bool b∨(na s.tmps o.dst f.val).getD d .any=.kb b
    rw [nU h2]
    exact hk d b h1
  ·simp at h
 ·simp at h

theorem jI {E:bx} {ops:List Oper} {o:Oper} {s:RS} (kn:List (Nat×Bool)) (hk:∀ d b,kn.lookup d=some b→s.tmps.getD d .any=.bool b∨s.tmps.getD d .any=.kb b)
  (hg:∃ j want,o.guard=some (j,want)∧((ops[j]?).bind (·.dst)=none∨∃ d,(ops[j]?).bind (·.dst)=some d∧(s.tmps.getD d .any=.bool (!want)∨s.tmps.getD d .any=.kb (!want)∨∃ vs,s.tmps.getD d .any=.tup vs))):
  ∃ r,tE E ops o s (kl o { s with known:=kn }) r∧(kl o { s with known:=kn }).log=s.log++[r]∧OX (kl o { s with known:=kn }):=by
 refine ⟨{},⟨⟨_,rfl⟩,aY _,.inr ⟨hg,rfl,rfl,rfl⟩⟩,rfl,?_⟩
 intro d b hl
 obtain ⟨h1,h2⟩:=mT hl
 show (na s.tmps o.dst (.tup [])).getD d .any=.bool b∨(na s.tmps o.dst (.tup [])).getD d .any=.kb b
 rw [nU h2]
 exact hk d b h1

theorem xB {E:bx} {ops:List Oper} {o:Oper} {s s':RS} (h:(py E ops s o).val=some s') (hk:OX s):∃ r,tE E ops o s s' r∧s'.log=s.log++[r]∧OX s':=by
 have slot:∀ d x,qY E s.tmps s.known (.tmp d)=x→(∀ b,x=.bool b→s.tmps.getD d .any=.bool b)∧(∀ b,x=.kb b→s.tmps.getD d .any=.bool b∨s.tmps.getD d .any=.kb b)∧(∀ vs,x=.tup vs→s.tmps.getD d .any=.tup vs):=by
  intro d x hx
  simp only [qY] at hx
  cases hl:s.known.lookup d with
  | some b=>
   rw [hl] at hx
   subst hx
   exact ⟨by simp,fun b' hb=>by cases hb; exact hk d _ hl,by simp⟩
  | none=>
   rw [hl] at hx
   subst hx
   exact ⟨fun _ h=>h,fun _ h=>.inr h,fun _ h=>h⟩
 unfold py at h
 split at h
 ·rename_i hg
  exact qb s.known h hk (fun j want hh=>by rw [hg] at hh; cases hh)
 ·rename_i j want hg
  split at h
  ·rename_i hd
   simp at h; subst h
   exact jI s.known hk ⟨j,want,hg,.inl hd⟩
  ·rename_i d hd
   split at h
   ·rename_i b hb
    have hs:=(slot d _ hb).2.1 b rfl
    split at h
    ·rename_i hbw
     simp at hbw; subst hbw
     exact qb s.known h hk (fun j' want' hh=>by rw [hg] at hh; cases hh; exact ⟨d,hd,hs⟩)
    ·rename_i hbw
     simp at h; subst h
     have:b = !want:=by revert hbw; cases b <;> cases want <;> simp
     subst this
     exact jI s.known hk ⟨j,want,hg,.inr ⟨d,hd,hs.elim .inl (fun h=>.inr (.inl h))⟩⟩
   ·rename_i vs hvs
    simp at h; subst h
    exact jI s.known hk ⟨j,want,hg,.inr ⟨d,hd,.inr (.inr ⟨vs,(slot d _ hvs).2.2 vs rfl⟩)⟩⟩
   ·rename_i b hb
    have hs:=(slot d _ hb).1 b rfl
    have hk':∀ x,x=b→∀ d' b',((d,x)::s.known).lookup d'=some b'→s.tmps.getD d' .any=.bool b'∨s.tmps.getD d' .any=.kb b':=by
     intro x hx d' b' hl
     rw [yH] at hl
     split at hl
     ·rename_i he
      cases hl
      simp at he; rw [he,hx]; exact .inl hs
     ·exact hk d' b' hl
    cases b
    ·simp only [Tr.val,zH,if_false] at h
     cases want
     ·simp only [zH,if_false] at h
      exact qb _ h (hk' false rfl) (fun j' want' hh=>by rw [hg] at hh; cases hh; exact ⟨d,hd,.inl hs⟩)
     ·simp at h; subst h
      exact jI _ (hk' false rfl) ⟨j,true,hg,.inr ⟨d,hd,.inl hs⟩⟩
    ·simp only [Tr.val,if_true] at h
     cases want
     ·simp at h; subst h
      exact jI _ (hk' true rfl) ⟨j,false,hg,.inr ⟨d,hd,.inl hs⟩⟩
     ·simp only [if_true] at h
      exact qb _ h (hk' true rfl) (fun j' want' hh=>by rw [hg] at hh; cases hh; exact ⟨d,hd,.inl hs⟩)
   ·simp at h

theorem oL {E:bx} {ops:List Oper}:∀ (r:List Oper) (s sN:RS),(bU E ops r s).val=some sN→OX s→∃ (S:Nat→RS) (R:Nat→yA),S 0=s∧S r.length=sN∧
  (∀ i o,r[i]?=some o→tE E ops o (S i) (S (i+1)) (R i))∧sN.log=s.log++(List.range r.length).map R∧OX sN
 | [],s,sN,h,hk=>by
  simp [bU] at h; subst h
  exact ⟨fun _=>s,fun _=>{},rfl,rfl,by simp,by simp,hk⟩
 | o::r,s,sN,h,hk=>by
  simp only [bU,Tr.val_bind,fa] at h
  obtain ⟨s1,h1,h2⟩:=h
  obtain ⟨r0,hd,hlog,hk1⟩:=xB h1 hk
  obtain ⟨S,R,e0,eN,hS,hL,hkN⟩:=oL r s1 sN h2 hk1
  refine ⟨fun i=>match i with | 0=>s | i+1=>S i,fun i=>match i with | 0=>r0 | i+1=>R i,rfl,eN,?_,?_,hkN⟩
  ·intro i o' ho
   cases i with
   | zero=>simp at ho; subst ho; simpa [e0] using hd
   | succ i=>exact hS i o' (by simpa using ho)
  ·rw [hL,hlog]
   simp [List.range_succ_eq_map,sw]


inductive OZ (ops:List Oper):Nat→Nat→Prop
 | edge {j:Nat} {o:Oper} {e:Edge} (ho:ops[j]?=some o) (he:e∈o.after.toList) (hb:Region.binds .any e=true):OZ ops e.on j
 | step {i j:Nat} {o:Oper} {e:Edge} (ho:ops[j]?=some o) (he:e∈o.after.toList) (hb:Region.binds .any e=true) (h:OZ ops i e.on):OZ ops i j

theorem Ba {ops:List Oper}:∀ (r:List Oper) (acc:List (List Nat)),r=ops.drop acc.length→(∀ j i,i∈acc.getD j []→OZ ops i j)→∀ j i,i∈(P2 r acc).getD j []→OZ ops i j
 | [],acc,_,h=>h
 | o :: r,acc,hr,h=>by
  simp only [P2]
  have hget:ops[acc.length]?=some o:=by
   have:=congrArg (·[0]?) hr
   simpa [jO] using this.symm
  refine Ba r _ (by
   have:=congrArg List.tail hr
   simpa using this) ?_
  intro j i hi
  rw [aH] at hi
  by_cases hj:j < acc.length
  ·rw [kd hj,← aH] at hi
   exact h j i hi
  ·by_cases hj':j=acc.length
   ·subst hj'
    rw [lw (aY _)] at hi
    simp only [Nat.sub_self,List.getElem?_cons_zero,bM,Db] at hi
    obtain ⟨e,he,hi⟩:=hi
    split at hi
    ·rename_i hb
     rcases c9.1 hi with rfl | hi
     ·exact .edge hget he hb
     ·exact .step hget he hb (h _ _ hi)
    ·simp at hi
   ·rw [dg (by simp; omega)] at hi
    simp at hi

section
variable {E:bx} {C:cI} {ops:List Oper} {S:Nat→RS} {R:Nat→yA}

structure mC (E:bx) (C:cI) (ops:List Oper) (S:Nat→RS) (R:Nat→yA) (L:Nat→Prop) (a:Act) (w:World) (U:Nat→Prop) (ρ:Nat→Option Value) (hpD:Nat→AO):Prop where
 cl:∀ (j:Nat) (o:Oper) (e:Edge),ops[j]?=some o→L j→e∈o.after.toList→Region.binds .any e=true→L e.on
 W:Wd E.gl C w U
 H:hJ C w U ρ hpD
 tl:a.tmps.size=(S 0).tmps.length
 tm:∀ (s k:Nat),k≤ops.length→(∀ (j:Nat) (o:Oper),ops[j]?=some o→o.dst=some s→(L j↔j < k))→Rv w U ρ ((S k).tmps.getD s .any) (a.tmps.getD s undef)
 hp:∀ (id k:Nat),k≤ops.length→(∀ j,j < ops.length→bQ (R j) id=true→(L j↔j < k))→(S k).hp id=hpD id
 rn:∀ id,(S 0).heap.length≤id→(∀ j,j < ops.length→L j→eL (R j) id=false)→ρ id=none
 df:a.defers=[]
 r0:∀ id v,C.ρ0 id=some v→ρ id=some v

theorem tE.slots {o:Oper} {s s':RS} {r:yA} (h:tE E ops o s s' r) {t:Nat} (ht:o.dst≠some t):s'.tmps.getD t .any=s.tmps.getD t .any:=by
 obtain ⟨v,hv⟩:=h.tm
 rw [hv,nU ht]

theorem tE.tlen {o:Oper} {s s':RS} {r:yA} (h:tE E ops o s s' r):s'.tmps.length=s.tmps.length:=by
 obtain ⟨v,hv⟩:=h.tm
 rw [hv]
 cases o.dst <;> simp [na]

theorem tE.wrfp {o:Oper} {s s':RS} {r:yA} (h:tE E ops o s s' r):∀ id∈r.wr,id∈r.fp:=by
 rcases h.way with ⟨kn,f,_,_,_,_,_,_,hw,rfl⟩ | ⟨_,_,_,rfl⟩
 ·intro id hid
  simp only [fm] at hid
  obtain ⟨p,hp,rfl⟩:=hid
  exact (hw p hp).2
 ·simp

theorem tE.news {o:Oper} {s s':RS} {r:yA} (h:tE E ops o s s' r) {id:Nat} (hn:eL r id=true):s.heap.length≤id∧id < s'.heap.length:=by
 rcases h.way with ⟨kn,f,_,_,_,_,_,hh,hw,rfl⟩ | ⟨_,_,_,rfl⟩
 ·simp [eL] at hn
  rw [hh]
  simp [bm]
  omega
 ·simp [eL] at hn

theorem tE.objs {o:Oper} {s s':RS} {r:yA} (h:tE E ops o s s' r) {id:Nat} (ht:bQ r id=false):s'.hp id=s.hp id:=by
 rcases h.way with ⟨kn,f,_,_,_,_,_,hh,hw,rfl⟩ | ⟨_,_,hh,rfl⟩
 ·simp [bQ,eL] at ht
  obtain ⟨h1,h2⟩:=ht
  simp only [RS.hp,hh]
  by_cases hid:id < s.heap.length
  ·rw [aH,kd (by rw [bm]; exact hid),← aH]
   exact ou f.wr s.heap id (fun ⟨o',ho'⟩=>h1 o' ho')
  ·rw [aH,aH,dg (by simp [bm]; have:=h2 (by omega); omega),dg (by omega)]
 ·simp only [RS.hp,hh]

theorem km (hS:∀ (i:Nat) (o:Oper),ops[i]?=some o→tE E ops o (S i) (S (i+1)) (R i)) {s:Nat}:∀ (d i:Nat),i+d≤ops.length→(∀ (j:Nat) (o:Oper),ops[j]?=some o→o.dst=some s→i≤j→j < i+d→False)→
  (S (i+d)).tmps.getD s .any=(S i).tmps.getD s .any
 | 0,_,_,_=>rfl
 | d+1,i,hle,h=>by
  have hlt:i+d < ops.length:=by omega
  have hget:ops[i+d]?=some ops[i+d]:=zJ hlt
  rw [show i+(d+1)=(i+d)+1 by omega,(hS _ _ hget).slots (fun e=>h _ _ hget e (by omega) (by omega))]
  exact km hS d i (by omega) (fun j o ho hd h1 h2=>h j o ho hd h1 (by omega))

theorem iW (hS:∀ (i:Nat) (o:Oper),ops[i]?=some o→tE E ops o (S i) (S (i+1)) (R i)) {id:Nat}:∀ (d i:Nat),i+d≤ops.length→(∀ j,i≤j→j < i+d→bQ (R j) id=false)→
  (S (i+d)).hp id=(S i).hp id
 | 0,_,_,_=>rfl
 | d+1,i,hle,h=>by
  have hlt:i+d < ops.length:=by omega
  have hget:ops[i+d]?=some ops[i+d]:=zJ hlt
  rw [show i+(d+1)=(i+d)+1 by omega,(hS _ _ hget).objs (h _ (by omega) (by omega))]
  exact iW hS d i (by omega) (fun j h1 h2=>h j h1 (by omega))

theorem jo (hS:∀ (i:Nat) (o:Oper),ops[i]?=some o→tE E ops o (S i) (S (i+1)) (R i)):∀ (d i:Nat),i+d≤ops.length→(S i).heap.length≤(S (i+d)).heap.length
 | 0,_,_=>aY _
 | d+1,i,hle=>by
  have hlt:i+d < ops.length:=by omega
  have hget:ops[i+d]?=some ops[i+d]:=zJ hlt
  exact cy (jo hS d i (by omega)) (hS _ _ hget).len

theorem xH (hS:∀ (i:Nat) (o:Oper),ops[i]?=some o→tE E ops o (S i) (S (i+1)) (R i)):∀ i,i≤ops.length→(S i).tmps.length=(S 0).tmps.length
 | 0,_=>rfl
 | i+1,h=>by
  have hget:ops[i]?=some ops[i]:=zJ h
  rw [(hS _ _ hget).tlen,xH hS i (by omega)]

theorem wD (hS:∀ (i:Nat) (o:Oper),ops[i]?=some o→tE E ops o (S i) (S (i+1)) (R i)) {i j id:Nat} (hi:i < ops.length) (hj:j < ops.length) (h1:eL (R i) id=true) (h2:eL (R j) id=true):i=j:=by
 have gi:=(hS i _ (zJ hi)).news h1
 have gj:=(hS j _ (zJ hj)).news h2
 rcases Nat.lt_trichotomy i j with h | h | h
 ·have:=jo hS (j - (i+1)) (i+1) (by omega)
  rw [show i+1+(j - (i+1))=j by omega] at this
  omega
 ·exact h
 ·have:=jo hS (i - (j+1)) (j+1) (by omega)
  rw [show j+1+(i - (j+1))=i by omega] at this
  omega

structure KR (ops:List Oper) (R:Nat→yA) (i j:Nat) (a:Nat) (oi oj:Oper):Prop where
 hi:ops[i]?=some oi
 hj:ops[j]?=some oj
 opi:∃ t x k,oi.op=.lookup t x k false
 opj:∃ t m k,oj.op=.mapEntry t m k
 fpi:(R i).fp=[a]
 wri:(R i).wr=[]
 nwi:(R i).nw=0
 wrj:(R j).wr=[a]
 nwj:(R j).nw=0
 sl:(f6 oi.dst.toList (ea ops oj)||f6 oi.dst.toList oj.dst.toList||f6 (ea ops oi) oj.dst.toList)=false
 lt:i < j
 oth:∀ l,l < ops.length→bQ (R l) a=true→l < i∨l=j∨(j < l∧OZ ops i l)

structure jM (ops:List Oper) (R:Nat→yA):Prop where
 back:∀ (j:Nat) (o:Oper) (e:Edge),ops[j]?=some o→e∈o.after.toList→Region.binds .any e=true→e.on < j
 anc:∀ (i j:Nat) (oi oj:Oper),i < j→ops[i]?=some oi→ops[j]?=some oj→pN ops oi oj (R i) (R j)=true→OZ ops i j∨∃ a,KR ops R i j a oi oj

theorem Gr {log:List yA} (h:ql ops log=true) (hlog:log=(List.range ops.length).map R):jM ops R:=by
 unfold ql at h
 simp only [aM,cY] at h
 obtain ⟨h1,h2⟩:=h
 constructor
 ·intro j o e ho he hb
  have hlt:j < ops.length:=(bR.1 ho).1
  have hmem:(o,j)∈ops.zipIdx:=by
   rw [List.mem_zipIdx_iff_getElem?]
   exact ho
  have:=h1 _ hmem e he
  simpa [hb] using this
 ·intro i j oi oj hij hi hj hc
  have hlt:j < ops.length:=(bR.1 hj).1
  have:=h2 j (uG.2 hlt) i (uG.2 hij)
  have lk:∀ k,k < ops.length→log[k]?=some (R k):=by intro k hk; rw [hlog]; simp [yF hk]
  have li:log[i]?=some (R i):=lk i (by omega)
  have lj:log[j]?=some (R j):=lk j hlt
  simp only [hi,hj,li,lj,hc,fk,Bool.false_or,sy,uA] at this
  rcases this with this | this
  ·exact .inl (Ba ops [] (by simp) (by simp) j i this)
  ·unfold OG at this
   split at this
   ·rename_i t x k t' m k' a b e1 e2 e3 e4
    simp only [aM,Bool.not_eq_true',eH,cY,List.isEmpty_iff,uG] at this
    obtain ⟨⟨⟨⟨⟨t1,t2⟩,t3⟩,t4⟩,t5⟩,t6⟩:=this
    subst t1
    refine .inr ⟨b,hi,hj,⟨t,x,k,e1⟩,⟨t',m,k',e2⟩,e3,t2,t3,e4,t4,t5,hij,fun l hl ht=>?_⟩
    have:=t6 l hl
    rw [lk l hl] at this
    simp only [ht,fk,Bool.false_or,sy,zZ,eH,aM,uA] at this
    rcases this with (this | this) | ⟨this,ha⟩
    ·exact .inl this
    ·exact .inr (.inl this)
    ·exact .inr (.inr ⟨this,Ba ops [] (by simp) (by simp) l i ha⟩)
   ·cases this

theorem KR.touch {i j a:Nat} {oi oj:Oper} (h:KR ops R i j a oi oj) (id:Nat):bQ (R i) id=false:=by
 unfold bQ eL
 rw [h.wri,h.nwi]
 simp

theorem nS {a b:List Nat}:f6 a b=true↔∃ x,x∈a∧x∈b:=by simp [f6]

variable {L:Nat→Prop} {a:Act} {w:World} {U:Nat→Prop} {ρ:Nat→Option Value} {hpD:Nat→AO}

theorem mC.anc (h:mC E C ops S R L a w U ρ hpD) {i j:Nat} (ha:OZ ops i j) (hj:L j):L i:=by
 induction ha with
 | edge ho he hb=>exact h.cl _ _ _ ho hj he hb
 | step ho he hb _ ih=>exact ih (h.cl _ _ _ ho hj he hb)

theorem mC.ready (h:mC E C ops S R L a w U ρ hpD) {i j:Nat} {o:Oper} (ho:ops[j]?=some o) (hr:∀ e∈o.after.toList,Region.binds .any e=true→L e.on) (ha:OZ ops i j):L i:=by
 cases ha with
 | edge ho' he hb=>rw [ho] at ho'; cases ho'; exact hr _ he hb
 | step ho' he hb hs=>rw [ho] at ho'; cases ho'; exact h.anc hs (hr _ he hb)

theorem mC.slotAt (hO:jM ops R) (h:mC E C ops S R L a w U ρ hpD) {i:Nat} {o:Oper} (ho:ops[i]?=some o) (hn:¬ L i) (hr:∀ e∈o.after.toList,Region.binds .any e=true→L e.on) {s:Nat}
  (hs:s∈ea ops o∨o.dst=some s):∀ (j:Nat) (oj:Oper),ops[j]?=some oj→oj.dst=some s→(L j↔j < i):=by
 intro j oj hoj hd
 constructor
 ·intro hL
  rcases Nat.lt_trichotomy j i with hlt | rfl | hlt
  ·exact hlt
  ·exact (hn hL).elim
  ·exfalso
   have hc:(f6 o.dst.toList (ea ops oj)||f6 o.dst.toList oj.dst.toList||f6 (ea ops o) oj.dst.toList)=true:=by
    simp only [sy,nS]
    rcases hs with hs | hs
    ·exact .inr ⟨s,hs,by simp [hd]⟩
    ·exact .inl (.inr ⟨s,by simp [hs],by simp [hd]⟩)
   rcases hO.anc i j o oj hlt ho hoj (by unfold pN; simp only [hc,Bool.true_or]) with ha | ⟨b,hb⟩
   ·exact hn (h.anc ha hL)
   ·rw [hb.sl] at hc; cases hc
 ·intro hlt
  have hc:(f6 oj.dst.toList (ea ops o)||f6 oj.dst.toList o.dst.toList||f6 (ea ops oj) o.dst.toList)=true:=by
   simp only [sy,nS]
   rcases hs with hs | hs
   ·exact .inl (.inl ⟨s,by simp [hd],hs⟩)
   ·exact .inl (.inr ⟨s,by simp [hd],by simp [hs]⟩)
  rcases hO.anc j i oj o hlt hoj ho (by unfold pN; simp only [hc,Bool.true_or]) with ha | ⟨b,hb⟩
  ·exact h.ready ho hr ha
  ·rw [hb.sl] at hc; cases hc

theorem mC.objAt (hS:∀ (i:Nat) (o:Oper),ops[i]?=some o→tE E ops o (S i) (S (i+1)) (R i)) (hO:jM ops R) (h:mC E C ops S R L a w U ρ hpD) {i:Nat} {o:Oper} (ho:ops[i]?=some o) (hn:¬ L i)
  (hr:∀ e∈o.after.toList,Region.binds .any e=true→L e.on) {id:Nat} (hs:id∈(R i).fp∨bQ (R i) id=true) (hns:∀ j a oj,¬ (KR ops R i j a o oj∧L j)):∀ j,j < ops.length→bQ (R j) id=true→(L j↔j < i):=by
 intro j hj ht
 have hi:i < ops.length:=(bR.1 ho).1
 have hoj:ops[j]?=some ops[j]:=zJ hj
 have hwi:=(hS i o ho).wrfp
 have hwj:=(hS j _ hoj).wrfp
 have tj:id∈(R j).wr∨eL (R j) id=true:=by simpa [bQ] using ht
 have ti:id∈(R i).fp∨eL (R i) id=true:=by
  rcases hs with hs | hs
  ·exact .inl hs
  ·have:id∈(R i).wr∨eL (R i) id=true:=by simpa [bQ] using hs
   exact this.imp (hwi id) (fun x=>x)
 by_cases hij:i=j
 ·subst hij
  exact ⟨fun h'=>(hn h').elim,fun h'=>absurd h' (Nat.lt_irrefl _)⟩
 have hclash:∀ (oi oj:Oper),pN ops oi oj (R i) (R j)=true∧pN ops oj oi (R j) (R i)=true:=by
  intro oi oj
  unfold pN
  simp only [sy,nS,List.any_eq_true]
  rcases ti with ti | ti <;> rcases tj with tj | tj
  ·exact ⟨.inl (.inl (.inr ⟨id,ti,tj⟩)),.inl (.inl (.inl (.inr ⟨id,tj,ti⟩)))⟩
  ·exact ⟨.inr ⟨id,ti,tj⟩,.inl (.inr ⟨id,ti,tj⟩)⟩
  ·exact ⟨.inl (.inr ⟨id,hwj id tj,ti⟩),.inr ⟨id,hwj id tj,ti⟩⟩
  ·exact (hij (wD hS hi hj ti tj)).elim
 constructor
 ·intro hL
  rcases Nat.lt_or_gt_of_ne hij with hlt | hlt
  ·rcases hO.anc i j o _ hlt ho hoj (hclash o _).1 with ha | ⟨b,hb⟩
   ·exact (hn (h.anc ha hL)).elim
   ·exact (hns _ _ _ ⟨hb,hL⟩).elim
  ·exact hlt
 ·intro hlt
  rcases hO.anc j i _ o hlt hoj ho (hclash o _).2 with ha | ⟨b,hb⟩
  ·exact h.ready ho hr ha
  ·rw [hb.touch id] at ht; cases ht

theorem Ks (es:List ((Int×Int×zp)×Int)) (v k:Int×Int×zp):fg (iC es v) k=fg es k:=by
 unfold iC
 cases fT es v with
 | true=>rfl
 | false=>
  simp only [bb,fg,List.find?_append]
  cases es.find? (fun p=>k==p.1) with
  | some p=>rfl
  | none=>
   simp only [Option.none_or,List.find?_cons,List.find?_nil]
   split <;> rfl

theorem x8 {P:Program} {hp hp':Nat→AO} {t:TypeId} {x i:AV} {f:eE} {b:Nat} {es:List ((Int×Int×zp)×Int)} {v:Int×Int×zp} (h:(jy P hp t x i false).val=some f) (hx:∀ id∈x.ids,id=b)
  (h1:hp b=.vmap false es) (h2:hp' b=.vmap false (iC es v)):(jy P hp' t x i false).val=some f:=by
 cases x with
 | mp id=>
  have:id=b:=hx id (by simp [AV.ids])
  subst this
  unfold jy at h ⊢
  cases hu:P.underlying t with
  | none=>simp [hu] at h
  | some u=>
   cases u with
   | map kt et=>
    simp only [hu] at h ⊢
    cases hk:P.underlying kt with
    | none=>simp [hk] at h
    | some ku=>
     cases ku with
     | string=>simp only [hk] at h; cases i <;> simp [h1] at h
     | struct fs=>
      simp only [hk] at h ⊢
      split at h
      ·rename_i hv
       rw [if_pos hv]
       cases hvk:Kt i with
       | none=>simp [hvk] at h
       | some v1=>
        simp only [hvk,h1,zH,if_false] at h
        simp only [h2,zH,if_false,Ks]
        exact h
      ·simp at h
     | _=>simp [hk] at h
   | _=>simp [hu] at h
 | _=>
  exfalso
  unfold jy at h
  split at h
  ·split at h
   ·split at h <;> simp_all
   ·split at h
    ·split at h <;> simp_all
    ·simp at h
   ·simp at h
  ·simp at h

end
section
variable {E:bx} {C:cI} {ops:List Oper} {S:Nat→RS} {R:Nat→yA} {L:Nat→Prop} {a:Act} {w:World} {U:Nat→Prop} {ρ:Nat→Option Value} {hpD:Nat→AO}

theorem NT {a:Act} {d:Option Tmp} {v:Value} {s:Nat} (h:d≠some s):(a.put d v).tmps.getD s undef=a.tmps.getD s undef:=by
 cases d with
 | none=>rfl
 | some d=>
  simp only [Act.put,ka]
  rw [Array.getElem?_setIfInBounds_ne (by simpa using h)]

theorem NU {a:Act} {d:Option Tmp} {v:Value}:(a.put d v).tmps.size=a.tmps.size:=by
 cases d <;> simp [Act.put]

theorem Gv {a:Act} {d:Option Tmp} {v:Value}:(a.put d v).defers=a.defers:=by
 cases d <;> rfl

theorem El {a:Act} {s:Nat} {v:Value} {c:AV} {tmps:List AV} (hl:tmps.length=a.tmps.size) (h:Rv w U ρ c v):Rv w U ρ ((na tmps (some s) c).getD s .any) ((a.put (some s) v).tmps.getD s undef):=by
 simp only [na,Act.put,aH,ka]
 by_cases hs:s < tmps.length
 ·rw [ma hs,Array.getElem?_setIfInBounds_self_of_lt (by omega)]
  exact h
 ·rw [jP,if_pos rfl,if_neg hs]
  exact .any _

theorem mC.next (hS:∀ (i:Nat) (o:Oper),ops[i]?=some o→tE E ops o (S i) (S (i+1)) (R i)) (hO:jM ops R) (h:mC E C ops S R L a w U ρ hpD) {i:Nat} {o:Oper} (ho:ops[i]?=some o) (hn:¬ L i)
  (hr:∀ e∈o.after.toList,Region.binds .any e=true→L e.on) {v:Value} {w':World} {U':Nat→Prop} {ρ':Nat→Option Value} {hpD':Nat→AO} (hW:Wd E.gl C w' U') (hH:hJ C w' U' ρ' hpD')
  (mono:∀ {c:AV} {x:Value},Rv w U ρ c x→Rv w' U' ρ' c x) (hv:∀ s,o.dst=some s→Rv w' U' ρ' ((S (i+1)).tmps.getD s .any) ((a.put o.dst v).tmps.getD s undef))
  (hobj:∀ id,hpD' id=if bQ (R i) id then (S (i+1)).hp id else hpD id) (hrho:∀ id,eL (R i) id=false→ρ' id=ρ id) (hrhon:∀ id v,ρ id=some v→ρ' id=some v):
  mC E C ops S R (fun j=>L j∨j=i) (a.put o.dst v) w' U' ρ' hpD':=by
 have hi:i < ops.length:=(bR.1 ho).1
 refine ⟨?_,hW,hH,by rw [NU]; exact h.tl,?_,?_,?_,by rw [Gv]; exact h.df,fun id v h'=>hrhon id v (h.r0 id v h')⟩
 ·intro j oj e hoj hL he hb
  rcases hL with hL | rfl
  ·exact .inl (h.cl j oj e hoj hL he hb)
  ·rw [ho] at hoj; cases hoj
   exact .inl (hr e he hb)
 ·intro s k hk hcons
  by_cases hd:o.dst=some s
  ·have hik:i < k:=(hcons i o ho hd).1 (.inr rfl)
   have hno:∀ (j:Nat) (oj:Oper),ops[j]?=some oj→oj.dst=some s→i+1≤j→j < k→False:=by
    intro j oj hoj hdj h1 h2
    have hLj:=(hcons j oj hoj hdj).2 h2
    rcases hLj with hLj | rfl
    ·have:=(h.slotAt hO ho hn hr (.inr hd) j oj hoj hdj).1 hLj
     omega
    ·omega
   have hb:=km hS (s:=s) (k - (i+1)) (i+1) (by omega) (fun j oj hoj hdj h1 h2=>hno j oj hoj hdj h1 (by omega))
   rw [show i+1+(k - (i+1))=k by omega] at hb
   rw [hb]
   exact hv s hd
  ·rw [NT hd]
   refine mono (h.tm s k hk (fun j oj hoj hdj=>?_))
   have:=hcons j oj hoj hdj
   have hne:j≠i:=by rintro rfl; rw [ho] at hoj; cases hoj; exact hd hdj
   exact ⟨fun hL=>this.1 (.inl hL),fun hlt=>(this.2 hlt).resolve_right hne⟩
 ·intro id k hk hcons
  rw [hobj id]
  by_cases ht:bQ (R i) id=true
  ·rw [if_pos ht]
   have hik:i < k:=(hcons i hi ht).1 (.inr rfl)
   have hb:=iW hS (id:=id) (k - (i+1)) (i+1) (by omega) (fun j h1 h2=>by
    by_cases htj:bQ (R j) id=true
    ·exfalso
     have hLj:=(hcons j (by omega) htj).2 (by omega)
     rcases hLj with hLj | rfl
     ·have:=(h.objAt hS hO ho hn hr (.inr ht) (fun _ _ _ hh=>by rw [hh.1.touch id] at ht; cases ht) j (by omega) htj).1 hLj
      omega
     ·omega
    ·simpa using htj)
   rw [show i+1+(k - (i+1))=k by omega] at hb
   exact hb
  ·rw [if_neg ht]
   refine h.hp id k hk (fun j hj htj=>?_)
   have:=hcons j hj htj
   have hne:j≠i:=by rintro rfl; exact ht htj
   exact ⟨fun hL=>this.1 (.inl hL),fun hlt=>(this.2 hlt).resolve_right hne⟩
 ·intro id h0 hnew
  have hi':=hnew i hi (.inr rfl)
  rw [hrho id hi']
  exact h.rn id h0 (fun j hj hL=>hnew j hj (.inl hL))

theorem BL {P:Program} {hp:Nat→AO} {t:TypeId} {m k:AV} {f:eE} {b:Nat} (h:(pZ P hp t m k).val=some f) (hw:f.wr.map (·.1)=[b]):
  ∃ es v,hp b=.vmap false es∧f.wr=[(b,.vmap false (iC es v))]∧f.nw=[]:=by
 unfold pZ at h
 split at h
 ·split at h
  ·split at h
   ·rename_i id v _
    split at h
    ·rename_i es hid
     split at h
     ·split at h
      ·simp only [Tr.val] at h
       split at h
       ·simp only [ap] at h
        subst h
        simp at hw
        subst hw
        exact ⟨es,v,hid,rfl,rfl⟩
       ·cases h
      ·simp at h
     ·simp at h
    ·simp at h
   ·simp at h
  ·simp at h
 ·simp at h

theorem mC.objX (hS:∀ (i:Nat) (o:Oper),ops[i]?=some o→tE E ops o (S i) (S (i+1)) (R i)) (hO:jM ops R) (h:mC E C ops S R L a w U ρ hpD) {i:Nat} {o:Oper} (ho:ops[i]?=some o) (hn:¬ L i)
  (hr:∀ e∈o.after.toList,Region.binds .any e=true→L e.on) {kn:List (Nat×Bool)} {f:eE} {n:Nat} (hf:(mP E (qY E (S i).tmps kn) (S i).hp n o).val=some f) (hRfp:(R i).fp=qa (S i).hp (qY E (S i).tmps kn) o)
  (hfp:DY (S i).hp (qY E (S i).tmps kn) o=true):∃ hpX:Nat→AO,(mP E (qY E (S i).tmps kn) hpX n o).val=some f∧(∀ id,id∈(R i).fp∨bQ (R i) id=true→hpX id=hpD id)∧
   (o5 o.op=true→∀ id∈(R i).fp,∀ j∈(hpX id).ids,j∈(R i).fp):=by
 have hi:i < ops.length:=(bR.1 ho).1
 obtain ⟨hin,hcl⟩:=wl hfp
 by_cases hs:∃ j b oj,KR ops R i j b o oj∧L j
 ·obtain ⟨j,b,oj,hs,hLj⟩:=hs
  have hjl:j < ops.length:=(bR.1 hs.hj).1
  have hlt:=hs.lt
  have hcons:∀ l,l < ops.length→bQ (R l) b=true→(L l↔l < j+1):=by
   intro l hl ht
   rcases hs.oth l hl ht with h1 | rfl | ⟨h1,h2⟩
   ·refine ⟨fun _=>by omega,fun _=>?_⟩
    have hc:pN ops ops[l] o (R l) (R i)=true:=by
     unfold pN
     simp only [sy,nS,List.any_eq_true]
     have tl:b∈(R l).wr∨eL (R l) b=true:=by simpa [bQ] using ht
     have bi:b∈(R i).fp:=by rw [hs.fpi]; simp
     rcases tl with tl | tl
     ·exact .inl (.inl (.inl (.inr ⟨b,tl,bi⟩)))
     ·exact .inl (.inr ⟨b,bi,tl⟩)
    rcases hO.anc l i _ o h1 (zJ hl) ho hc with ha | ⟨b',hb'⟩
    ·exact h.ready ho hr ha
    ·rw [hb'.touch b] at ht; cases ht
   ·exact ⟨fun _=>by omega,fun _=>hLj⟩
   ·exact ⟨fun hL=>(hn (h.anc h2 hL)).elim,fun hlt=>by omega⟩
  have e1:(S (j+1)).hp b=hpD b:=h.hp b (j+1) (by omega) hcons
  have e2:(S j).hp b=(S i).hp b:=by
   have:=iW hS (id:=b) (j - i) i (by omega) (fun l h1 h2=>by
    by_cases ht:bQ (R l) b=true
    ·rcases hs.oth l (by omega) ht with h3 | h3 | ⟨h3,_⟩ <;> omega
    ·simpa using ht)
   rwa [show i+(j - i)=j by omega] at this
  obtain ⟨t,m,k,hop⟩:=hs.opj
  rcases (hS j oj hs.hj).way with ⟨kn',f',_,_,hf',_,_,hhp,hwr,hR'⟩ | ⟨_,_,_,hR'⟩
  ·have hw:f'.wr.map (·.1)=[b]:=by rw [← hs.wrj,hR']
   unfold mP at hf'
   rw [hop] at hf'
   simp only at hf'
   obtain ⟨es,v,h3,h4,h5⟩:=BL hf' hw
   have hb:=(hwr (b,.vmap false (iC es v)) (by rw [h4]; simp)).1
   have e3:(S (j+1)).hp b=.vmap false (iC es v):=by
    simp only [RS.hp,hhp,h4,h5,lr,jQ]
    rw [aH,ma hb]
    rfl
   obtain ⟨t2,x2,k2,hop2⟩:=hs.opi
   refine ⟨(S (j+1)).hp,?_,?_,?_⟩
   ·unfold mP at hf ⊢
    rw [hop2] at hf ⊢
    simp only at hf ⊢
    refine x8 hf (fun id hid=>?_) (by rw [← e2]; exact h3) e3
    have:=hin (by rw [hop2]; rfl) x2 (by rw [hop2]; simp [Op.operands]) id hid
    rw [← hRfp,hs.fpi] at this
    simpa using this
   ·intro id hid
    rcases hid with hid | hid
    ·rw [hs.fpi] at hid
     simp at hid
     subst hid
     exact e1
    ·rw [hs.touch] at hid; cases hid
   ·intro _ id hid
    rw [hs.fpi] at hid
    simp at hid
    subst hid
    rw [e3]
    simp [AO.ids]
  ·have:=hs.wrj
   rw [hR'] at this
   cases this
 ·refine ⟨(S i).hp,hf,fun id hid=>h.hp id i (by omega) (h.objAt hS hO ho hn hr hid (fun j a oj hh=>hs ⟨j,a,oj,hh⟩)),?_⟩
  rw [hRfp]; exact hcl

theorem Qz (hE:zl E) (hS:∀ (i:Nat) (o:Oper),ops[i]?=some o→tE E ops o (S i) (S (i+1)) (R i)) (hO:jM ops R) (h:mC E C ops S R L a w U ρ hpD) {i:Nat} {o:Oper} (ho:ops[i]?=some o) (hn:¬ L i)
  (hr:∀ e∈o.after.toList,Region.binds .any e=true→L e.on) (K:Act→World→Prop) (Q:Exit→Act→World→Prop)
  (hK:∀ a' w' U' ρ' hpD',mC E C ops S R (fun j=>L j∨j=i) a' w' U' ρ' hpD'→K a' w'):wpOp E.P ops.toArray Q i K a w:=by
 have hi:i < ops.length:=(bR.1 ho).1
 have hget:ops.toArray[i]?=some o:=by simpa using ho
 have hdid:=hS i o ho
 have hslot:∀ s,s∈ea ops o→Rv w U ρ ((S i).tmps.getD s .any) (a.tmps.getD s undef):=fun s hs=>h.tm s i (by omega) (h.slotAt hO ho hn hr (.inl hs))
 have hlen:(S i).tmps.length=a.tmps.size:=by rw [xH hS i (by omega),h.tl]
 have hguard:∀ (j:Nat) (want:Bool) d,o.guard=some (j,want)→(ops[j]?).bind (·.dst)=some d→Rv w U ρ ((S i).tmps.getD d .any) (a.tmps.getD d undef):=by
  intro j want d hg hd
  refine hslot d ?_
  simp only [ea,hg,bp]
  exact .inr (by simp [hd])
 have yieldOf:∀ (j:Nat) (d:Nat) (b:Bool),(ops[j]?).bind (·.dst)=some d→a.tmps.getD d undef=.bool b→yielded ops.toArray a.tmps j=some b:=by
  intro j d b hd hb
  have hd':(ops.toArray[j]?).bind (·.dst)=some d:=by simpa using hd
  rw [ka] at hb
  have:a.tmps[d]?=some (.bool b):=by
   cases ht:a.tmps[d]? with
   | none=>rw [ht] at hb; simp [undef] at hb
   | some v=>rw [ht] at hb; simp at hb; rw [hb]
  unfold yielded; rw [hd']; simp [this]
 have boolOf:∀ (c:AV) (x:Value) (b:Bool),Rv w U ρ c x→(c=.bool b∨c=.kb b)→x=.bool b:=by
  rintro c x b hr (rfl | rfl) <;> cases hr <;> rfl
 unfold wpOp
 rw [hget]
 show (if Region.wanted o (yielded ops.toArray a.tmps) then _ else _)
 rcases hdid.way with ⟨kn,f,hkn,hg,hf,hfp,htm,hhp,hwr,hR⟩ | ⟨⟨j,want,hg,hcase⟩,htm,hhp,hR⟩
 ·
  have hw:Region.wanted o (yielded ops.toArray a.tmps)=true:=by
   unfold Region.wanted
   split
   ·rfl
   ·rename_i j want hgd
    obtain ⟨d,hd,hv⟩:=hg j want hgd
    rw [yieldOf j d want hd (boolOf _ _ _ (hguard j want d hgd hd) hv)]
    simp
  rw [if_pos hw]
  refine .inl ?_
  obtain ⟨hin,_⟩:=wl hfp
  have hRfp:(R i).fp=qa (S i).hp (qY E (S i).tmps kn) o:=by rw [hR]
  obtain ⟨hpX,hfX,hobjs,hcl⟩:=h.objX hS hO ho hn hr hf hRfp hfp
  rw [hRfp] at hcl
  have hRn:∀ id,eL (R i) id=true↔(S i).heap.length≤id∧id < (S i).heap.length+f.nw.length:=by intro id; rw [hR]; simp [eL]
  have hRt:∀ id,bQ (R i) id=true↔(∃ o',(id,o')∈f.wr)∨((S i).heap.length≤id∧id < (S i).heap.length+f.nw.length):=by
   intro id; rw [hR]; simp [bQ,eL]
  have hnone:∀ j,j < f.nw.length→ρ ((S i).heap.length+j)=none:=by
   intro j hj
   have hm:=jo hS i 0 (by omega)
   rw [eG] at hm
   refine h.rn _ (by omega) (fun j' hj' hL=>?_)
   by_cases hin':eL (R j') ((S i).heap.length+j)=true
   ·have:=wD hS hi hj' ((hRn _).2 ⟨by omega,by omega⟩) hin'
    subst this
    exact (hn hL).elim
   ·simpa using hin'
  obtain ⟨hwp,_⟩:=Ap hE (w:=w) (U:=U) (ρ:=ρ) (a:=a) (fp:=qa (S i).hp (qY E (S i).tmps kn) o) hfX (fun x hx=>by
    cases x with
    | tmp t=>
     have hst:t∈ea ops o:=by
      simp only [ea,bp,List.mem_filterMap]
      exact .inl ⟨.tmp t,hx,rfl⟩
     have:=hslot t hst
     simp only [qY,Act.eval]
     cases hk:kn.lookup t with
     | some b=>
      rw [boolOf _ _ b this (hkn t b hk)]
      exact .kb b
     | none=>exact this
    | const v=>exact lv v
    | global g=>exact (h.W.gl g).mono (aY _) (fun _ _ _=>rfl) (fun _ _ h=>h) (fun _ _ h=>by cases h)
    | func f=>simp only [qY,Act.eval]; exact .clo (.func f) [] [] [] [] rfl rfl (by simp) (by simp))
   h.W.ub h.W.gl
   ⟨fun id hid=>by rw [hobjs id (.inl (by rw [hRfp]; exact hid))]; exact h.H.ob id,fun id1 h1 id2 h2 b=>by
    rw [hobjs id1 (.inl (by rw [hRfp]; exact h1)),hobjs id2 (.inl (by rw [hRfp]; exact h2))]; exact h.H.inj id1 id2 b⟩ hin hcl hnone
  refine hwp K Q (fun v w' U' ρ' hef=>?_)
  have hwl:∀ p∈f.wr,p.1 < (S i).heap.length:=fun p hp=>(hwr p hp).1
  have hnext:∀ id,bQ (R i) id=true→(S (i+1)).hp id=(lr (S i).heap f.wr++f.nw).getD id .dead:=by
   intro id _; simp only [RS.hp,hhp]
  obtain ⟨hW',hH',mono⟩:=pI (hp':=fun id=>if bQ (R i) id then (S (i+1)).hp id else hpD id) h.W h.H hef (fun id o' hid=>hobjs id (.inr ((hRt id).2 (.inl ⟨o',hid⟩))))
   (fun id hex=>by
    obtain ⟨o',h1,h2⟩:=ov f.wr (S i).heap id hwl hex
    have ht:=(hRt id).2 (.inl hex)
    refine ⟨o',h1,?_⟩
    show (if bQ (R i) id then (S (i+1)).hp id else hpD id)=o'
    rw [if_pos ht,hnext id ht]
    have:id < (S i).heap.length:=hwl _ h1
    rw [aH,kd (by rw [bm]; exact this),← aH]
    exact h2)
   (fun j o' hj=>by
    have hlt:=(bR.1 hj).1
    have ht:=(hRt ((S i).heap.length+j)).2 (.inr ⟨by omega,by omega⟩)
    show (if bQ (R i) _ then (S (i+1)).hp _ else hpD _)=o'
    rw [if_pos ht,hnext _ ht]
    rw [aH,lw (by rw [bm]; omega),bm,show (S i).heap.length+j - (S i).heap.length=j by omega,hj]
    rfl)
   (fun id hno hid=>by
    have ht:¬ bQ (R i) id=true:=by
     rw [hRt id]
     rintro (h1 | ⟨h1,h2⟩)
     ·exact hno h1
     ·omega
    show (if bQ (R i) id then (S (i+1)).hp id else hpD id)=hpD id
    rw [if_neg ht])
  refine hK _ _ U' ρ' _ (h.next hS hO ho hn hr hW' hH' mono ?_ (fun id=>rfl) (fun id hid=>hef.rho id ?_) hef.rhon)
  ·intro s hs
   rw [htm,hs]
   exact El hlen hef.val
  ·have:¬ eL (R i) id=true:=by rw [hid]; simp
   rw [hRn id] at this
   omega
 ·
  have hw:¬ Region.wanted o (yielded ops.toArray a.tmps)=true:=by
   unfold Region.wanted
   rw [hg]
   simp only [eH]
   rcases hcase with hd | ⟨d,hd,hv⟩
   ·have hd':(ops.toArray[j]?).bind (·.dst)=none:=by simpa using hd
    unfold yielded; rw [hd']; simp
   ·have hrv:=hguard j want d hg hd
    rcases hv with hv | hv | ⟨vs,hv⟩
    ·rw [yieldOf j d _ hd (boolOf _ _ _ hrv (.inl hv))]
     cases want <;> simp
    ·rw [yieldOf j d _ hd (boolOf _ _ _ hrv (.inr hv))]
     cases want <;> simp
    ·rw [hv] at hrv
     have hd':(ops.toArray[j]?).bind (·.dst)=some d:=by simpa using hd
     generalize hx:a.tmps.getD d undef=x at hrv
     cases hrv with
     | tup _ xs _ _=>
     rw [ka] at hx
     unfold yielded; rw [hd']
     cases ht:a.tmps[d]? with
     | none=>simp [ht]
     | some v=>rw [ht] at hx; simp at hx; subst hx; simp [ht]
  rw [if_neg hw]
  have hRt:∀ id,bQ (R i) id=false:=by intro id; rw [hR]; simp [bQ,eL]
  refine hK _ _ U ρ hpD (h.next hS hO ho hn hr h.W h.H (fun h=>h) ?_ (fun id=>by rw [hRt id]; rfl) (fun _ _=>rfl) (fun _ _ h=>h))
  intro s hs
  rw [htm,hs]
  exact El hlen (.tup [] [] rfl (by simp))

def cS (listed:Array Bool) (j:Nat):Prop:=listed.getD j false=true

theorem Gk {listed:Array Bool} {i:Nat} (hi:i < listed.size):cS (listed.setIfInBounds i true)=fun j=>cS listed j∨j=i:=by
 funext j
 unfold cS
 simp only [ka]
 by_cases h:i=j
 ·subst h
  rw [Array.getElem?_setIfInBounds_self_of_lt hi]
  simp
 ·rw [Array.getElem?_setIfInBounds_ne h]
  simp [Ne.symm h]

theorem AL {listed:Array Bool} {i:Nat} (hsz:listed.size=ops.length) (h:i∈Region.ready .any ops.toArray listed):
  ∃ o,ops[i]?=some o∧¬ cS listed i∧∀ e∈o.after.toList,Region.binds .any e=true→cS listed e.on:=by
 unfold Region.ready at h
 simp only [List.mem_filter,uG,aM] at h
 obtain ⟨hi,h1,h2⟩:=h
 simp at hi
 have hget:ops[i]?=some ops[i]:=zJ hi
 refine ⟨ops[i],hget,?_,fun e he hb=>?_⟩
 ·unfold cS
  intro hL
  rw [ka] at hL h1
  rw [hM (by omega)] at hL h1
  simp at hL h1
  rw [hL] at h1; cases h1
 ·have h2':(ops[i].after.all fun e => !Region.binds .any e||listed.getD e.on false)=true:=by
   have:ops.toArray[i]?=some ops[i]:=by simp
   rw [this] at h2
   simpa using h2
  rw [← Array.all_toList] at h2'
  have:=cY.1 h2' e he
  simp [hb] at this
  unfold cS
  rw [ka]
  exact this

theorem Kc {listed:Array Bool} (hsz:listed.size=ops.length) (hback:∀ (j:Nat) (o:Oper) (e:Edge),ops[j]?=some o→e∈o.after.toList→Region.binds .any e=true→e.on < j)
  (h:Region.ready .any ops.toArray listed=[]):∀ j,j < ops.length→cS listed j:=by
 intro j
 induction j using Nat.strongRecOn with
 | _ j ih=>
  intro hj
  apply xW
  intro hn
  have hget:ops[j]?=some ops[j]:=zJ hj
  have:j∈Region.ready .any ops.toArray listed:=by
   unfold Region.ready
   simp only [List.mem_filter,uG,aM]
   refine ⟨by simpa using hj,?_,?_⟩
   ·unfold cS at hn
    rw [ka] at hn ⊢
    rw [hM (by omega)] at hn ⊢
    simp at hn ⊢
    exact hn
   ·have h1:ops.toArray[j]?=some ops[j]:=by simp
    rw [h1]
    simp only [pG,bM]
    rw [← Array.all_toList,cY]
    intro e he
    by_cases hb:Region.binds .any e=true
    ·have hlt:=hback j _ e hget he hb
     have:=ih e.on hlt (by omega)
     simp only [hb,fk,Bool.false_or]
     exact this
    ·simp [hb]
  rw [h] at this
  simp at this

theorem EZ (hE:zl E) (hS:∀ (i:Nat) (o:Oper),ops[i]?=some o→tE E ops o (S i) (S (i+1)) (R i)) (hO:jM ops R) {Q:Exit→Act→World→Prop}
  (hQ:∀ a w U ρ hpD (L:Nat→Prop),(∀ j,j < ops.length→L j)→mC E C ops S R L a w U ρ hpD→Q .normal a w):
  ∀ (fuel:Nat) (listed:Array Bool) (a:Act) (w:World) (U:Nat→Prop) (ρ:Nat→Option Value) (hpD:Nat→AO),listed.size=ops.length→(listed.toList.filter (! ·)).length≤fuel→
   mC E C ops S R (cS listed) a w U ρ hpD→wpAny E.P .any ops.toArray Q fuel listed a w
 | 0,listed,a,w,U,ρ,hpD,hsz,hf,h=>by
  have hall:∀ b∈listed.toList,b=true:=by
   have:listed.toList.filter (! ·)=[]:=C7 (by omega)
   intro b hb
   have:=List.filter_eq_nil_iff.1 this b hb
   simpa using this
  have hL:∀ j,j < ops.length→cS listed j:=by
   intro j hj
   unfold cS
   rw [ka,hM (by omega)]
   exact hall _ (by simp)
  refine ⟨?_,hQ a w U ρ hpD _ hL h⟩
  apply List.eq_nil_iff_forall_not_mem.2
  intro i hi
  obtain ⟨o,ho,hn,_⟩:=AL hsz hi
  exact hn (hL i (bR.1 ho).1)
 | fuel+1,listed,a,w,U,ρ,hpD,hsz,hf,h=>by
  refine ⟨fun hnil=>hQ a w U ρ hpD _ (Kc hsz hO.back hnil) h,fun i hi=>?_⟩
  obtain ⟨o,ho,hn,hr⟩:=AL hsz hi
  have hilt:i < listed.size:=by rw [hsz]; exact (bR.1 ho).1
  refine Qz hE hS hO h ho hn hr _ Q (fun a' w' U' ρ' hpD' h'=>?_)
  refine EZ hE hS hO hQ fuel _ a' w' U' ρ' hpD' (by simpa using hsz) ?_ (by rw [Gk hilt]; exact h')
  have hfalse:listed.toList[i]'(by simpa using hilt)=false:=by
   unfold cS at hn
   rw [ka,hM hilt] at hn
   simpa using hn
  have key:∀ (l:List Bool) (i:Nat) (hi:i < l.length),l[i]=false→(l.filter (! ·)).length=((l.set i true).filter (! ·)).length+1:=by
   intro l
   induction l with
   | nil=>intro i hi; simp at hi
   | cons b l ih=>
    intro i hi hb
    cases i with
    | zero=>simp at hb; subst hb; simp
    | succ i=>
     have:=ih i (by simpa using hi) (by simpa using hb)
     cases b <;> simp [this]
  have:=key listed.toList i (by simpa using hilt) hfalse
  simp only [Array.toList_setIfInBounds]
  omega

theorem Ey (hE:zl E) {id:Nat} {s0 sN:RS} (h:(bU E ops ops s0).val=some sN) (h0:s0.log=[]) (hk0:s0.known=[]) (hord:ql ops sN.log=true) (hc:xR C s0 a w U ρ) (hW:Wd E.gl C w U):
  (Code.region id ops.toArray true).wp E.P (fun e a' w'=>e=.normal∧∃ U' ρ',xR C sN a' w' U' ρ'∧Wd E.gl C w' U') a w:=by
 obtain ⟨S,R,e0,eN,hS,hL,hkN⟩:=oL ops s0 sN h (by intro d b hl; rw [hk0] at hl; simp at hl)
 have hO:jM ops R:=Gr hord (by rw [hL,h0]; simp)
 have hd:gz w { w with drawn:=w.drawn+1 }:=⟨aY _,rfl,rfl,rfl,fun _ _=>rfl⟩
 refine wp_region_any hE.mix (EZ (C:=C) hE hS hO ?_ ops.toArray.size (Array.replicate ops.toArray.size false) a { w with drawn:=w.drawn+1 } U ρ s0.hp (by simp) (by simp) ?_)
 ·intro a' w' U' ρ' hpD L hall hI
  refine ⟨rfl,U',ρ',⟨⟨?_,fun j c v hc hv=>?_⟩,?_,?_,?_,hI.df,hI.r0⟩,hI.W⟩
  ·rw [← eN,xH hS _ (aY _),← hI.tl]; simp
  ·have:=hI.tm j ops.length (aY _) (fun j' o' ho' _=>⟨fun _=>(bR.1 ho').1,fun hlt=>hall j' hlt⟩)
   rw [eN] at this
   rw [aH,hc,ka] at this
   have hv':a'.tmps[j]?=some v:=by simpa using hv
   rw [hv'] at this
   exact this
  ·have:sN.hp=hpD:=by
    funext id
    have:=hI.hp id ops.length (aY _) (fun j hj _=>⟨fun _=>hj,fun hlt=>hall j hlt⟩)
    rw [eN] at this
    exact this
   rw [this]
   exact hI.H
  ·intro id hid
   rw [← eN] at hid
   have hm0:=jo hS ops.length 0 (by omega)
   rw [eG] at hm0
   refine hI.rn id (by omega) (fun j hj _=>?_)
   by_cases hin:eL (R j) id=true
   ·have:=((hS j _ (zJ hj)).news hin).2
    have hm1:=jo hS (ops.length - (j+1)) (j+1) (by omega)
    rw [show j+1+(ops.length - (j+1))=ops.length by omega] at hm1
    omega
   ·simpa using hin
  ·intro d b hl
   have hsl:=hI.tm d ops.length (aY _) (fun j' o' ho' _=>⟨fun _=>(bR.1 ho').1,fun hlt=>hall j' hlt⟩)
   rw [eN] at hsl
   have hb:a'.tmps.getD d undef=.bool b:=by
    rcases hkN d b hl with h1 | h1 <;> rw [h1] at hsl <;> generalize a'.tmps.getD d undef=x at hsl <;> cases hsl <;> rfl
   rw [ka] at hb
   cases ht:a'.tmps[d]? with
   | none=>rw [ht] at hb; simp [undef] at hb
   | some v=>rw [ht] at hb; simp at hb; rw [hb]
 ·have hnone:∀ j,¬ cS (Array.replicate ops.toArray.size false) j:=by
   intro j
   unfold cS
   rw [ka,Array.getElem?_replicate]
   split <;> simp
  have hmono:∀ {c:AV} {x:Value},Rv w U ρ c x→Rv { w with drawn:=w.drawn+1 } U ρ c x:=fun h=>h.mono (w:=w) (w':={ w with drawn:=w.drawn+1 }) (aY _) (fun _ _ _=>rfl) (fun _ _ h=>h) (fun _ _ h=>h)
  refine ⟨fun j o e ho hL=>(hnone j hL).elim,⟨hW.ext.trans hd,hW.same,hW.ub,hW.u1,hW.u2,fun g=>(hW.gl g).mono (w:=w) (w':={ w with drawn:=w.drawn+1 }) (aY _) (fun _ _ _=>rfl) (fun _ _ h=>h) (fun _ _ h=>h)⟩,
   ⟨fun id=>(hc.hp.ob id).mono (w:=w) (w':={ w with drawn:=w.drawn+1 }) (aY _) (fun _ _ _=>rfl) (fun _ _ h=>h) (fun _ _ h=>h) (fun b ho=>⟨rfl,((hc.hp.ob id).inU ho).1⟩),hc.hp.inj,hc.hp.blk⟩,?_,?_,?_,?_,hc.df,hc.r0⟩
  ·rw [e0]; have:=hc.tm.len; simp at this; exact this.symm
  ·intro s k hk hcons
   have hsame:(S k).tmps.getD s .any=(S 0).tmps.getD s .any:=by
    have:=km hS (s:=s) k 0 (by omega) (fun j o ho hd h1 h2=>hnone j ((hcons j o ho hd).2 (by omega)))
    rwa [eG] at this
   rw [hsame,e0]
   by_cases hs:s < s0.tmps.length
   ·have hs':s < a.tmps.toList.length:=by rw [← hc.tm.len]; exact hs
    refine hmono (hc.tm.rv s _ _ (by rw [aH,zJ hs]; rfl) ?_)
    rw [ka]
    have:s < a.tmps.size:=by simpa using hs'
    simp [hM this]
   ·rw [aH,dg (by omega)]
    exact .any _
  ·intro id k hk hcons
   have:=iW hS (id:=id) k 0 (by omega) (fun j h1 h2=>by
    by_cases ht:bQ (R j) id=true
    ·exact (hnone j ((hcons j (by omega) ht).2 (by omega))).elim
    ·simpa using ht)
   rw [eG] at this
   rw [this,e0]
  ·intro id hid _
   rw [e0] at hid
   exact hc.new id hid

end

structure Cn (C:cI) (st:St) (a:Act) (w:World) (U:Nat→Prop) (ρ:Nat→Option Value):Prop where
 tm:cK w U ρ st.tmps a.tmps.toList
 hp:hJ C w U ρ st.hp
 new:∀ id,st.heap.length≤id→ρ id=none
 df:a.defers=[]
 r0:∀ id v,C.ρ0 id=some v→ρ id=some v

section
variable {E:bx} {C:cI} {a:Act} {w:World} {U:Nat→Prop} {ρ:Nat→Option Value}

theorem Cn.toR {st:St} (h:Cn C st a w U ρ):xR C { tmps:=st.tmps,heap:=st.heap } a w U ρ:=⟨h.tm,h.hp,h.new,by simp,h.df,h.r0⟩
theorem xR.out {st:RS} (h:xR C st a w U ρ):Cn C st.out a w U ρ:=⟨h.tm,h.hp,h.new,h.df,h.r0⟩

theorem hY {ops:List Oper}:∀ {t:Tr RS} {s:RS},(checked ops t).val=some s→t.val=some s∧ql ops s.log=true
 | .err,s,h=>by simp [checked] at h
 | .chk c t,s,h=>by
  cases c
  ·simp [checked,Tr.val] at h
  ·simp only [checked,Tr.val,if_true] at h ⊢
   exact hY h
 | .br c t f,s,h=>by
  cases c
  ·simp only [checked,Tr.val,zH,if_false] at h ⊢
   exact hY h
  ·simp only [checked,Tr.val,if_true] at h ⊢
   exact hY h
 | .ok st,s,h=>by
  simp only [checked] at h
  split at h
  ·rename_i ho
   simp at h; subst h
   exact ⟨rfl,ho⟩
  ·simp at h

theorem Kd (hE:zl E) {id:Nat} {ops:List Oper} {draw:Bool} {s0 sN:RS} (h0:s0.log=[]) (hk0:s0.known=[])
  (h:(if draw then checked ops (bU E ops ops s0) else bU E ops ops s0).val=some sN) (hc:xR C s0 a w U ρ) (hW:Wd E.gl C w U):
  (Code.region id ops.toArray draw).wp E.P (fun e a' w'=>e=.normal∧∃ U' ρ',xR C sN a' w' U' ρ'∧Wd E.gl C w' U') a w:=by
 cases draw
 ·simp only [zH,if_false] at h
  refine wp_region ?_
  have:=we (C:=C) hE (Q:=fun e a' w'=>e=.normal∧∃ U' ρ',xR C sN a' w' U' ρ'∧Wd E.gl C w' U') (fun a' w' U' ρ' h1 h2=>⟨rfl,U',ρ',h1,h2⟩) ops 0 s0 a w U ρ (by simp) h hc hW
  rw [← List.range_eq_range'] at this
  simpa using this
 ·simp only [if_true] at h
  obtain ⟨h1,h2⟩:=hY h
  exact Ey hE h1 h0 hk0 h2 hc hW

theorem nk {ops:List Oper} {o:Oper} {s s':RS} (h:(py E ops s o).val=some s') (ht:s'.touched=false):s.touched=false∧s'.heap=s.heap:=by
 have go:∀ kn,(ye E o { s with known:=kn }).val=some s'→s.touched=false∧s'.heap=s.heap:=by
  intro kn h
  unfold ye at h
  split at h
  ·simp only [Tr.val_bind,fa] at h
   obtain ⟨f,_,h⟩:=h
   split at h
   ·simp at h; subst h
    simp at ht
    obtain ⟨h1,h2,h3⟩:=ht
    refine ⟨h1,?_⟩
    simp [h2,h3,lr]
   ·simp at h
  ·simp at h
 have skip:∀ kn,kl o { s with known:=kn }=s'→s.touched=false∧s'.heap=s.heap:=by
  rintro kn rfl
  exact ⟨ht,rfl⟩
 unfold py at h
 split at h
 ·exact go s.known h
 ·split at h
  ·simp at h; exact skip s.known h
  ·split at h
   ·split at h
    ·exact go s.known h
    ·simp at h; exact skip s.known h
   ·simp at h; exact skip s.known h
   ·rename_i b _
    rename_i want _ _ _ _ _ _
    cases b
    ·simp only [Tr.val,zH,if_false] at h
     split at h
     ·simp at h; exact skip _ h
     ·exact go _ h
    ·simp only [Tr.val,if_true] at h
     split at h
     ·exact go _ h
     ·simp at h; exact skip _ h
   ·simp at h

theorem mj {ops:List Oper}:∀ (r:List Oper) (s sN:RS),(bU E ops r s).val=some sN→sN.touched=false→sN.heap=s.heap
 | [],s,sN,h,_=>by simp [bU] at h; rw [h]
 | o :: r,s,sN,h,ht=>by
  simp only [bU,Tr.val_bind,fa] at h
  obtain ⟨s1,h1,h2⟩:=h
  have e2:=mj r s1 sN h2 ht
  have t1:s1.touched=false:=by
   have key:∀ (r:List Oper) (s sN:RS),(bU E ops r s).val=some sN→sN.touched=false→s.touched=false:=by
    intro r
    induction r with
    | nil=>intro s sN h ht; simp [bU] at h; rw [h]; exact ht
    | cons o r ih=>
     intro s sN h ht
     simp only [bU,Tr.val_bind,fa] at h
     obtain ⟨s1,h1,h2⟩:=h
     exact (nk h1 (ih s1 sN h2 ht)).1
   exact key r s1 sN h2 ht
  rw [e2,(nk h1 t1).2]

theorem oK {ops:List Oper}:∀ (r:List Oper) (s sN:RS),(bU E ops r s).val=some sN→OX s→sN.tmps.length=s.tmps.length∧∀ d,d ∉ Jh r→sN.tmps.getD d .any=s.tmps.getD d .any
 | [],s,sN,h,_=>by simp [bU] at h; rw [h]; exact ⟨rfl,fun _ _=>rfl⟩
 | o::r,s,sN,h,hk=>by
  simp only [bU,Tr.val_bind,fa] at h
  obtain ⟨s1,h1,h2⟩:=h
  obtain ⟨r0,hd,_,hk1⟩:=xB h1 hk
  obtain ⟨e1,e2⟩:=oK r s1 sN h2 hk1
  refine ⟨by rw [e1,hd.tlen],fun d hd'=>?_⟩
  rw [e2 d (fun hin=>hd' (by simp only [Jh,List.filterMap_cons]; split <;> simp_all [Jh])),hd.slots (fun e=>hd' (by simp [Jh,e]))]

theorem f8 (c:Bool):∀ (ds:List Nat) (pre t f:List AV),(cF c ds pre t f).length=pre.length
 | [],_,_,_=>rfl
 | d::r,pre,t,f=>by rw [cF,f8 c r]; simp

theorem mq (c:Bool):∀ (ds:List Nat) (pre t f:List AV) (s:Nat),(cF c ds pre t f).getD s .any=if s∈ds∧s < pre.length then (nT c (t.getD s .any) (f.getD s .any)).getD .any else pre.getD s .any
 | [],pre,t,f,s=>by simp [cF]
 | d :: r,pre,t,f,s=>by
  rw [cF,mq c r]
  simp only [jR,c9]
  by_cases hr:s∈r∧s < pre.length
  ·rw [if_pos hr,if_pos ⟨.inr hr.1,hr.2⟩]
  ·rw [if_neg hr]
   simp only [aH,jP]
   by_cases hd:d=s
   ·subst hd
    by_cases hl:d < pre.length
    ·simp [hl]
    ·simp [hl]
   ·have:¬ ((s=d∨s∈r)∧s < pre.length):=by
     rintro ⟨h1 | h1,h2⟩
     ·exact hd h1.symm
     ·exact hr ⟨h1,h2⟩
    rw [if_neg hd,if_neg this]

theorem nM {ds:List Nat} {pre:List AV}:∀ {t:Tr RS} {c:Option Bool} {l:List AV},tC ds pre t=some (c,l)→(c=none∨c=some true)→∃ sR,t.val=some sR∧sR.touched=false∧
  (sR.tmps.length=pre.length→l.length=pre.length)∧∀ s v,(s ∉ ds→sR.tmps.getD s .any=pre.getD s .any)→Rv w U ρ (sR.tmps.getD s .any) v→Rv w U ρ (l.getD s .any) v
 | .err,c,l,h,_=>by simp [tC] at h
 | .ok st,c,l,h,_=>by
  simp only [tC] at h
  split at h
  ·cases h
  ·rename_i ht
   cases h
   exact ⟨st,rfl,by simpa using ht,fun h=>h,fun _ _ _ h=>h⟩
 | .chk c0 t,c,l,h,hc=>by
  simp only [tC] at h
  split at h
  ·rename_i l' hl
   cases h
   have:c0=true:=by simpa using hc
   subst this
   simp only [Tr.val,if_true]
   exact nM hl (.inl rfl)
  ·rename_i c' l' hl
   cases h
   have:c0=true∧c'=true:=by simpa using hc
   obtain ⟨rfl,rfl⟩:=this
   simp only [Tr.val,if_true]
   exact nM hl (.inr rfl)
  ·cases h
 | .br b t f,c,l,h,hc=>by
  have key:∀ (ct cf:Option Bool) (lt lf:List AV),tC ds pre t=some (ct,lt)→tC ds pre f=some (cf,lf)→l=cF b ds pre lt lf→(b=true→ct=none∨ct=some true)→(b=false→cf=none∨cf=some true)→
    ∃ sR,(Tr.br b t f).val=some sR∧sR.touched=false∧(sR.tmps.length=pre.length→l.length=pre.length)∧∀ s v,(s ∉ ds→sR.tmps.getD s .any=pre.getD s .any)→Rv w U ρ (sR.tmps.getD s .any) v→Rv w U ρ (l.getD s .any) v:=by
   rintro ct cf lt lf ht hf rfl hb1 hb2
   have fin:∀ (sR:RS),(∀ s v,(s ∉ ds→sR.tmps.getD s .any=pre.getD s .any)→Rv w U ρ (sR.tmps.getD s .any) v→Rv w U ρ ((if b then lt else lf).getD s .any) v)→
     ∀ s v,(s ∉ ds→sR.tmps.getD s .any=pre.getD s .any)→Rv w U ρ (sR.tmps.getD s .any) v→Rv w U ρ ((cF b ds pre lt lf).getD s .any) v:=by
    intro sR hs s v hpre hv
    rw [mq]
    split
    ·rename_i hin
     have h1:=hs s v hpre hv
     cases hmm:nT b (lt.getD s .any) (lf.getD s .any) with
     | none=>exact .any _
     | some z=>
      refine wB hmm ?_
      cases b <;> simpa using h1
    ·rename_i hin
     by_cases hds:s∈ds
     ·have:¬ s < pre.length:=fun h=>hin ⟨hds,h⟩
      rw [aH,dg (by omega)]
      exact .any _
     ·rw [← hpre hds]; exact hv
   cases b
   ·obtain ⟨sR,e1,e2,_,e4⟩:=nM hf (hb2 rfl)
    exact ⟨sR,by simpa [Tr.val] using e1,e2,fun _=>f8 _ _ _ _ _,fin sR (fun s v hp hv=>by simpa using e4 s v hp hv)⟩
   ·obtain ⟨sR,e1,e2,_,e4⟩:=nM ht (hb1 rfl)
    exact ⟨sR,by simpa [Tr.val] using e1,e2,fun _=>f8 _ _ _ _ _,fin sR (fun s v hp hv=>by simpa using e4 s v hp hv)⟩
  simp only [tC] at h
  split at h
  ·rename_i l1 l2 h1 h2
   split at h
   ·cases h
   cases h
   exact key _ _ _ _ h1 h2 rfl (fun _=>.inl rfl) (fun _=>.inl rfl)
  ·rename_i a1 l1 l2 h1 h2
   split at h
   ·cases h
   cases h
   refine key _ _ _ _ h1 h2 rfl (fun hb=>.inr ?_) (fun _=>.inl rfl)
   subst hb; simpa using hc
  ·rename_i l1 b1 l2 h1 h2
   split at h
   ·cases h
   cases h
   refine key _ _ _ _ h1 h2 rfl (fun _=>.inl rfl) (fun hb=>.inr ?_)
   subst hb; simpa using hc
  ·rename_i a1 l1 b1 l2 h1 h2
   split at h
   ·cases h
   cases h
   refine key _ _ _ _ h1 h2 rfl (fun hb=>.inr ?_) (fun hb=>.inr ?_) <;> (subst hb; simpa using hc)
  ·cases h

theorem x9 (hE:zl E) {id:Nat} {ops:Array Oper} {draw:Bool} {st st':St} (h:(pg E ops.toList draw st).val=some st') (hc:Cn C st a w U ρ) (hW:Wd E.gl C w U):
  (Code.region id ops draw).wp E.P (fun e a' w'=>e=.normal∧∃ U' ρ',Cn C st' a' w' U' ρ'∧Wd E.gl C w' U') a w:=by
 unfold pg at h
 simp only at h
 generalize hs0:({ tmps:=st.tmps,heap:=st.heap }:RS)=s0 at h
 have hlog:s0.log=[]:=by rw [← hs0]
 have hkn:s0.known=[]:=by rw [← hs0]
 have hcR:xR C s0 a w U ρ:=by rw [← hs0]; exact hc.toR
 have hkA:OX s0:=by intro d b hl; rw [hkn] at hl; simp at hl
 generalize htree:(if draw then checked ops.toList (bU E ops.toList ops.toList s0) else bU E ops.toList ops.toList s0)=t at h
 have plain:∀ sN,t.val=some sN→(Code.region id ops draw).wp E.P (fun e a' w'=>e=.normal∧∃ U' ρ',xR C sN a' w' U' ρ'∧Wd E.gl C w' U') a w:=by
  intro sN hv
  have:=Kd (id:=id) hE hlog hkn (by rw [htree]; exact hv) hcR hW
  simpa using this
 have raw:∀ sN,t.val=some sN→(bU E ops.toList ops.toList s0).val=some sN:=by
  intro sN hv
  rw [← htree] at hv
  cases draw
  ·simpa using hv
  ·simp only [if_true] at hv
   exact (hY hv).1
 have bare:(t.bind fun s=>Tr.ok s.out).val=some st'→(Code.region id ops draw).wp E.P (fun e a' w'=>e=.normal∧∃ U' ρ',Cn C st' a' w' U' ρ'∧Wd E.gl C w' U') a w:=by
  intro h
  simp only [Tr.val_bind,fa] at h
  obtain ⟨sN,hv,h⟩:=h
  simp at h; subst h
  exact wp_mono (plain sN hv) (fun e a' w' ⟨h1,U',ρ',h2,h3⟩=>⟨h1,U',ρ',h2.out,h3⟩)
 have merged:∀ c l,tC (Jh ops.toList) st.tmps t=some (c,l)→(c=none∨c=some true)→st'={ st with tmps:=l }→
   (Code.region id ops draw).wp E.P (fun e a' w'=>e=.normal∧∃ U' ρ',Cn C st' a' w' U' ρ'∧Wd E.gl C w' U') a w:=by
  rintro c l hfl hcc rfl
  obtain ⟨sR,hv,ht,hl,_⟩:=nM (w:=w) (U:=U) (ρ:=ρ) hfl hcc
  obtain ⟨hlen,hsl⟩:=oK ops.toList s0 sR (raw sR hv) hkA
  have hheap:=mj ops.toList s0 sR (raw sR hv) ht
  refine wp_mono (plain sR hv) (fun e a' w' ⟨h1,U',ρ',h2,h3⟩=>⟨h1,U',ρ',⟨⟨?_,fun j c v hc' hv'=>?_⟩,?_,?_,h2.df,h2.r0⟩,h3⟩)
  ·have:=h2.tm.len
   have e0:s0.tmps=st.tmps:=by rw [← hs0]
   rw [hl (by rw [hlen,e0]),← e0,← hlen]; exact this
  ·obtain ⟨sR',hv2,_,_,hr⟩:=nM (w:=w') (U:=U') (ρ:=ρ') hfl hcc
   rw [hv] at hv2; cases hv2
   have hj:j < sR.tmps.length:=by rw [h2.tm.len]; exact (bR.1 hv').1
   have e0:s0.tmps=st.tmps:=by rw [← hs0]
   have:=hr j v (fun hd=>by rw [hsl j hd,e0]) (h2.tm.rv j _ v (by rw [aH,zJ hj]; rfl) hv')
   rw [aH,hc'] at this
   exact this
  ·have:sR.hp=({ st with tmps:=l }:St).hp:=by
    funext i
    simp only [RS.hp,St.hp,hheap,← hs0]
   rw [← this]; exact h2.hp
  ·have:sR.heap.length=st.heap.length:=by rw [hheap,← hs0]
   intro i hi
   exact h2.new i (by rw [this]; exact hi)
 split at h
 ·split at h
  ·rename_i l hfl
   simp at h
   exact merged none l hfl (.inl rfl) h.symm
  ·rename_i c l hfl
   simp at h
   exact merged (some c) l hfl (.inr (by rw [h.1])) h.2.symm
  ·exact bare h
 ·exact bare h

end
end Cad
