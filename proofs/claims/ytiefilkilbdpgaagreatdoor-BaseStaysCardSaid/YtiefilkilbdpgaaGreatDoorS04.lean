/- Regions: one operation behind the other. Regions whose order is drawn: where operations that get in one another's way are ordered, every order comes to the same. -/
import Derived.Test.YtiefilkilbdpgaaGreatDoorS03
import Derived.Orders
namespace Cad
open Go

structure cH where
 w0:World
 U0:Nat→Prop
 B0:Nat→Prop
 ρ0:Nat→Option Value

structure Wd (gl:Nat→AV) (C:cH) (w:World) (U:Nat→Prop):Prop where
 ext:gu C.w0 w
 same:∀ b,b < C.w0.heap.size→¬ C.B0 b→w.heap[b]?=C.w0.heap[b]?
 ub:∀ b,U b→b < w.heap.size
 u1:∀ b,b < C.w0.heap.size→U b→C.U0 b
 u2:∀ b,b < C.w0.heap.size→C.U0 b→¬ C.B0 b→U b
 gl:xp gl w U

structure gY (C:cH) (w:World) (U:Nat→Prop) (ρ:Nat→Option Value) (hp:Nat→AO):Prop where
 ob:∀ id,be w U ρ id (hp id)
 inj:∀ id1 id2 b,zO ρ id1 (hp id1) b→zO ρ id2 (hp id2) b→id1=id2
 blk:∀ id b,zO ρ id (hp id) b→C.B0 b∨C.w0.heap.size≤b

section
variable {gl:Nat→AV} {C:cH} {w:World} {U:Nat→Prop} {ρ:Nat→Option Value}

theorem pp {n:Nat} {hpl hp hp':Nat→AO} {f:ew} {v:Value} {w':World} {U':Nat→Prop} {ρ':Nat→Option Value} (hW:Wd gl C w U) (hH:gY C w U ρ hp) (hef:Ef n hpl f w U ρ v w' U' ρ')
  (hloc:∀ id o,(id,o)∈f.wr→hpl id=hp id)
  (h1:∀ id,(∃ o,(id,o)∈f.wr)→∃ o,(id,o)∈f.wr∧hp' id=o) (h2:∀ (j:Nat) o,f.nw[j]?=some o→hp' (n+j)=o)
  (h3:∀ id,(¬ ∃ o,(id,o)∈f.wr)→(id < n∨n+f.nw.length≤id)→hp' id=hp id):
  Wd gl C w' U'∧gY C w' U' ρ' hp'∧∀ {c:AV} {x:Value},Rv w U ρ c x→Rv w' U' ρ' c x:=by
 have hownU:∀ id o b,(id,o)∈f.wr→zO ρ id (hpl id) b→U b∧b < w.heap.size:=by
  intro id o b hid ho
  rw [hloc id o hid] at ho
  exact (hH.ob id).inU ho
 have hk:∀ b,b < w.heap.size→¬ U b→w'.heap[b]?=w.heap[b]?:=fun b hb hU=>hef.same b hb (fun id o hid ho=>hU (hownU id o b hid ho).1)
 have mono:∀ {c:AV} {x:Value},Rv w U ρ c x→Rv w' U' ρ' c x:=fun h=>h.mono hef.ext.sz hk hef.u1 hef.rhon
 have kind:∀ id,(∃ o,(id,o)∈f.wr∧hp' id=o)∨(n≤id∧∃ o,f.nw[id - n]?=some o∧hp' id=o)∨((¬ ∃ o,(id,o)∈f.wr)∧(id < n∨n+f.nw.length≤id)∧hp' id=hp id):=by
  intro id
  by_cases hw:∃ o,(id,o)∈f.wr
  ·exact .inl (h1 id hw)
  ·by_cases hn:n≤id∧id < n+f.nw.length
   ·refine .inr (.inl ⟨hn.1,f.nw[id - n]'(by omega),zJ (by omega),?_⟩)
    have:=h2 (id - n) _ (zJ (by omega))
    rwa [show n+(id - n)=id by omega] at this
   ·exact .inr (.inr ⟨hw,by omega,h3 id hw (by omega)⟩)
 have other:∀ id,(¬ ∃ o,(id,o)∈f.wr)→∀ b,zO ρ id (hp id) b→b < w.heap.size∧∀ id' o',(id',o')∈f.wr→¬ zO ρ id' (hpl id') b:=by
  intro id hw b ho
  refine ⟨((hH.ob id).inU ho).2,fun id' o' hid' ho'=>?_⟩
  rw [hloc id' o' hid'] at ho'
  have:=hH.inj id id' b ho ho'
  subst this
  exact hw ⟨o',hid'⟩
 have ownsBack:∀ id,(id < n∨n+f.nw.length≤id)→∀ o b,zO ρ' id o b→zO ρ id o b:=by
  rintro id hid o b ⟨h,v,hv,hb⟩
  rw [hef.rho id hid] at hv
  exact ⟨h,v,hv,hb⟩
 have ownKnown:∀ id b,((∃ o,(id,o)∈f.wr∧hp' id=o)∨(n≤id∧∃ o,f.nw[id - n]?=some o∧hp' id=o))→zO ρ' id (hp' id) b→
   w.heap.size≤b∨∃ id' o',(id',o')∈f.wr∧zO ρ id' (hp id') b:=by
  intro id b hid ho
  have hin:((id,hp' id)∈f.wr∨(n≤id∧f.nw[id - n]?=some (hp' id))):=by
   rcases hid with ⟨o,h,rfl⟩ | ⟨h,o,h',rfl⟩
   ·exact .inl h
   ·exact .inr ⟨h,h'⟩
  rcases hef.own id _ b hin ho with h | ⟨id',o',hid',ho'⟩
  ·exact .inl h
  ·exact .inr ⟨id',o',hid',by rw [← hloc id' o' hid']; exact ho'⟩
 refine ⟨⟨hW.ext.trans hef.ext,?_,hef.ub,?_,?_,?_⟩,⟨?_,?_,?_⟩,mono⟩
 ·intro b hb hB
  rw [hef.same b (lQ hb hW.ext.sz) (fun id o hid ho=>?_)]
  ·exact hW.same b hb hB
  ·rw [hloc id o hid] at ho
   rcases hH.blk id b ho with h | h
   ·exact hB h
   ·omega
 ·intro b hb hU
  exact hW.u1 b hb (hef.u1 b (lQ hb hW.ext.sz) hU)
 ·intro b hb hU hB
  refine hef.u2 b (lQ hb hW.ext.sz) (hW.u2 b hb hU hB) (fun id o hid ho=>?_)
  rw [hloc id o hid] at ho
  rcases hH.blk id b ho with h | h
  ·exact hB h
  ·omega
 ·intro g
  exact (hW.gl g).mono hef.ext.sz hk hef.u1 (fun _ _ h=>by cases h)
 ·intro id
  rcases kind id with ⟨o,h,e⟩ | ⟨h,o,h',e⟩ | ⟨hw,hid,e⟩
  ·rw [e]; exact hef.wr id o h
  ·rw [e]
   have:=hef.nw (id - n) o h'
   rwa [show n+(id - n)=id by omega] at this
  ·rw [e]
   refine (hH.ob id).mono hef.ext.sz hk hef.u1 hef.rhon (fun b ho=>?_)
   obtain ⟨hb,hno⟩:=other id hw b ho
   exact ⟨hef.same b hb hno,hef.u2 b hb ((hH.ob id).inU ho).1 hno⟩
 ·intro id1 id2 b ho1 ho2
  have k1:=kind id1
  have k2:=kind id2
  have cross:∀ id1 id2,((∃ o,(id1,o)∈f.wr∧hp' id1=o)∨(n≤id1∧∃ o,f.nw[id1 - n]?=some o∧hp' id1=o))→
    ((¬ ∃ o,(id2,o)∈f.wr)∧(id2 < n∨n+f.nw.length≤id2)∧hp' id2=hp id2)→zO ρ' id1 (hp' id1) b→zO ρ' id2 (hp' id2) b→False:=by
   intro id1 id2 k1 ⟨hw,hid,e⟩ ho1 ho2
   rw [e] at ho2
   have ho2':=ownsBack id2 hid _ b ho2
   obtain ⟨hb,hno⟩:=other id2 hw b ho2'
   rcases ownKnown id1 b k1 ho1 with h | ⟨id',o',hid',ho'⟩
   ·omega
   ·exact hno id' o' hid' (by rw [hloc id' o' hid']; exact ho')
  rcases k1 with k1 | k1 | k1 <;> rcases k2 with k2 | k2 | k2
  ·obtain ⟨o1,h1',e1⟩:=k1; obtain ⟨o2,h2',e2⟩:=k2
   rw [e1] at ho1; rw [e2] at ho2
   exact hef.inj id1 o1 id2 o2 b (.inl h1') (.inl h2') ho1 ho2
  ·obtain ⟨o1,h1',e1⟩:=k1; obtain ⟨hn2,o2,h2',e2⟩:=k2
   rw [e1] at ho1; rw [e2] at ho2
   exact hef.inj id1 o1 id2 o2 b (.inl h1') (.inr ⟨hn2,h2'⟩) ho1 ho2
  ·exact (cross id1 id2 (.inl k1) k2 ho1 ho2).elim
  ·obtain ⟨hn1,o1,h1',e1⟩:=k1; obtain ⟨o2,h2',e2⟩:=k2
   rw [e1] at ho1; rw [e2] at ho2
   exact hef.inj id1 o1 id2 o2 b (.inr ⟨hn1,h1'⟩) (.inl h2') ho1 ho2
  ·obtain ⟨hn1,o1,h1',e1⟩:=k1; obtain ⟨hn2,o2,h2',e2⟩:=k2
   rw [e1] at ho1; rw [e2] at ho2
   exact hef.inj id1 o1 id2 o2 b (.inr ⟨hn1,h1'⟩) (.inr ⟨hn2,h2'⟩) ho1 ho2
  ·exact (cross id1 id2 (.inr k1) k2 ho1 ho2).elim
  ·exact (cross id2 id1 (.inl k2) k1 ho2 ho1).elim
  ·exact (cross id2 id1 (.inr k2) k1 ho2 ho1).elim
  ·obtain ⟨_,hid1,e1⟩:=k1; obtain ⟨_,hid2,e2⟩:=k2
   rw [e1] at ho1; rw [e2] at ho2
   exact hH.inj id1 id2 b (ownsBack id1 hid1 _ b ho1) (ownsBack id2 hid2 _ b ho2)
 ·intro id b ho
  rcases kind id with k | k | ⟨_,hid,e⟩
  ·rcases ownKnown id b (.inl k) ho with h | ⟨id',o',hid',ho'⟩
   ·exact .inr (cv hW.ext.sz h)
   ·exact hH.blk id' b ho'
  ·rcases ownKnown id b (.inr k) ho with h | ⟨id',o',hid',ho'⟩
   ·exact .inr (cv hW.ext.sz h)
   ·exact hH.blk id' b ho'
  ·rw [e] at ho
   exact hH.blk id b (ownsBack id hid _ b ho)

structure xn (C:cH) (st:RS) (a:Act) (w:World) (U:Nat→Prop) (ρ:Nat→Option Value):Prop where
 tm:cK w U ρ st.tmps a.tmps.toList
 hp:gY C w U ρ st.hp
 new:∀ id,st.heap.length≤id→ρ id=none
 kn:∀ d b,st.known.lookup d=some b→a.tmps[d]?=some (.bool b)
 df:a.defers=[]
 r0:∀ id v,C.ρ0 id=some v→ρ id=some v

theorem Be {E:bt} {tmps:List AV} {known:List (Nat×Bool)} {a:Act} (htm:cK w U ρ tmps a.tmps.toList) (hkn:∀ d b,known.lookup d=some b→a.tmps[d]?=some (.bool b)) (hgl:xp E.gl w U) (x:Operand):
  Rv w U ρ (qH E tmps known x) (a.eval x):=by
 cases x with
 | tmp t=>
  simp only [qH,Act.eval]
  cases hk:known.lookup t with
  | some b=>
   have:=hkn t b hk
   simp only [j5,this,bP]
   exact .kb b
  | none=>
   by_cases ht:t < tmps.length
   ·have ht':t < a.tmps.toList.length:=by rw [← htm.len]; exact ht
    have h1:a.tmps.getD t undef=a.tmps.toList[t]:=by
     simp only [Array.length_toList] at ht'
     simp [Array.getD,ht']
    rw [h1]
    exact htm.rv t _ _ (by rw [aJ,zJ ht]; rfl) (zJ ht')
   ·rw [aJ,dd (Nat.le_of_not_lt ht)]
    exact .any _
 | const v=>exact k9 v
 | global g=>exact (hgl g).mono (bd _) (fun _ _ _=>rfl) (fun _ _ h=>h) (fun _ _ h=>by cases h)
 | func f=>simp only [qH,Act.eval]; exact .clo (.func f) [] [] [] [] rfl rfl (by simp) (by simp)

theorem bf:∀ (wr:List (Nat×AO)) (h:List AO),(kV h wr).length=h.length
 | [],_=>rfl
 | (i,o)::r,h=>by simp [kV,bf r]

theorem nW:∀ (wr:List (Nat×AO)) (h:List AO) (id:Nat),(¬ ∃ o,(id,o)∈wr)→(kV h wr).getD id .dead=h.getD id .dead
 | [],_,_,_=>rfl
 | (i,o)::r,h,id,hn=>by
  rw [kV,nW r _ id (fun ⟨o',ho'⟩=>hn ⟨o',by simp [ho']⟩)]
  have:i≠id:=fun e=>hn ⟨o,by simp [e]⟩
  simp [pj this]

theorem nX:∀ (wr:List (Nat×AO)) (h:List AO) (id:Nat),(∀ p∈wr,p.1 < h.length)→(∃ o,(id,o)∈wr)→∃ o,(id,o)∈wr∧(kV h wr).getD id .dead=o
 | [],_,_,_,⟨_,h⟩=>by simp at h
 | (i,o)::r,h,id,hl,hex=>by
  by_cases hr:∃ o,(id,o)∈r
  ·obtain ⟨o',h1,h2⟩:=nX r (h.set i o) id (fun p hp=>by rw [jM]; exact hl p (by simp [hp])) hr
   exact ⟨o',by simp [h1],h2⟩
  ·obtain ⟨o',ho'⟩:=hex
   simp only [cY,bC] at ho'
   rcases ho' with ⟨rfl,rfl⟩ | ho'
   ·refine ⟨o',by simp,?_⟩
    rw [kV,nW r _ _ hr]
    have:id < h.length:=hl (id,o') (by simp)
    simp [lP this]
   ·exact (hr ⟨o',ho'⟩).elim

theorem tn {tmps:List AV} {a:Act} {d:Option Tmp} {c:AV} {v:Value} (h:cK w U ρ tmps a.tmps.toList) (hv:Rv w U ρ c v):cK w U ρ (mR tmps d c) (a.put d v).tmps.toList:=by
 cases d with
 | none=>exact h
 | some d=>
  simp only [mR,Act.put]
  refine ⟨by simp [h.len],fun j c' v' hc hv'=>?_⟩
  simp only [Array.toList_setIfInBounds] at hv'
  by_cases hj:d=j
  ·subst hj
   rw [jJ] at hc hv'
   simp only [if_true] at hc hv'
   split at hc
   ·rename_i hlt
    rw [if_pos (by rw [← h.len]; exact hlt)] at hv'
    cases hc; cases hv'; exact hv
   ·cases hc
  ·rw [pj hj] at hc hv'
   exact h.rv j c' v' hc hv'

theorem y3 {known:List (Nat×Bool)} {a:Act} {d:Option Tmp} {v:Value} (h:∀ d b,known.lookup d=some b→a.tmps[d]?=some (.bool b)):
  ∀ d' b,(oY known d).lookup d'=some b→(a.put d v).tmps[d']?=some (.bool b):=by
 intro d' b hl
 cases d with
 | none=>exact h d' b hl
 | some d=>
  simp only [oY] at hl
  have key:∀ (k:List (Nat×Bool)),(k.filter fun p=>p.1 != d).lookup d'=some b→d'≠d∧k.lookup d'=some b:=by
   intro k
   induction k with
   | nil=>simp
   | cons p k ih=>
    intro hk
    rw [List.filter_cons] at hk
    split at hk
    ·rename_i hp
     rw [x9] at hk ⊢
     split at hk
     ·rename_i he
      cases hk
      simp at hp he
      exact ⟨by rw [he]; exact hp,by simp⟩
     ·rename_i he
      obtain ⟨h1,h2⟩:=ih hk
      exact ⟨h1,h2⟩
    ·rename_i hp
     obtain ⟨h1,h2⟩:=ih hk
     refine ⟨h1,?_⟩
     rw [x9]
     have:(d'==p.1)=false:=by
      simp at hp
      simp [hp,h1]
     rw [this]; exact h2
  obtain ⟨hne,hk⟩:=key known hl
  simp only [Act.put]
  rw [Array.getElem?_setIfInBounds_ne (fun e=>hne e.symm)]
  exact h d' b hk

theorem vP {hp:Nat→AO} {ev:Operand→AV} {o:Oper} (h:Dk hp ev o=true):
  (fh o.op=true→∀ x∈o.op.operands.toList,∀ id∈(ev x).ids,id∈pO hp ev o)∧(oM o.op=true→∀ id∈pO hp ev o,∀ j∈(hp id).ids,j∈pO hp ev o):=by
 unfold Dk at h
 constructor
 ·intro hm x hx id hid
  simp only [hm,fG,Bool.false_or,aL,cX,t8] at h
  exact h.1 id (ff (List.mem_map_of_mem hx) hid)
 ·intro hm id hid j hj
  have hm2:fh o.op=true:=by
   cases ho:o.op <;> rw [ho] at hm <;> simp_all [oM,fh]
  simp only [hm,hm2,fG,Bool.false_or,aL,cX,t8] at h
  exact h.2 id hid j hj

theorem tf {E:bt} (hE:zl E) {st st':RS} {o:Oper} {a:Act} (h:(xI E o st).val=some st') (hc:xn C st a w U ρ) (hW:Wd E.gl C w U)
  (K:Act→World→Prop) (Q:Exit→Act→World→Prop) (hK:∀ a' w' U' ρ',xn C st' a' w' U' ρ'→Wd E.gl C w' U'→K a' w'):o.wp E.P a w K Q:=by
 unfold xI at h
 split at h
 ·rename_i hfp
  simp only [Tr.val_bind,eS] at h
  obtain ⟨f,hf,h⟩:=h
  split at h
  ·rename_i hwl
   simp at h; subst h
   obtain ⟨hin,hcl⟩:=vP hfp
   have hn:∀ j,j < f.nw.length→ρ (st.heap.length+j)=none:=fun j _=>hc.new _ (by omega)
   obtain ⟨hwp,hwr⟩:=yY hE (w:=w) (U:=U) (ρ:=ρ) (a:=a) (fp:=pO st.hp (qH E st.tmps st.known) o) hf (fun x _=>Be hc.tm hc.kn hW.gl x) hW.ub hW.gl
    ⟨fun id _=>hc.hp.ob id,fun id1 _ id2 _ b=>hc.hp.inj id1 id2 b⟩ hin hcl hn
   refine hwp K Q (fun v w' U' ρ' hef=>?_)
   simp only [cX,aL,ae] at hwl
   replace hwl:∀ p∈f.wr,p.1 < st.heap.length:=fun p hp=>(hwl p hp).1
   have hset:=nX f.wr st.heap
   obtain ⟨hW',hH',mono⟩:=pp (hp':=fun id=>(kV st.heap f.wr++f.nw).getD id .dead) hW hc.hp hef (fun _ _ _=>rfl)
    (fun id hex=>by
     obtain ⟨o',h1,h2⟩:=nX f.wr st.heap id hwl hex
     refine ⟨o',h1,?_⟩
     have:id < st.heap.length:=hwl _ h1
     rw [aJ,j6 (by rw [bf]; exact this),← aJ]
     exact h2)
    (fun j o' hj=>by
     rw [aJ,lc (by rw [bf]; omega),bf,show st.heap.length+j - st.heap.length=j by omega,hj]
     rfl)
    (fun id hno hid=>by
     rcases hid with hid | hid
     ·rw [aJ,j6 (by rw [bf]; exact hid),← aJ]
      exact nW f.wr st.heap id hno
     ·simp only [RS.hp]
      rw [aJ,aJ,dd (by simp [bf]; omega),dd (by omega)])
   refine hK _ _ U' ρ' ⟨tn ⟨hc.tm.len,fun j c x hx hv=>mono (hc.tm.rv j c x hx hv)⟩ hef.val,hH',?_,y3 hc.kn,?_,fun id v h=>hef.rhon id v (hc.r0 id v h)⟩ hW'
   ·intro id hid
    simp only [pk,bf] at hid
    rw [hef.rho id (.inr hid)]
    exact hc.new id (by omega)
   ·cases hd:o.dst <;> simp [Act.put,hc.df]
  ·simp at h
 ·simp at h

theorem kP {st:RS} {o:Oper} {a:Act} (hc:xn C st a w U ρ):xn C (kf o st) (a.put o.dst undef) w U ρ:=by
 refine ⟨tn hc.tm (.tup [] [] rfl (by simp)),hc.hp,hc.new,y3 hc.kn,?_,hc.r0⟩
 cases hd:o.dst <;> simp [Act.put,hc.df]

theorem Lo {E:bt} {ops:List Oper} {st:RS} {a:Act} (hc:xn C st a w U ρ) (hgl:xp E.gl w U) {j:Nat} {d:Nat} (hd:(ops[j]?).bind (·.dst)=some d):
  (∀ b,qH E st.tmps st.known (.tmp d)=.kb b→yielded ops.toArray a.tmps j=some b∧a.tmps[d]?=some (.bool b))∧
  (∀ b,qH E st.tmps st.known (.tmp d)=.bool b→yielded ops.toArray a.tmps j=some b∧a.tmps[d]?=some (.bool b))∧
  (∀ vs,qH E st.tmps st.known (.tmp d)=.tup vs→yielded ops.toArray a.tmps j=none):=by
 have hev:=Be (E:=E) hc.tm hc.kn hgl (.tmp d)
 have hd':(ops.toArray[j]?).bind (·.dst)=some d:=by simpa using hd
 have hbool:∀ b,a.eval (.tmp d)=.bool b→yielded ops.toArray a.tmps j=some b∧a.tmps[d]?=some (.bool b):=by
  intro b hb
  simp only [Act.eval,j5] at hb
  have:a.tmps[d]?=some (.bool b):=by
   cases ht:a.tmps[d]? with
   | none=>rw [ht] at hb; simp [undef] at hb
   | some v=>rw [ht] at hb; simp at hb; rw [hb]
  exact ⟨by unfold yielded; rw [hd']; simp [this],this⟩
 refine ⟨fun b hb=>?_,fun b hb=>?_,fun vs hvs=>?_⟩
 ·rw [hb] at hev
  generalize hx:a.eval (.tmp d)=x at hev
  cases hev
  exact hbool b hx
 ·rw [hb] at hev
  generalize hx:a.eval (.tmp d)=x at hev
  cases hev
  exact hbool b hx
 ·rw [hvs] at hev
  generalize hx:a.eval (.tmp d)=x at hev
  cases hev with
  | tup _ xs _ _=>
  simp only [Act.eval,j5] at hx
  cases ht:a.tmps[d]? with
  | none=>unfold yielded; rw [hd']; simp [ht]
  | some v=>rw [ht] at hx; simp at hx; subst hx; unfold yielded; rw [hd']; simp [ht]

theorem ly {st:RS} {a:Act} {d:Nat} {b:Bool} (hc:xn C st a w U ρ) (hb:a.tmps[d]?=some (.bool b)):xn C { st with known:=(d,b)::st.known } a w U ρ:=by
 refine ⟨hc.tm,hc.hp,hc.new,fun d' b' h=>?_,hc.df,hc.r0⟩
 rw [x9] at h
 split at h
 ·rename_i he
  cases h
  simp at he; rw [he]; exact hb
 ·exact hc.kn d' b' h

theorem JA {E:bt} (hE:zl E) {ops:List Oper} {st st':RS} {o:Oper} {a:Act} (h:(pf E ops st o).val=some st') (hc:xn C st a w U ρ) (hW:Wd E.gl C w U)
  (K:Act→World→Prop) (Q:Exit→Act→World→Prop) (hK:∀ a' w' U' ρ',xn C st' a' w' U' ρ'→Wd E.gl C w' U'→K a' w'):
  if Region.wanted o (yielded ops.toArray a.tmps) then o.wp E.P a w K Q∨(o.asks E.P a w∧LetsOut Q) else K (a.put o.dst undef) w:=by
 unfold pf at h
 split at h
 ·rename_i hg
  simp only [Region.wanted,hg,if_true]
  exact .inl (tf hE h hc hW K Q hK)
 ·rename_i j want hg
  split at h
  ·rename_i hd
   simp at h; subst h
   have hy:yielded ops.toArray a.tmps j=none:=by
    have hd':(ops.toArray[j]?).bind (·.dst)=none:=by simpa using hd
    unfold yielded; rw [hd']; rfl
   simp only [Region.wanted,hg,hy]
   rw [if_neg (by simp)]
   exact hK _ _ U ρ (kP hc) hW
  ·rename_i d hd
   obtain ⟨hkb,hbb,htt⟩:=Lo (E:=E) hc hW.gl hd
   split at h
   ·rename_i b hb
    obtain ⟨hy,_⟩:=hkb b hb
    simp only [Region.wanted,hg,hy]
    split at h
    ·rename_i hbw
     simp at hbw; subst hbw
     rw [if_pos (by simp)]
     exact .inl (tf hE h hc hW K Q hK)
    ·rename_i hbw
     simp at h; subst h
     rw [if_neg (by simpa using hbw)]
     exact hK _ _ U ρ (kP hc) hW
   ·rename_i vs hvs
    simp at h; subst h
    simp only [Region.wanted,hg,htt vs hvs]
    rw [if_neg (by simp)]
    exact hK _ _ U ρ (kP hc) hW
   ·rename_i b hb
    obtain ⟨hy,hslot⟩:=hbb b hb
    simp only [Region.wanted,hg,hy]
    cases b
    ·simp only [Tr.val,zH,if_false] at h
     cases want
     ·simp only [zH,if_false] at h
      rw [if_pos (by simp)]
      exact .inl (tf hE h (ly hc hslot) hW K Q hK)
     ·simp at h; subst h
      rw [if_neg (by simp)]
      exact hK _ _ U ρ (kP (ly hc hslot)) hW
    ·simp only [Tr.val,if_true] at h
     cases want
     ·simp at h; subst h
      rw [if_neg (by simp)]
      exact hK _ _ U ρ (kP (ly hc hslot)) hW
     ·simp only [if_true] at h
      rw [if_pos (by simp)]
      exact .inl (tf hE h (ly hc hslot) hW K Q hK)
   ·simp at h

theorem vJ {E:bt} (hE:zl E) {ops:List Oper} {Q:Exit→Act→World→Prop} {st':RS} (hQ:∀ a' w' U' ρ',xn C st' a' w' U' ρ'→Wd E.gl C w' U'→Q .normal a' w'):
  ∀ (r:List Oper) (k:Nat) (st:RS) (a:Act) (w:World) (U:Nat→Prop) (ρ:Nat→Option Value),r=ops.drop k→(bT E ops r st).val=some st'→xn C st a w U ρ→Wd E.gl C w U→
   wpOps E.P ops.toArray Q (List.range' k r.length) a w
 | [],k,st,a,w,U,ρ,_,h,hc,hW=>by
  simp [bT] at h; subst h
  exact hQ a w U ρ hc hW
 | o::r,k,st,a,w,U,ρ,hr,h,hc,hW=>by
  simp only [bT,Tr.val_bind,eS] at h
  obtain ⟨st1,h1,h2⟩:=h
  have hget:ops.toArray[k]?=some o:=by
   have:ops[k]?=some o:=by
    have:=congrArg (·[0]?) hr
    simpa [jI] using this.symm
   simpa using this
  have hdrop:r=ops.drop (k+1):=by
   have:=congrArg List.tail hr
   simpa using this
  simp only [oe,List.range'_succ,wpOps,hget]
  exact JA hE h1 hc hW _ _ (fun a' w' U' ρ' hc' hW'=>vJ hE hQ r (k+1) st1 a' w' U' ρ' hdrop h2 hc' hW')

end

structure sY (E:bt) (ops:List Oper) (o:Oper) (s s':RS) (r:x3):Prop where
 /-- what is known of slots is so -/
 tm:∃ v,s'.tmps=mR s.tmps o.dst v
 len:s.heap.length≤s'.heap.length
 way:(∃ (kn:List (Nat×Bool)) (f:ew),(∀ d b,kn.lookup d=some b→s.tmps.getD d .any=.bool b∨s.tmps.getD d .any=.kb b)∧
   (∀ j want,o.guard=some (j,want)→∃ d,(ops[j]?).bind (·.dst)=some d∧(s.tmps.getD d .any=.bool want∨s.tmps.getD d .any=.kb want))∧
   (mB E (qH E s.tmps kn) s.hp s.heap.length o).val=some f∧Dk s.hp (qH E s.tmps kn) o=true∧s'.tmps=mR s.tmps o.dst f.val∧s'.heap=kV s.heap f.wr++f.nw∧
   (∀ p∈f.wr,p.1 < s.heap.length∧p.1∈pO s.hp (qH E s.tmps kn) o)∧r={ fp:=pO s.hp (qH E s.tmps kn) o,wr:=f.wr.map (·.1),base:=s.heap.length,nw:=f.nw.length })∨
  ((∃ j want,o.guard=some (j,want)∧((ops[j]?).bind (·.dst)=none∨∃ d,(ops[j]?).bind (·.dst)=some d∧(s.tmps.getD d .any=.bool (!want)∨s.tmps.getD d .any=.kb (!want)∨∃ vs,s.tmps.getD d .any=.tup vs)))∧
   s'.tmps=mR s.tmps o.dst (.tup [])∧s'.heap=s.heap∧r={})

def N9 (s:RS):Prop:=∀ d b,s.known.lookup d=some b→s.tmps.getD d .any=.bool b∨s.tmps.getD d .any=.kb b

theorem mF {known:List (Nat×Bool)} {d:Option Tmp} {d':Nat} {b:Bool} (h:(oY known d).lookup d'=some b):known.lookup d'=some b∧d≠some d':=by
 cases d with
 | none=>exact ⟨h,by simp⟩
 | some d=>
  simp only [oY] at h
  have key:∀ (k:List (Nat×Bool)),(k.filter fun p=>p.1 != d).lookup d'=some b→d'≠d∧k.lookup d'=some b:=by
   intro k
   induction k with
   | nil=>simp
   | cons p k ih=>
    intro hk
    rw [List.filter_cons] at hk
    split at hk
    ·rename_i hp
     rw [x9] at hk ⊢
     split at hk
     ·rename_i he
      cases hk
      simp at hp he
      exact ⟨by rw [he]; exact hp,by simp⟩
     ·rename_i he
      obtain ⟨h1,h2⟩:=ih hk
      exact ⟨h1,h2⟩
    ·rename_i hp
     obtain ⟨h1,h2⟩:=ih hk
     refine ⟨h1,?_⟩
     rw [x9]
     have:(d'==p.1)=false:=by
      simp at hp
      simp [hp,h1]
     rw [this]; exact h2
  obtain ⟨h1,h2⟩:=key known h
  exact ⟨h2,by simp; exact fun e=>h1 e.symm⟩

theorem nE {tmps:List AV} {d:Option Tmp} {v:AV} {s:Nat} (h:d≠some s):(mR tmps d v).getD s .any=tmps.getD s .any:=by
 cases d with
 | none=>rfl
 | some d=>
  simp only [mR,aJ]
  rw [pj (by simpa using h)]

theorem N9.step {s:RS} {o:Oper} {tm:List AV} {v:AV} (h:N9 s) (htm:tm=mR s.tmps o.dst v):∀ d b,(oY s.known o.dst).lookup d=some b→tm.getD d .any=.bool b∨tm.getD d .any=.kb b:=by
 intro d b hl
 obtain ⟨h1,h2⟩:=mF hl
 rw [htm,nE h2]
 exact h d b h1

theorem pP {E:bt} {ops:List Oper} {o:Oper} {s s':RS} (kn:List (Nat×Bool)) (h:(xI E o { s with known:=kn }).val=some s') (hk:∀ d b,kn.lookup d=some b→s.tmps.getD d .any=.bool b∨s.tmps.getD d .any=.kb b)
  (hg:∀ j want,o.guard=some (j,want)→∃ d,(ops[j]?).bind (·.dst)=some d∧(s.tmps.getD d .any=.bool want∨s.tmps.getD d .any=.kb want)):∃ r,sY E ops o s s' r∧s'.log=s.log++[r]∧N9 s':=by
 unfold xI at h
 split at h
 ·rename_i hfp
  simp only [Tr.val_bind,eS] at h
  obtain ⟨f,hf,h⟩:=h
  split at h
  ·rename_i hwl
   simp at h; subst h
   refine ⟨_,⟨⟨f.val,rfl⟩,by simp [bf],.inl ⟨kn,f,hk,hg,hf,hfp,rfl,rfl,?_,rfl⟩⟩,rfl,?_⟩
   ·intro p hp
    simp only [cX,aL,ae,t8] at hwl
    exact hwl p hp
   ·intro d b hl
    obtain ⟨h1,h2⟩:=mF hl
    show (mR s.tmps o.dst f.val).getD d .any=.bool b∨(mR s.tmps o.dst f.val).getD d .any=.kb b
    rw [nE h2]
    exact hk d b h1
  ·simp at h
 ·simp at h

theorem jA {E:bt} {ops:List Oper} {o:Oper} {s:RS} (kn:List (Nat×Bool)) (hk:∀ d b,kn.lookup d=some b→s.tmps.getD d .any=.bool b∨s.tmps.getD d .any=.kb b)
  (hg:∃ j want,o.guard=some (j,want)∧((ops[j]?).bind (·.dst)=none∨∃ d,(ops[j]?).bind (·.dst)=some d∧(s.tmps.getD d .any=.bool (!want)∨s.tmps.getD d .any=.kb (!want)∨∃ vs,s.tmps.getD d .any=.tup vs))):
  ∃ r,sY E ops o s (kf o { s with known:=kn }) r∧(kf o { s with known:=kn }).log=s.log++[r]∧N9 (kf o { s with known:=kn }):=by
 refine ⟨{},⟨⟨_,rfl⟩,bd _,.inr ⟨hg,rfl,rfl,rfl⟩⟩,rfl,?_⟩
 intro d b hl
 obtain ⟨h1,h2⟩:=mF hl
 show (mR s.tmps o.dst (.tup [])).getD d .any=.bool b∨(mR s.tmps o.dst (.tup [])).getD d .any=.kb b
 rw [nE h2]
 exact hk d b h1

theorem w3 {E:bt} {ops:List Oper} {o:Oper} {s s':RS} (h:(pf E ops s o).val=some s') (hk:N9 s):∃ r,sY E ops o s s' r∧s'.log=s.log++[r]∧N9 s':=by
 have slot:∀ d x,qH E s.tmps s.known (.tmp d)=x→(∀ b,x=.bool b→s.tmps.getD d .any=.bool b)∧(∀ b,x=.kb b→s.tmps.getD d .any=.bool b∨s.tmps.getD d .any=.kb b)∧(∀ vs,x=.tup vs→s.tmps.getD d .any=.tup vs):=by
  intro d x hx
  simp only [qH] at hx
  cases hl:s.known.lookup d with
  | some b=>
   rw [hl] at hx
   subst hx
   exact ⟨by simp,fun b' hb=>by cases hb; exact hk d _ hl,by simp⟩
  | none=>
   rw [hl] at hx
   subst hx
   exact ⟨fun _ h=>h,fun _ h=>.inr h,fun _ h=>h⟩
 unfold pf at h
 split at h
 ·rename_i hg
  exact pP s.known h hk (fun j want hh=>by rw [hg] at hh; cases hh)
 ·rename_i j want hg
  split at h
  ·rename_i hd
   simp at h; subst h
   exact jA s.known hk ⟨j,want,hg,.inl hd⟩
  ·rename_i d hd
   split at h
   ·rename_i b hb
    have hs:=(slot d _ hb).2.1 b rfl
    split at h
    ·rename_i hbw
     simp at hbw; subst hbw
     exact pP s.known h hk (fun j' want' hh=>by rw [hg] at hh; cases hh; exact ⟨d,hd,hs⟩)
    ·rename_i hbw
     simp at h; subst h
     have:b = !want:=by revert hbw; cases b <;> cases want <;> simp
     subst this
     exact jA s.known hk ⟨j,want,hg,.inr ⟨d,hd,hs.elim .inl (fun h=>.inr (.inl h))⟩⟩
   ·rename_i vs hvs
    simp at h; subst h
    exact jA s.known hk ⟨j,want,hg,.inr ⟨d,hd,.inr (.inr ⟨vs,(slot d _ hvs).2.2 vs rfl⟩)⟩⟩
   ·rename_i b hb
    have hs:=(slot d _ hb).1 b rfl
    have hk':∀ x,x=b→∀ d' b',((d,x)::s.known).lookup d'=some b'→s.tmps.getD d' .any=.bool b'∨s.tmps.getD d' .any=.kb b':=by
     intro x hx d' b' hl
     rw [x9] at hl
     split at hl
     ·rename_i he
      cases hl
      simp at he; rw [he,hx]; exact .inl hs
     ·exact hk d' b' hl
    cases b
    ·simp only [Tr.val,zH,if_false] at h
     cases want
     ·simp only [zH,if_false] at h
      exact pP _ h (hk' false rfl) (fun j' want' hh=>by rw [hg] at hh; cases hh; exact ⟨d,hd,.inl hs⟩)
     ·simp at h; subst h
      exact jA _ (hk' false rfl) ⟨j,true,hg,.inr ⟨d,hd,.inl hs⟩⟩
    ·simp only [Tr.val,if_true] at h
     cases want
     ·simp at h; subst h
      exact jA _ (hk' true rfl) ⟨j,false,hg,.inr ⟨d,hd,.inl hs⟩⟩
     ·simp only [if_true] at h
      exact pP _ h (hk' true rfl) (fun j' want' hh=>by rw [hg] at hh; cases hh; exact ⟨d,hd,.inl hs⟩)
   ·simp at h

theorem ow {E:bt} {ops:List Oper}:∀ (r:List Oper) (s sN:RS),(bT E ops r s).val=some sN→N9 s→∃ (S:Nat→RS) (R:Nat→x3),S 0=s∧S r.length=sN∧
  (∀ i o,r[i]?=some o→sY E ops o (S i) (S (i+1)) (R i))∧sN.log=s.log++(List.range r.length).map R∧N9 sN
 | [],s,sN,h,hk=>by
  simp [bT] at h; subst h
  exact ⟨fun _=>s,fun _=>{},rfl,rfl,by simp,by simp,hk⟩
 | o::r,s,sN,h,hk=>by
  simp only [bT,Tr.val_bind,eS] at h
  obtain ⟨s1,h1,h2⟩:=h
  obtain ⟨r0,hd,hlog,hk1⟩:=w3 h1 hk
  obtain ⟨S,R,e0,eN,hS,hL,hkN⟩:=ow r s1 sN h2 hk1
  refine ⟨fun i=>match i with | 0=>s | i+1=>S i,fun i=>match i with | 0=>r0 | i+1=>R i,rfl,eN,?_,?_,hkN⟩
  ·intro i o' ho
   cases i with
   | zero=>simp at ho; subst ho; simpa [e0] using hd
   | succ i=>exact hS i o' (by simpa using ho)
  ·rw [hL,hlog]
   simp [List.range_succ_eq_map,rV]


inductive Ob (ops:List Oper):Nat→Nat→Prop
 | edge {j:Nat} {o:Oper} {e:Edge} (ho:ops[j]?=some o) (he:e∈o.after.toList) (hb:Region.binds .any e=true):Ob ops e.on j
 | step {i j:Nat} {o:Oper} {e:Edge} (ho:ops[j]?=some o) (he:e∈o.after.toList) (hb:Region.binds .any e=true) (h:Ob ops i e.on):Ob ops i j

theorem AB {ops:List Oper}:∀ (r:List Oper) (acc:List (List Nat)),r=ops.drop acc.length→(∀ j i,i∈acc.getD j []→Ob ops i j)→∀ j i,i∈(Pi r acc).getD j []→Ob ops i j
 | [],acc,_,h=>h
 | o :: r,acc,hr,h=>by
  simp only [Pi]
  have hget:ops[acc.length]?=some o:=by
   have:=congrArg (·[0]?) hr
   simpa [jI] using this.symm
  refine AB r _ (by
   have:=congrArg List.tail hr
   simpa using this) ?_
  intro j i hi
  rw [aJ] at hi
  by_cases hj:j < acc.length
  ·rw [j6 hj,← aJ] at hi
   exact h j i hi
  ·by_cases hj':j=acc.length
   ·subst hj'
    rw [lc (bd _)] at hi
    simp only [Nat.sub_self,List.getElem?_cons_zero,bP,Cx] at hi
    obtain ⟨e,he,hi⟩:=hi
    split at hi
    ·rename_i hb
     rcases cY.1 hi with rfl | hi
     ·exact .edge hget he hb
     ·exact .step hget he hb (h _ _ hi)
    ·simp at hi
   ·rw [dd (by simp; omega)] at hi
    simp at hi

section
variable {E:bt} {C:cH} {ops:List Oper} {S:Nat→RS} {R:Nat→x3}

structure mo (E:bt) (C:cH) (ops:List Oper) (S:Nat→RS) (R:Nat→x3) (L:Nat→Prop) (a:Act) (w:World) (U:Nat→Prop) (ρ:Nat→Option Value) (hpD:Nat→AO):Prop where
 cl:∀ (j:Nat) (o:Oper) (e:Edge),ops[j]?=some o→L j→e∈o.after.toList→Region.binds .any e=true→L e.on
 W:Wd E.gl C w U
 H:gY C w U ρ hpD
 tl:a.tmps.size=(S 0).tmps.length
 tm:∀ (s k:Nat),k≤ops.length→(∀ (j:Nat) (o:Oper),ops[j]?=some o→o.dst=some s→(L j↔j < k))→Rv w U ρ ((S k).tmps.getD s .any) (a.tmps.getD s undef)
 hp:∀ (id k:Nat),k≤ops.length→(∀ j,j < ops.length→bL (R j) id=true→(L j↔j < k))→(S k).hp id=hpD id
 rn:∀ id,(S 0).heap.length≤id→(∀ j,j < ops.length→L j→eE (R j) id=false)→ρ id=none
 df:a.defers=[]
 r0:∀ id v,C.ρ0 id=some v→ρ id=some v

theorem sY.slots {o:Oper} {s s':RS} {r:x3} (h:sY E ops o s s' r) {t:Nat} (ht:o.dst≠some t):s'.tmps.getD t .any=s.tmps.getD t .any:=by
 obtain ⟨v,hv⟩:=h.tm
 rw [hv,nE ht]

theorem sY.tlen {o:Oper} {s s':RS} {r:x3} (h:sY E ops o s s' r):s'.tmps.length=s.tmps.length:=by
 obtain ⟨v,hv⟩:=h.tm
 rw [hv]
 cases o.dst <;> simp [mR]

theorem sY.wrfp {o:Oper} {s s':RS} {r:x3} (h:sY E ops o s s' r):∀ id∈r.wr,id∈r.fp:=by
 rcases h.way with ⟨kn,f,_,_,_,_,_,_,hw,rfl⟩ | ⟨_,_,_,rfl⟩
 ·intro id hid
  simp only [fe] at hid
  obtain ⟨p,hp,rfl⟩:=hid
  exact (hw p hp).2
 ·simp

theorem sY.news {o:Oper} {s s':RS} {r:x3} (h:sY E ops o s s' r) {id:Nat} (hn:eE r id=true):s.heap.length≤id∧id < s'.heap.length:=by
 rcases h.way with ⟨kn,f,_,_,_,_,_,hh,hw,rfl⟩ | ⟨_,_,_,rfl⟩
 ·simp [eE] at hn
  rw [hh]
  simp [bf]
  omega
 ·simp [eE] at hn

theorem sY.objs {o:Oper} {s s':RS} {r:x3} (h:sY E ops o s s' r) {id:Nat} (ht:bL r id=false):s'.hp id=s.hp id:=by
 rcases h.way with ⟨kn,f,_,_,_,_,_,hh,hw,rfl⟩ | ⟨_,_,hh,rfl⟩
 ·simp [bL,eE] at ht
  obtain ⟨h1,h2⟩:=ht
  simp only [RS.hp,hh]
  by_cases hid:id < s.heap.length
  ·rw [aJ,j6 (by rw [bf]; exact hid),← aJ]
   exact nW f.wr s.heap id (fun ⟨o',ho'⟩=>h1 o' ho')
  ·rw [aJ,aJ,dd (by simp [bf]; have:=h2 (by omega); omega),dd (by omega)]
 ·simp only [RS.hp,hh]

theorem kg (hS:∀ (i:Nat) (o:Oper),ops[i]?=some o→sY E ops o (S i) (S (i+1)) (R i)) {s:Nat}:∀ (d i:Nat),i+d≤ops.length→(∀ (j:Nat) (o:Oper),ops[j]?=some o→o.dst=some s→i≤j→j < i+d→False)→
  (S (i+d)).tmps.getD s .any=(S i).tmps.getD s .any
 | 0,_,_,_=>rfl
 | d+1,i,hle,h=>by
  have hlt:i+d < ops.length:=by omega
  have hget:ops[i+d]?=some ops[i+d]:=zJ hlt
  rw [show i+(d+1)=(i+d)+1 by omega,(hS _ _ hget).slots (fun e=>h _ _ hget e (by omega) (by omega))]
  exact kg hS d i (by omega) (fun j o ho hd h1 h2=>h j o ho hd h1 (by omega))

theorem iO (hS:∀ (i:Nat) (o:Oper),ops[i]?=some o→sY E ops o (S i) (S (i+1)) (R i)) {id:Nat}:∀ (d i:Nat),i+d≤ops.length→(∀ j,i≤j→j < i+d→bL (R j) id=false)→
  (S (i+d)).hp id=(S i).hp id
 | 0,_,_,_=>rfl
 | d+1,i,hle,h=>by
  have hlt:i+d < ops.length:=by omega
  have hget:ops[i+d]?=some ops[i+d]:=zJ hlt
  rw [show i+(d+1)=(i+d)+1 by omega,(hS _ _ hget).objs (h _ (by omega) (by omega))]
  exact iO hS d i (by omega) (fun j h1 h2=>h j h1 (by omega))

theorem jg (hS:∀ (i:Nat) (o:Oper),ops[i]?=some o→sY E ops o (S i) (S (i+1)) (R i)):∀ (d i:Nat),i+d≤ops.length→(S i).heap.length≤(S (i+d)).heap.length
 | 0,_,_=>bd _
 | d+1,i,hle=>by
  have hlt:i+d < ops.length:=by omega
  have hget:ops[i+d]?=some ops[i+d]:=zJ hlt
  exact cv (jg hS d i (by omega)) (hS _ _ hget).len

theorem w8 (hS:∀ (i:Nat) (o:Oper),ops[i]?=some o→sY E ops o (S i) (S (i+1)) (R i)):∀ i,i≤ops.length→(S i).tmps.length=(S 0).tmps.length
 | 0,_=>rfl
 | i+1,h=>by
  have hget:ops[i]?=some ops[i]:=zJ h
  rw [(hS _ _ hget).tlen,w8 hS i (by omega)]

theorem wa (hS:∀ (i:Nat) (o:Oper),ops[i]?=some o→sY E ops o (S i) (S (i+1)) (R i)) {i j id:Nat} (hi:i < ops.length) (hj:j < ops.length) (h1:eE (R i) id=true) (h2:eE (R j) id=true):i=j:=by
 have gi:=(hS i _ (zJ hi)).news h1
 have gj:=(hS j _ (zJ hj)).news h2
 rcases Nat.lt_trichotomy i j with h | h | h
 ·have:=jg hS (j - (i+1)) (i+1) (by omega)
  rw [show i+1+(j - (i+1))=j by omega] at this
  omega
 ·exact h
 ·have:=jg hS (i - (j+1)) (j+1) (by omega)
  rw [show j+1+(i - (j+1))=i by omega] at this
  omega

structure J8 (ops:List Oper) (R:Nat→x3) (i j:Nat) (a:Nat) (oi oj:Oper):Prop where
 hi:ops[i]?=some oi
 hj:ops[j]?=some oj
 opi:∃ t x k,oi.op=.lookup t x k false
 opj:∃ t m k,oj.op=.mapEntry t m k
 fpi:(R i).fp=[a]
 wri:(R i).wr=[]
 nwi:(R i).nw=0
 wrj:(R j).wr=[a]
 nwj:(R j).nw=0
 sl:(fX oi.dst.toList (dU ops oj)||fX oi.dst.toList oj.dst.toList||fX (dU ops oi) oj.dst.toList)=false
 lt:i < j
 oth:∀ l,l < ops.length→bL (R l) a=true→l < i∨l=j∨(j < l∧Ob ops i l)

structure jF (ops:List Oper) (R:Nat→x3):Prop where
 back:∀ (j:Nat) (o:Oper) (e:Edge),ops[j]?=some o→e∈o.after.toList→Region.binds .any e=true→e.on < j
 anc:∀ (i j:Nat) (oi oj:Oper),i < j→ops[i]?=some oi→ops[j]?=some oj→pz ops oi oj (R i) (R j)=true→Ob ops i j∨∃ a,J8 ops R i j a oi oj

theorem FB {log:List x3} (h:p0 ops log=true) (hlog:log=(List.range ops.length).map R):jF ops R:=by
 unfold p0 at h
 simp only [aL,cX] at h
 obtain ⟨h1,h2⟩:=h
 constructor
 ·intro j o e ho he hb
  have hlt:j < ops.length:=(bM.1 ho).1
  have hmem:(o,j)∈ops.zipIdx:=by
   rw [List.mem_zipIdx_iff_getElem?]
   exact ho
  have:=h1 _ hmem e he
  simpa [hb] using this
 ·intro i j oi oj hij hi hj hc
  have hlt:j < ops.length:=(bM.1 hj).1
  have:=h2 j (uh.2 hlt) i (uh.2 hij)
  have lk:∀ k,k < ops.length→log[k]?=some (R k):=by intro k hk; rw [hlog]; simp [x7 hk]
  have li:log[i]?=some (R i):=lk i (by omega)
  have lj:log[j]?=some (R j):=lk j hlt
  simp only [hi,hj,li,lj,hc,fG,Bool.false_or,rX,t8] at this
  rcases this with this | this
  ·exact .inl (AB ops [] (by simp) (by simp) j i this)
  ·unfold NT at this
   split at this
   ·rename_i t x k t' m k' a b e1 e2 e3 e4
    simp only [aL,Bool.not_eq_true',eT,cX,List.isEmpty_iff,uh] at this
    obtain ⟨⟨⟨⟨⟨t1,t2⟩,t3⟩,t4⟩,t5⟩,t6⟩:=this
    subst t1
    refine .inr ⟨b,hi,hj,⟨t,x,k,e1⟩,⟨t',m,k',e2⟩,e3,t2,t3,e4,t4,t5,hij,fun l hl ht=>?_⟩
    have:=t6 l hl
    rw [lk l hl] at this
    simp only [ht,fG,Bool.false_or,rX,ae,eT,aL,t8] at this
    rcases this with (this | this) | ⟨this,ha⟩
    ·exact .inl this
    ·exact .inr (.inl this)
    ·exact .inr (.inr ⟨this,AB ops [] (by simp) (by simp) l i ha⟩)
   ·cases this

theorem J8.touch {i j a:Nat} {oi oj:Oper} (h:J8 ops R i j a oi oj) (id:Nat):bL (R i) id=false:=by
 unfold bL eE
 rw [h.wri,h.nwi]
 simp

theorem nC {a b:List Nat}:fX a b=true↔∃ x,x∈a∧x∈b:=by simp [fX]

variable {L:Nat→Prop} {a:Act} {w:World} {U:Nat→Prop} {ρ:Nat→Option Value} {hpD:Nat→AO}

theorem mo.anc (h:mo E C ops S R L a w U ρ hpD) {i j:Nat} (ha:Ob ops i j) (hj:L j):L i:=by
 induction ha with
 | edge ho he hb=>exact h.cl _ _ _ ho hj he hb
 | step ho he hb _ ih=>exact ih (h.cl _ _ _ ho hj he hb)

theorem mo.ready (h:mo E C ops S R L a w U ρ hpD) {i j:Nat} {o:Oper} (ho:ops[j]?=some o) (hr:∀ e∈o.after.toList,Region.binds .any e=true→L e.on) (ha:Ob ops i j):L i:=by
 cases ha with
 | edge ho' he hb=>rw [ho] at ho'; cases ho'; exact hr _ he hb
 | step ho' he hb hs=>rw [ho] at ho'; cases ho'; exact h.anc hs (hr _ he hb)

theorem mo.slotAt (hO:jF ops R) (h:mo E C ops S R L a w U ρ hpD) {i:Nat} {o:Oper} (ho:ops[i]?=some o) (hn:¬ L i) (hr:∀ e∈o.after.toList,Region.binds .any e=true→L e.on) {s:Nat}
  (hs:s∈dU ops o∨o.dst=some s):∀ (j:Nat) (oj:Oper),ops[j]?=some oj→oj.dst=some s→(L j↔j < i):=by
 intro j oj hoj hd
 constructor
 ·intro hL
  rcases Nat.lt_trichotomy j i with hlt | rfl | hlt
  ·exact hlt
  ·exact (hn hL).elim
  ·exfalso
   have hc:(fX o.dst.toList (dU ops oj)||fX o.dst.toList oj.dst.toList||fX (dU ops o) oj.dst.toList)=true:=by
    simp only [rX,nC]
    rcases hs with hs | hs
    ·exact .inr ⟨s,hs,by simp [hd]⟩
    ·exact .inl (.inr ⟨s,by simp [hs],by simp [hd]⟩)
   rcases hO.anc i j o oj hlt ho hoj (by unfold pz; simp only [hc,Bool.true_or]) with ha | ⟨b,hb⟩
   ·exact hn (h.anc ha hL)
   ·rw [hb.sl] at hc; cases hc
 ·intro hlt
  have hc:(fX oj.dst.toList (dU ops o)||fX oj.dst.toList o.dst.toList||fX (dU ops oj) o.dst.toList)=true:=by
   simp only [rX,nC]
   rcases hs with hs | hs
   ·exact .inl (.inl ⟨s,by simp [hd],hs⟩)
   ·exact .inl (.inr ⟨s,by simp [hd],by simp [hs]⟩)
  rcases hO.anc j i oj o hlt hoj ho (by unfold pz; simp only [hc,Bool.true_or]) with ha | ⟨b,hb⟩
  ·exact h.ready ho hr ha
  ·rw [hb.sl] at hc; cases hc

theorem mo.objAt (hS:∀ (i:Nat) (o:Oper),ops[i]?=some o→sY E ops o (S i) (S (i+1)) (R i)) (hO:jF ops R) (h:mo E C ops S R L a w U ρ hpD) {i:Nat} {o:Oper} (ho:ops[i]?=some o) (hn:¬ L i)
  (hr:∀ e∈o.after.toList,Region.binds .any e=true→L e.on) {id:Nat} (hs:id∈(R i).fp∨bL (R i) id=true) (hns:∀ j a oj,¬ (J8 ops R i j a o oj∧L j)):∀ j,j < ops.length→bL (R j) id=true→(L j↔j < i):=by
 intro j hj ht
 have hi:i < ops.length:=(bM.1 ho).1
 have hoj:ops[j]?=some ops[j]:=zJ hj
 have hwi:=(hS i o ho).wrfp
 have hwj:=(hS j _ hoj).wrfp
 have tj:id∈(R j).wr∨eE (R j) id=true:=by simpa [bL] using ht
 have ti:id∈(R i).fp∨eE (R i) id=true:=by
  rcases hs with hs | hs
  ·exact .inl hs
  ·have:id∈(R i).wr∨eE (R i) id=true:=by simpa [bL] using hs
   exact this.imp (hwi id) (fun x=>x)
 by_cases hij:i=j
 ·subst hij
  exact ⟨fun h'=>(hn h').elim,fun h'=>absurd h' (Nat.lt_irrefl _)⟩
 have hclash:∀ (oi oj:Oper),pz ops oi oj (R i) (R j)=true∧pz ops oj oi (R j) (R i)=true:=by
  intro oi oj
  unfold pz
  simp only [rX,nC,List.any_eq_true]
  rcases ti with ti | ti <;> rcases tj with tj | tj
  ·exact ⟨.inl (.inl (.inr ⟨id,ti,tj⟩)),.inl (.inl (.inl (.inr ⟨id,tj,ti⟩)))⟩
  ·exact ⟨.inr ⟨id,ti,tj⟩,.inl (.inr ⟨id,ti,tj⟩)⟩
  ·exact ⟨.inl (.inr ⟨id,hwj id tj,ti⟩),.inr ⟨id,hwj id tj,ti⟩⟩
  ·exact (hij (wa hS hi hj ti tj)).elim
 constructor
 ·intro hL
  rcases Nat.lt_or_gt_of_ne hij with hlt | hlt
  ·rcases hO.anc i j o _ hlt ho hoj (hclash o _).1 with ha | ⟨b,hb⟩
   ·exact (hn (h.anc ha hL)).elim
   ·exact (hns _ _ _ ⟨hb,hL⟩).elim
  ·exact hlt
 ·intro hlt
  rcases hO.anc j i _ o hlt hoj ho (hclash o _).2 with ha | ⟨b,hb⟩
  ·exact h.ready ho hr ha
  ·rw [hb.touch id] at ht; cases ht

theorem JI (es:List ((Int×Int×zo)×Int)) (v k:Int×Int×zo):eY (iw es v) k=eY es k:=by
 unfold iw
 cases fN es v with
 | true=>rfl
 | false=>
  simp only [bQ,eY,List.find?_append]
  cases es.find? (fun p=>k==p.1) with
  | some p=>rfl
  | none=>
   simp only [Option.none_or,List.find?_cons,List.find?_nil]
   split <;> rfl

theorem xG {P:Program} {hp hp':Nat→AO} {t:TypeId} {x i:AV} {f:ew} {b:Nat} {es:List ((Int×Int×zo)×Int)} {v:Int×Int×zo} (h:(jp P hp t x i false).val=some f) (hx:∀ id∈x.ids,id=b)
  (h1:hp b=.vmap false es) (h2:hp' b=.vmap false (iw es v)):(jp P hp' t x i false).val=some f:=by
 cases x with
 | mp id=>
  have:id=b:=hx id (by simp [AV.ids])
  subst this
  unfold jp at h ⊢
  cases hu:P.underlying t with
  | none=>simp [hu] at h
  | some u=>
   cases u with
   | map kt et=>
    simp only [hu] at h ⊢
    cases hk:P.underlying kt with
    | none=>simp [hk] at h
    | some ku=>
     cases ku with
     | string=>simp only [hk] at h; cases i <;> simp [h1] at h
     | struct fs=>
      simp only [hk] at h ⊢
      split at h
      ·rename_i hv
       rw [if_pos hv]
       cases hvk:JJ i with
       | none=>simp [hvk] at h
       | some v1=>
        simp only [hvk,h1,zH,if_false] at h
        simp only [h2,zH,if_false,JI]
        exact h
      ·simp at h
     | _=>simp [hk] at h
   | _=>simp [hu] at h
 | _=>
  exfalso
  unfold jp at h
  split at h
  ·split at h
   ·split at h <;> simp_all
   ·split at h
    ·split at h <;> simp_all
    ·simp at h
   ·simp at h
  ·simp at h

end
section
variable {E:bt} {C:cH} {ops:List Oper} {S:Nat→RS} {R:Nat→x3} {L:Nat→Prop} {a:Act} {w:World} {U:Nat→Prop} {ρ:Nat→Option Value} {hpD:Nat→AO}

theorem M6 {a:Act} {d:Option Tmp} {v:Value} {s:Nat} (h:d≠some s):(a.put d v).tmps.getD s undef=a.tmps.getD s undef:=by
 cases d with
 | none=>rfl
 | some d=>
  simp only [Act.put,j5]
  rw [Array.getElem?_setIfInBounds_ne (by simpa using h)]

theorem M7 {a:Act} {d:Option Tmp} {v:Value}:(a.put d v).tmps.size=a.tmps.size:=by
 cases d <;> simp [Act.put]

theorem FE {a:Act} {d:Option Tmp} {v:Value}:(a.put d v).defers=a.defers:=by
 cases d <;> rfl

theorem DE {a:Act} {s:Nat} {v:Value} {c:AV} {tmps:List AV} (hl:tmps.length=a.tmps.size) (h:Rv w U ρ c v):Rv w U ρ ((mR tmps (some s) c).getD s .any) ((a.put (some s) v).tmps.getD s undef):=by
 simp only [mR,Act.put,aJ,j5]
 by_cases hs:s < tmps.length
 ·rw [lP hs,Array.getElem?_setIfInBounds_self_of_lt (by omega)]
  exact h
 ·rw [jJ,if_pos rfl,if_neg hs]
  exact .any _

theorem mo.next (hS:∀ (i:Nat) (o:Oper),ops[i]?=some o→sY E ops o (S i) (S (i+1)) (R i)) (hO:jF ops R) (h:mo E C ops S R L a w U ρ hpD) {i:Nat} {o:Oper} (ho:ops[i]?=some o) (hn:¬ L i)
  (hr:∀ e∈o.after.toList,Region.binds .any e=true→L e.on) {v:Value} {w':World} {U':Nat→Prop} {ρ':Nat→Option Value} {hpD':Nat→AO} (hW:Wd E.gl C w' U') (hH:gY C w' U' ρ' hpD')
  (mono:∀ {c:AV} {x:Value},Rv w U ρ c x→Rv w' U' ρ' c x) (hv:∀ s,o.dst=some s→Rv w' U' ρ' ((S (i+1)).tmps.getD s .any) ((a.put o.dst v).tmps.getD s undef))
  (hobj:∀ id,hpD' id=if bL (R i) id then (S (i+1)).hp id else hpD id) (hrho:∀ id,eE (R i) id=false→ρ' id=ρ id) (hrhon:∀ id v,ρ id=some v→ρ' id=some v):
  mo E C ops S R (fun j=>L j∨j=i) (a.put o.dst v) w' U' ρ' hpD':=by
 have hi:i < ops.length:=(bM.1 ho).1
 refine ⟨?_,hW,hH,by rw [M7]; exact h.tl,?_,?_,?_,by rw [FE]; exact h.df,fun id v h'=>hrhon id v (h.r0 id v h')⟩
 ·intro j oj e hoj hL he hb
  rcases hL with hL | rfl
  ·exact .inl (h.cl j oj e hoj hL he hb)
  ·rw [ho] at hoj; cases hoj
   exact .inl (hr e he hb)
 ·intro s k hk hcons
  by_cases hd:o.dst=some s
  ·have hik:i < k:=(hcons i o ho hd).1 (.inr rfl)
   have hno:∀ (j:Nat) (oj:Oper),ops[j]?=some oj→oj.dst=some s→i+1≤j→j < k→False:=by
    intro j oj hoj hdj h1 h2
    have hLj:=(hcons j oj hoj hdj).2 h2
    rcases hLj with hLj | rfl
    ·have:=(h.slotAt hO ho hn hr (.inr hd) j oj hoj hdj).1 hLj
     omega
    ·omega
   have hb:=kg hS (s:=s) (k - (i+1)) (i+1) (by omega) (fun j oj hoj hdj h1 h2=>hno j oj hoj hdj h1 (by omega))
   rw [show i+1+(k - (i+1))=k by omega] at hb
   rw [hb]
   exact hv s hd
  ·rw [M6 hd]
   refine mono (h.tm s k hk (fun j oj hoj hdj=>?_))
   have:=hcons j oj hoj hdj
   have hne:j≠i:=by rintro rfl; rw [ho] at hoj; cases hoj; exact hd hdj
   exact ⟨fun hL=>this.1 (.inl hL),fun hlt=>(this.2 hlt).resolve_right hne⟩
 ·intro id k hk hcons
  rw [hobj id]
  by_cases ht:bL (R i) id=true
  ·rw [if_pos ht]
   have hik:i < k:=(hcons i hi ht).1 (.inr rfl)
   have hb:=iO hS (id:=id) (k - (i+1)) (i+1) (by omega) (fun j h1 h2=>by
    by_cases htj:bL (R j) id=true
    ·exfalso
     have hLj:=(hcons j (by omega) htj).2 (by omega)
     rcases hLj with hLj | rfl
     ·have:=(h.objAt hS hO ho hn hr (.inr ht) (fun _ _ _ hh=>by rw [hh.1.touch id] at ht; cases ht) j (by omega) htj).1 hLj
      omega
     ·omega
    ·simpa using htj)
   rw [show i+1+(k - (i+1))=k by omega] at hb
   exact hb
  ·rw [if_neg ht]
   refine h.hp id k hk (fun j hj htj=>?_)
   have:=hcons j hj htj
   have hne:j≠i:=by rintro rfl; exact ht htj
   exact ⟨fun hL=>this.1 (.inl hL),fun hlt=>(this.2 hlt).resolve_right hne⟩
 ·intro id h0 hnew
  have hi':=hnew i hi (.inr rfl)
  rw [hrho id hi']
  exact h.rn id h0 (fun j hj hL=>hnew j hj (.inl hL))

theorem Ba {P:Program} {hp:Nat→AO} {t:TypeId} {m k:AV} {f:ew} {b:Nat} (h:(pJ P hp t m k).val=some f) (hw:f.wr.map (·.1)=[b]):
  ∃ es v,hp b=.vmap false es∧f.wr=[(b,.vmap false (iw es v))]∧f.nw=[]:=by
 unfold pJ at h
 split at h
 ·split at h
  ·split at h
   ·rename_i id v _
    split at h
    ·rename_i es hid
     split at h
     ·split at h
      ·simp only [Tr.val] at h
       split at h
       ·simp only [ao] at h
        subst h
        simp at hw
        subst hw
        exact ⟨es,v,hid,rfl,rfl⟩
       ·cases h
      ·simp at h
     ·simp at h
    ·simp at h
   ·simp at h
  ·simp at h
 ·simp at h

theorem mo.objX (hS:∀ (i:Nat) (o:Oper),ops[i]?=some o→sY E ops o (S i) (S (i+1)) (R i)) (hO:jF ops R) (h:mo E C ops S R L a w U ρ hpD) {i:Nat} {o:Oper} (ho:ops[i]?=some o) (hn:¬ L i)
  (hr:∀ e∈o.after.toList,Region.binds .any e=true→L e.on) {kn:List (Nat×Bool)} {f:ew} {n:Nat} (hf:(mB E (qH E (S i).tmps kn) (S i).hp n o).val=some f) (hRfp:(R i).fp=pO (S i).hp (qH E (S i).tmps kn) o)
  (hfp:Dk (S i).hp (qH E (S i).tmps kn) o=true):∃ hpX:Nat→AO,(mB E (qH E (S i).tmps kn) hpX n o).val=some f∧(∀ id,id∈(R i).fp∨bL (R i) id=true→hpX id=hpD id)∧
   (oM o.op=true→∀ id∈(R i).fp,∀ j∈(hpX id).ids,j∈(R i).fp):=by
 have hi:i < ops.length:=(bM.1 ho).1
 obtain ⟨hin,hcl⟩:=vP hfp
 by_cases hs:∃ j b oj,J8 ops R i j b o oj∧L j
 ·obtain ⟨j,b,oj,hs,hLj⟩:=hs
  have hjl:j < ops.length:=(bM.1 hs.hj).1
  have hlt:=hs.lt
  have hcons:∀ l,l < ops.length→bL (R l) b=true→(L l↔l < j+1):=by
   intro l hl ht
   rcases hs.oth l hl ht with h1 | rfl | ⟨h1,h2⟩
   ·refine ⟨fun _=>by omega,fun _=>?_⟩
    have hc:pz ops ops[l] o (R l) (R i)=true:=by
     unfold pz
     simp only [rX,nC,List.any_eq_true]
     have tl:b∈(R l).wr∨eE (R l) b=true:=by simpa [bL] using ht
     have bi:b∈(R i).fp:=by rw [hs.fpi]; simp
     rcases tl with tl | tl
     ·exact .inl (.inl (.inl (.inr ⟨b,tl,bi⟩)))
     ·exact .inl (.inr ⟨b,bi,tl⟩)
    rcases hO.anc l i _ o h1 (zJ hl) ho hc with ha | ⟨b',hb'⟩
    ·exact h.ready ho hr ha
    ·rw [hb'.touch b] at ht; cases ht
   ·exact ⟨fun _=>by omega,fun _=>hLj⟩
   ·exact ⟨fun hL=>(hn (h.anc h2 hL)).elim,fun hlt=>by omega⟩
  have e1:(S (j+1)).hp b=hpD b:=h.hp b (j+1) (by omega) hcons
  have e2:(S j).hp b=(S i).hp b:=by
   have:=iO hS (id:=b) (j - i) i (by omega) (fun l h1 h2=>by
    by_cases ht:bL (R l) b=true
    ·rcases hs.oth l (by omega) ht with h3 | h3 | ⟨h3,_⟩ <;> omega
    ·simpa using ht)
   rwa [show i+(j - i)=j by omega] at this
  obtain ⟨t,m,k,hop⟩:=hs.opj
  rcases (hS j oj hs.hj).way with ⟨kn',f',_,_,hf',_,_,hhp,hwr,hR'⟩ | ⟨_,_,_,hR'⟩
  ·have hw:f'.wr.map (·.1)=[b]:=by rw [← hs.wrj,hR']
   unfold mB at hf'
   rw [hop] at hf'
   simp only at hf'
   obtain ⟨es,v,h3,h4,h5⟩:=Ba hf' hw
   have hb:=(hwr (b,.vmap false (iw es v)) (by rw [h4]; simp)).1
   have e3:(S (j+1)).hp b=.vmap false (iw es v):=by
    simp only [RS.hp,hhp,h4,h5,kV,jL]
    rw [aJ,lP hb]
    rfl
   obtain ⟨t2,x2,k2,hop2⟩:=hs.opi
   refine ⟨(S (j+1)).hp,?_,?_,?_⟩
   ·unfold mB at hf ⊢
    rw [hop2] at hf ⊢
    simp only at hf ⊢
    refine xG hf (fun id hid=>?_) (by rw [← e2]; exact h3) e3
    have:=hin (by rw [hop2]; rfl) x2 (by rw [hop2]; simp [Op.operands]) id hid
    rw [← hRfp,hs.fpi] at this
    simpa using this
   ·intro id hid
    rcases hid with hid | hid
    ·rw [hs.fpi] at hid
     simp at hid
     subst hid
     exact e1
    ·rw [hs.touch] at hid; cases hid
   ·intro _ id hid
    rw [hs.fpi] at hid
    simp at hid
    subst hid
    rw [e3]
    simp [AO.ids]
  ·have:=hs.wrj
   rw [hR'] at this
   cases this
 ·refine ⟨(S i).hp,hf,fun id hid=>h.hp id i (by omega) (h.objAt hS hO ho hn hr hid (fun j a oj hh=>hs ⟨j,a,oj,hh⟩)),?_⟩
  rw [hRfp]; exact hcl

theorem PR (hE:zl E) (hS:∀ (i:Nat) (o:Oper),ops[i]?=some o→sY E ops o (S i) (S (i+1)) (R i)) (hO:jF ops R) (h:mo E C ops S R L a w U ρ hpD) {i:Nat} {o:Oper} (ho:ops[i]?=some o) (hn:¬ L i)
  (hr:∀ e∈o.after.toList,Region.binds .any e=true→L e.on) (K:Act→World→Prop) (Q:Exit→Act→World→Prop)
  (hK:∀ a' w' U' ρ' hpD',mo E C ops S R (fun j=>L j∨j=i) a' w' U' ρ' hpD'→K a' w'):wpOp E.P ops.toArray Q i K a w:=by
 have hi:i < ops.length:=(bM.1 ho).1
 have hget:ops.toArray[i]?=some o:=by simpa using ho
 have hdid:=hS i o ho
 have hslot:∀ s,s∈dU ops o→Rv w U ρ ((S i).tmps.getD s .any) (a.tmps.getD s undef):=fun s hs=>h.tm s i (by omega) (h.slotAt hO ho hn hr (.inl hs))
 have hlen:(S i).tmps.length=a.tmps.size:=by rw [w8 hS i (by omega),h.tl]
 have hguard:∀ (j:Nat) (want:Bool) d,o.guard=some (j,want)→(ops[j]?).bind (·.dst)=some d→Rv w U ρ ((S i).tmps.getD d .any) (a.tmps.getD d undef):=by
  intro j want d hg hd
  refine hslot d ?_
  simp only [dU,hg,bn]
  exact .inr (by simp [hd])
 have yieldOf:∀ (j:Nat) (d:Nat) (b:Bool),(ops[j]?).bind (·.dst)=some d→a.tmps.getD d undef=.bool b→yielded ops.toArray a.tmps j=some b:=by
  intro j d b hd hb
  have hd':(ops.toArray[j]?).bind (·.dst)=some d:=by simpa using hd
  rw [j5] at hb
  have:a.tmps[d]?=some (.bool b):=by
   cases ht:a.tmps[d]? with
   | none=>rw [ht] at hb; simp [undef] at hb
   | some v=>rw [ht] at hb; simp at hb; rw [hb]
  unfold yielded; rw [hd']; simp [this]
 have boolOf:∀ (c:AV) (x:Value) (b:Bool),Rv w U ρ c x→(c=.bool b∨c=.kb b)→x=.bool b:=by
  rintro c x b hr (rfl | rfl) <;> cases hr <;> rfl
 unfold wpOp
 rw [hget]
 show (if Region.wanted o (yielded ops.toArray a.tmps) then _ else _)
 rcases hdid.way with ⟨kn,f,hkn,hg,hf,hfp,htm,hhp,hwr,hR⟩ | ⟨⟨j,want,hg,hcase⟩,htm,hhp,hR⟩
 ·
  have hw:Region.wanted o (yielded ops.toArray a.tmps)=true:=by
   unfold Region.wanted
   split
   ·rfl
   ·rename_i j want hgd
    obtain ⟨d,hd,hv⟩:=hg j want hgd
    rw [yieldOf j d want hd (boolOf _ _ _ (hguard j want d hgd hd) hv)]
    simp
  rw [if_pos hw]
  refine .inl ?_
  obtain ⟨hin,_⟩:=vP hfp
  have hRfp:(R i).fp=pO (S i).hp (qH E (S i).tmps kn) o:=by rw [hR]
  obtain ⟨hpX,hfX,hobjs,hcl⟩:=h.objX hS hO ho hn hr hf hRfp hfp
  rw [hRfp] at hcl
  have hRn:∀ id,eE (R i) id=true↔(S i).heap.length≤id∧id < (S i).heap.length+f.nw.length:=by intro id; rw [hR]; simp [eE]
  have hRt:∀ id,bL (R i) id=true↔(∃ o',(id,o')∈f.wr)∨((S i).heap.length≤id∧id < (S i).heap.length+f.nw.length):=by
   intro id; rw [hR]; simp [bL,eE]
  have hnone:∀ j,j < f.nw.length→ρ ((S i).heap.length+j)=none:=by
   intro j hj
   have hm:=jg hS i 0 (by omega)
   rw [ez] at hm
   refine h.rn _ (by omega) (fun j' hj' hL=>?_)
   by_cases hin':eE (R j') ((S i).heap.length+j)=true
   ·have:=wa hS hi hj' ((hRn _).2 ⟨by omega,by omega⟩) hin'
    subst this
    exact (hn hL).elim
   ·simpa using hin'
  obtain ⟨hwp,_⟩:=yY hE (w:=w) (U:=U) (ρ:=ρ) (a:=a) (fp:=pO (S i).hp (qH E (S i).tmps kn) o) hfX (fun x hx=>by
    cases x with
    | tmp t=>
     have hst:t∈dU ops o:=by
      simp only [dU,bn,List.mem_filterMap]
      exact .inl ⟨.tmp t,hx,rfl⟩
     have:=hslot t hst
     simp only [qH,Act.eval]
     cases hk:kn.lookup t with
     | some b=>
      rw [boolOf _ _ b this (hkn t b hk)]
      exact .kb b
     | none=>exact this
    | const v=>exact k9 v
    | global g=>exact (h.W.gl g).mono (bd _) (fun _ _ _=>rfl) (fun _ _ h=>h) (fun _ _ h=>by cases h)
    | func f=>simp only [qH,Act.eval]; exact .clo (.func f) [] [] [] [] rfl rfl (by simp) (by simp))
   h.W.ub h.W.gl
   ⟨fun id hid=>by rw [hobjs id (.inl (by rw [hRfp]; exact hid))]; exact h.H.ob id,fun id1 h1 id2 h2 b=>by
    rw [hobjs id1 (.inl (by rw [hRfp]; exact h1)),hobjs id2 (.inl (by rw [hRfp]; exact h2))]; exact h.H.inj id1 id2 b⟩ hin hcl hnone
  refine hwp K Q (fun v w' U' ρ' hef=>?_)
  have hwl:∀ p∈f.wr,p.1 < (S i).heap.length:=fun p hp=>(hwr p hp).1
  have hnext:∀ id,bL (R i) id=true→(S (i+1)).hp id=(kV (S i).heap f.wr++f.nw).getD id .dead:=by
   intro id _; simp only [RS.hp,hhp]
  obtain ⟨hW',hH',mono⟩:=pp (hp':=fun id=>if bL (R i) id then (S (i+1)).hp id else hpD id) h.W h.H hef (fun id o' hid=>hobjs id (.inr ((hRt id).2 (.inl ⟨o',hid⟩))))
   (fun id hex=>by
    obtain ⟨o',h1,h2⟩:=nX f.wr (S i).heap id hwl hex
    have ht:=(hRt id).2 (.inl hex)
    refine ⟨o',h1,?_⟩
    show (if bL (R i) id then (S (i+1)).hp id else hpD id)=o'
    rw [if_pos ht,hnext id ht]
    have:id < (S i).heap.length:=hwl _ h1
    rw [aJ,j6 (by rw [bf]; exact this),← aJ]
    exact h2)
   (fun j o' hj=>by
    have hlt:=(bM.1 hj).1
    have ht:=(hRt ((S i).heap.length+j)).2 (.inr ⟨by omega,by omega⟩)
    show (if bL (R i) _ then (S (i+1)).hp _ else hpD _)=o'
    rw [if_pos ht,hnext _ ht]
    rw [aJ,lc (by rw [bf]; omega),bf,show (S i).heap.length+j - (S i).heap.length=j by omega,hj]
    rfl)
   (fun id hno hid=>by
    have ht:¬ bL (R i) id=true:=by
     rw [hRt id]
     rintro (h1 | ⟨h1,h2⟩)
     ·exact hno h1
     ·omega
    show (if bL (R i) id then (S (i+1)).hp id else hpD id)=hpD id
    rw [if_neg ht])
  refine hK _ _ U' ρ' _ (h.next hS hO ho hn hr hW' hH' mono ?_ (fun id=>rfl) (fun id hid=>hef.rho id ?_) hef.rhon)
  ·intro s hs
   rw [htm,hs]
   exact DE hlen hef.val
  ·have:¬ eE (R i) id=true:=by rw [hid]; simp
   rw [hRn id] at this
   omega
 ·
  have hw:¬ Region.wanted o (yielded ops.toArray a.tmps)=true:=by
   unfold Region.wanted
   rw [hg]
   simp only [eT]
   rcases hcase with hd | ⟨d,hd,hv⟩
   ·have hd':(ops.toArray[j]?).bind (·.dst)=none:=by simpa using hd
    unfold yielded; rw [hd']; simp
   ·have hrv:=hguard j want d hg hd
    rcases hv with hv | hv | ⟨vs,hv⟩
    ·rw [yieldOf j d _ hd (boolOf _ _ _ hrv (.inl hv))]
     cases want <;> simp
    ·rw [yieldOf j d _ hd (boolOf _ _ _ hrv (.inr hv))]
     cases want <;> simp
    ·rw [hv] at hrv
     have hd':(ops.toArray[j]?).bind (·.dst)=some d:=by simpa using hd
     generalize hx:a.tmps.getD d undef=x at hrv
     cases hrv with
     | tup _ xs _ _=>
     rw [j5] at hx
     unfold yielded; rw [hd']
     cases ht:a.tmps[d]? with
     | none=>simp [ht]
     | some v=>rw [ht] at hx; simp at hx; subst hx; simp [ht]
  rw [if_neg hw]
  have hRt:∀ id,bL (R i) id=false:=by intro id; rw [hR]; simp [bL,eE]
  refine hK _ _ U ρ hpD (h.next hS hO ho hn hr h.W h.H (fun h=>h) ?_ (fun id=>by rw [hRt id]; rfl) (fun _ _=>rfl) (fun _ _ h=>h))
  intro s hs
  rw [htm,hs]
  exact DE hlen (.tup [] [] rfl (by simp))

def cS (listed:Array Bool) (j:Nat):Prop:=listed.getD j false=true

theorem Fv {listed:Array Bool} {i:Nat} (hi:i < listed.size):cS (listed.setIfInBounds i true)=fun j=>cS listed j∨j=i:=by
 funext j
 unfold cS
 simp only [j5]
 by_cases h:i=j
 ·subst h
  rw [Array.getElem?_setIfInBounds_self_of_lt hi]
  simp
 ·rw [Array.getElem?_setIfInBounds_ne h]
  simp [Ne.symm h]

theorem Ai {listed:Array Bool} {i:Nat} (hsz:listed.size=ops.length) (h:i∈Region.ready .any ops.toArray listed):
  ∃ o,ops[i]?=some o∧¬ cS listed i∧∀ e∈o.after.toList,Region.binds .any e=true→cS listed e.on:=by
 unfold Region.ready at h
 simp only [List.mem_filter,uh,aL] at h
 obtain ⟨hi,h1,h2⟩:=h
 simp at hi
 have hget:ops[i]?=some ops[i]:=zJ hi
 refine ⟨ops[i],hget,?_,fun e he hb=>?_⟩
 ·unfold cS
  intro hL
  rw [j5] at hL h1
  rw [gZ (by omega)] at hL h1
  simp at hL h1
  rw [hL] at h1; cases h1
 ·have h2':(ops[i].after.all fun e => !Region.binds .any e||listed.getD e.on false)=true:=by
   have:ops.toArray[i]?=some ops[i]:=by simp
   rw [this] at h2
   simpa using h2
  rw [← Array.all_toList] at h2'
  have:=cX.1 h2' e he
  simp [hb] at this
  unfold cS
  rw [j5]
  exact this

theorem Jq {listed:Array Bool} (hsz:listed.size=ops.length) (hback:∀ (j:Nat) (o:Oper) (e:Edge),ops[j]?=some o→e∈o.after.toList→Region.binds .any e=true→e.on < j)
  (h:Region.ready .any ops.toArray listed=[]):∀ j,j < ops.length→cS listed j:=by
 intro j
 induction j using Nat.strongRecOn with
 | _ j ih=>
  intro hj
  apply xv
  intro hn
  have hget:ops[j]?=some ops[j]:=zJ hj
  have:j∈Region.ready .any ops.toArray listed:=by
   unfold Region.ready
   simp only [List.mem_filter,uh,aL]
   refine ⟨by simpa using hj,?_,?_⟩
   ·unfold cS at hn
    rw [j5] at hn ⊢
    rw [gZ (by omega)] at hn ⊢
    simp at hn ⊢
    exact hn
   ·have h1:ops.toArray[j]?=some ops[j]:=by simp
    rw [h1]
    simp only [ug,bP]
    rw [← Array.all_toList,cX]
    intro e he
    by_cases hb:Region.binds .any e=true
    ·have hlt:=hback j _ e hget he hb
     have:=ih e.on hlt (by omega)
     simp only [hb,fG,Bool.false_or]
     exact this
    ·simp [hb]
  rw [h] at this
  simp at this

theorem Ei (hE:zl E) (hS:∀ (i:Nat) (o:Oper),ops[i]?=some o→sY E ops o (S i) (S (i+1)) (R i)) (hO:jF ops R) {Q:Exit→Act→World→Prop}
  (hQ:∀ a w U ρ hpD (L:Nat→Prop),(∀ j,j < ops.length→L j)→mo E C ops S R L a w U ρ hpD→Q .normal a w):
  ∀ (fuel:Nat) (listed:Array Bool) (a:Act) (w:World) (U:Nat→Prop) (ρ:Nat→Option Value) (hpD:Nat→AO),listed.size=ops.length→(listed.toList.filter (! ·)).length≤fuel→
   mo E C ops S R (cS listed) a w U ρ hpD→wpAny E.P .any ops.toArray Q fuel listed a w
 | 0,listed,a,w,U,ρ,hpD,hsz,hf,h=>by
  have hall:∀ b∈listed.toList,b=true:=by
   have:listed.toList.filter (! ·)=[]:=Ct (by omega)
   intro b hb
   have:=List.filter_eq_nil_iff.1 this b hb
   simpa using this
  have hL:∀ j,j < ops.length→cS listed j:=by
   intro j hj
   unfold cS
   rw [j5,gZ (by omega)]
   exact hall _ (by simp)
  refine ⟨?_,hQ a w U ρ hpD _ hL h⟩
  apply List.eq_nil_iff_forall_not_mem.2
  intro i hi
  obtain ⟨o,ho,hn,_⟩:=Ai hsz hi
  exact hn (hL i (bM.1 ho).1)
 | fuel+1,listed,a,w,U,ρ,hpD,hsz,hf,h=>by
  refine ⟨fun hnil=>hQ a w U ρ hpD _ (Jq hsz hO.back hnil) h,fun i hi=>?_⟩
  obtain ⟨o,ho,hn,hr⟩:=Ai hsz hi
  have hilt:i < listed.size:=by rw [hsz]; exact (bM.1 ho).1
  refine PR hE hS hO h ho hn hr _ Q (fun a' w' U' ρ' hpD' h'=>?_)
  refine Ei hE hS hO hQ fuel _ a' w' U' ρ' hpD' (by simpa using hsz) ?_ (by rw [Fv hilt]; exact h')
  have hfalse:listed.toList[i]'(by simpa using hilt)=false:=by
   unfold cS at hn
   rw [j5,gZ hilt] at hn
   simpa using hn
  have key:∀ (l:List Bool) (i:Nat) (hi:i < l.length),l[i]=false→(l.filter (! ·)).length=((l.set i true).filter (! ·)).length+1:=by
   intro l
   induction l with
   | nil=>intro i hi; simp at hi
   | cons b l ih=>
    intro i hi hb
    cases i with
    | zero=>simp at hb; subst hb; simp
    | succ i=>
     have:=ih i (by simpa using hi) (by simpa using hb)
     cases b <;> simp [this]
  have:=key listed.toList i (by simpa using hilt) hfalse
  simp only [Array.toList_setIfInBounds]
  omega

theorem DQ (hE:zl E) {id:Nat} {s0 sN:RS} (h:(bT E ops ops s0).val=some sN) (h0:s0.log=[]) (hk0:s0.known=[]) (hord:p0 ops sN.log=true) (hc:xn C s0 a w U ρ) (hW:Wd E.gl C w U):
  (Code.region id ops.toArray true).wp E.P (fun e a' w'=>e=.normal∧∃ U' ρ',xn C sN a' w' U' ρ'∧Wd E.gl C w' U') a w:=by
 obtain ⟨S,R,e0,eN,hS,hL,hkN⟩:=ow ops s0 sN h (by intro d b hl; rw [hk0] at hl; simp at hl)
 have hO:jF ops R:=FB hord (by rw [hL,h0]; simp)
 have hd:gu w { w with drawn:=w.drawn+1 }:=⟨bd _,rfl,rfl,rfl,fun _ _=>rfl⟩
 refine wp_region_any hE.mix (Ei (C:=C) hE hS hO ?_ ops.toArray.size (Array.replicate ops.toArray.size false) a { w with drawn:=w.drawn+1 } U ρ s0.hp (by simp) (by simp) ?_)
 ·intro a' w' U' ρ' hpD L hall hI
  refine ⟨rfl,U',ρ',⟨⟨?_,fun j c v hc hv=>?_⟩,?_,?_,?_,hI.df,hI.r0⟩,hI.W⟩
  ·rw [← eN,w8 hS _ (bd _),← hI.tl]; simp
  ·have:=hI.tm j ops.length (bd _) (fun j' o' ho' _=>⟨fun _=>(bM.1 ho').1,fun hlt=>hall j' hlt⟩)
   rw [eN] at this
   rw [aJ,hc,j5] at this
   have hv':a'.tmps[j]?=some v:=by simpa using hv
   rw [hv'] at this
   exact this
  ·have:sN.hp=hpD:=by
    funext id
    have:=hI.hp id ops.length (bd _) (fun j hj _=>⟨fun _=>hj,fun hlt=>hall j hlt⟩)
    rw [eN] at this
    exact this
   rw [this]
   exact hI.H
  ·intro id hid
   rw [← eN] at hid
   have hm0:=jg hS ops.length 0 (by omega)
   rw [ez] at hm0
   refine hI.rn id (by omega) (fun j hj _=>?_)
   by_cases hin:eE (R j) id=true
   ·have:=((hS j _ (zJ hj)).news hin).2
    have hm1:=jg hS (ops.length - (j+1)) (j+1) (by omega)
    rw [show j+1+(ops.length - (j+1))=ops.length by omega] at hm1
    omega
   ·simpa using hin
  ·intro d b hl
   have hsl:=hI.tm d ops.length (bd _) (fun j' o' ho' _=>⟨fun _=>(bM.1 ho').1,fun hlt=>hall j' hlt⟩)
   rw [eN] at hsl
   have hb:a'.tmps.getD d undef=.bool b:=by
    rcases hkN d b hl with h1 | h1 <;> rw [h1] at hsl <;> generalize a'.tmps.getD d undef=x at hsl <;> cases hsl <;> rfl
   rw [j5] at hb
   cases ht:a'.tmps[d]? with
   | none=>rw [ht] at hb; simp [undef] at hb
   | some v=>rw [ht] at hb; simp at hb; rw [hb]
 ·have hnone:∀ j,¬ cS (Array.replicate ops.toArray.size false) j:=by
   intro j
   unfold cS
   rw [j5,Array.getElem?_replicate]
   split <;> simp
  have hmono:∀ {c:AV} {x:Value},Rv w U ρ c x→Rv { w with drawn:=w.drawn+1 } U ρ c x:=fun h=>h.mono (w:=w) (w':={ w with drawn:=w.drawn+1 }) (bd _) (fun _ _ _=>rfl) (fun _ _ h=>h) (fun _ _ h=>h)
  refine ⟨fun j o e ho hL=>(hnone j hL).elim,⟨hW.ext.trans hd,hW.same,hW.ub,hW.u1,hW.u2,fun g=>(hW.gl g).mono (w:=w) (w':={ w with drawn:=w.drawn+1 }) (bd _) (fun _ _ _=>rfl) (fun _ _ h=>h) (fun _ _ h=>h)⟩,
   ⟨fun id=>(hc.hp.ob id).mono (w:=w) (w':={ w with drawn:=w.drawn+1 }) (bd _) (fun _ _ _=>rfl) (fun _ _ h=>h) (fun _ _ h=>h) (fun b ho=>⟨rfl,((hc.hp.ob id).inU ho).1⟩),hc.hp.inj,hc.hp.blk⟩,?_,?_,?_,?_,hc.df,hc.r0⟩
  ·rw [e0]; have:=hc.tm.len; simp at this; exact this.symm
  ·intro s k hk hcons
   have hsame:(S k).tmps.getD s .any=(S 0).tmps.getD s .any:=by
    have:=kg hS (s:=s) k 0 (by omega) (fun j o ho hd h1 h2=>hnone j ((hcons j o ho hd).2 (by omega)))
    rwa [ez] at this
   rw [hsame,e0]
   by_cases hs:s < s0.tmps.length
   ·have hs':s < a.tmps.toList.length:=by rw [← hc.tm.len]; exact hs
    refine hmono (hc.tm.rv s _ _ (by rw [aJ,zJ hs]; rfl) ?_)
    rw [j5]
    have:s < a.tmps.size:=by simpa using hs'
    simp [gZ this]
   ·rw [aJ,dd (by omega)]
    exact .any _
  ·intro id k hk hcons
   have:=iO hS (id:=id) k 0 (by omega) (fun j h1 h2=>by
    by_cases ht:bL (R j) id=true
    ·exact (hnone j ((hcons j (by omega) ht).2 (by omega))).elim
    ·simpa using ht)
   rw [ez] at this
   rw [this,e0]
  ·intro id hid _
   rw [e0] at hid
   exact hc.new id hid

end

structure Cn (C:cH) (st:St) (a:Act) (w:World) (U:Nat→Prop) (ρ:Nat→Option Value):Prop where
 tm:cK w U ρ st.tmps a.tmps.toList
 hp:gY C w U ρ st.hp
 new:∀ id,st.heap.length≤id→ρ id=none
 df:a.defers=[]
 r0:∀ id v,C.ρ0 id=some v→ρ id=some v

section
variable {E:bt} {C:cH} {a:Act} {w:World} {U:Nat→Prop} {ρ:Nat→Option Value}

theorem Cn.toR {st:St} (h:Cn C st a w U ρ):xn C { tmps:=st.tmps,heap:=st.heap } a w U ρ:=⟨h.tm,h.hp,h.new,by simp,h.df,h.r0⟩
theorem xn.out {st:RS} (h:xn C st a w U ρ):Cn C st.out a w U ρ:=⟨h.tm,h.hp,h.new,h.df,h.r0⟩

theorem g6 {ops:List Oper}:∀ {t:Tr RS} {s:RS},(checked ops t).val=some s→t.val=some s∧p0 ops s.log=true
 | .err,s,h=>by simp [checked] at h
 | .chk c t,s,h=>by
  cases c
  ·simp [checked,Tr.val] at h
  ·simp only [checked,Tr.val,if_true] at h ⊢
   exact g6 h
 | .br c t f,s,h=>by
  cases c
  ·simp only [checked,Tr.val,zH,if_false] at h ⊢
   exact g6 h
  ·simp only [checked,Tr.val,if_true] at h ⊢
   exact g6 h
 | .ok st,s,h=>by
  simp only [checked] at h
  split at h
  ·rename_i ho
   simp at h; subst h
   exact ⟨rfl,ho⟩
  ·simp at h

theorem Jr (hE:zl E) {id:Nat} {ops:List Oper} {draw:Bool} {s0 sN:RS} (h0:s0.log=[]) (hk0:s0.known=[])
  (h:(if draw then checked ops (bT E ops ops s0) else bT E ops ops s0).val=some sN) (hc:xn C s0 a w U ρ) (hW:Wd E.gl C w U):
  (Code.region id ops.toArray draw).wp E.P (fun e a' w'=>e=.normal∧∃ U' ρ',xn C sN a' w' U' ρ'∧Wd E.gl C w' U') a w:=by
 cases draw
 ·simp only [zH,if_false] at h
  refine wp_region ?_
  have:=vJ (C:=C) hE (Q:=fun e a' w'=>e=.normal∧∃ U' ρ',xn C sN a' w' U' ρ'∧Wd E.gl C w' U') (fun a' w' U' ρ' h1 h2=>⟨rfl,U',ρ',h1,h2⟩) ops 0 s0 a w U ρ (by simp) h hc hW
  rw [← List.range_eq_range'] at this
  simpa using this
 ·simp only [if_true] at h
  obtain ⟨h1,h2⟩:=g6 h
  exact DQ hE h1 h0 hk0 h2 hc hW

theorem mY {ops:List Oper} {o:Oper} {s s':RS} (h:(pf E ops s o).val=some s') (ht:s'.touched=false):s.touched=false∧s'.heap=s.heap:=by
 have go:∀ kn,(xI E o { s with known:=kn }).val=some s'→s.touched=false∧s'.heap=s.heap:=by
  intro kn h
  unfold xI at h
  split at h
  ·simp only [Tr.val_bind,eS] at h
   obtain ⟨f,_,h⟩:=h
   split at h
   ·simp at h; subst h
    simp at ht
    obtain ⟨h1,h2,h3⟩:=ht
    refine ⟨h1,?_⟩
    simp [h2,h3,kV]
   ·simp at h
  ·simp at h
 have skip:∀ kn,kf o { s with known:=kn }=s'→s.touched=false∧s'.heap=s.heap:=by
  rintro kn rfl
  exact ⟨ht,rfl⟩
 unfold pf at h
 split at h
 ·exact go s.known h
 ·split at h
  ·simp at h; exact skip s.known h
  ·split at h
   ·split at h
    ·exact go s.known h
    ·simp at h; exact skip s.known h
   ·simp at h; exact skip s.known h
   ·rename_i b _
    rename_i want _ _ _ _ _ _
    cases b
    ·simp only [Tr.val,zH,if_false] at h
     split at h
     ·simp at h; exact skip _ h
     ·exact go _ h
    ·simp only [Tr.val,if_true] at h
     split at h
     ·exact go _ h
     ·simp at h; exact skip _ h
   ·simp at h

theorem lX {ops:List Oper}:∀ (r:List Oper) (s sN:RS),(bT E ops r s).val=some sN→sN.touched=false→sN.heap=s.heap
 | [],s,sN,h,_=>by simp [bT] at h; rw [h]
 | o :: r,s,sN,h,ht=>by
  simp only [bT,Tr.val_bind,eS] at h
  obtain ⟨s1,h1,h2⟩:=h
  have e2:=lX r s1 sN h2 ht
  have t1:s1.touched=false:=by
   have key:∀ (r:List Oper) (s sN:RS),(bT E ops r s).val=some sN→sN.touched=false→s.touched=false:=by
    intro r
    induction r with
    | nil=>intro s sN h ht; simp [bT] at h; rw [h]; exact ht
    | cons o r ih=>
     intro s sN h ht
     simp only [bT,Tr.val_bind,eS] at h
     obtain ⟨s1,h1,h2⟩:=h
     exact (mY h1 (ih s1 sN h2 ht)).1
   exact key r s1 sN h2 ht
  rw [e2,(mY h1 t1).2]

theorem ov {ops:List Oper}:∀ (r:List Oper) (s sN:RS),(bT E ops r s).val=some sN→N9 s→sN.tmps.length=s.tmps.length∧∀ d,d ∉ It r→sN.tmps.getD d .any=s.tmps.getD d .any
 | [],s,sN,h,_=>by simp [bT] at h; rw [h]; exact ⟨rfl,fun _ _=>rfl⟩
 | o::r,s,sN,h,hk=>by
  simp only [bT,Tr.val_bind,eS] at h
  obtain ⟨s1,h1,h2⟩:=h
  obtain ⟨r0,hd,_,hk1⟩:=w3 h1 hk
  obtain ⟨e1,e2⟩:=ov r s1 sN h2 hk1
  refine ⟨by rw [e1,hd.tlen],fun d hd'=>?_⟩
  rw [e2 d (fun hin=>hd' (by simp only [It,List.filterMap_cons]; split <;> simp_all [It])),hd.slots (fun e=>hd' (by simp [It,e]))]

theorem fY (c:Bool):∀ (ds:List Nat) (pre t f:List AV),(cE c ds pre t f).length=pre.length
 | [],_,_,_=>rfl
 | d::r,pre,t,f=>by rw [cE,fY c r]; simp

theorem l7 (c:Bool):∀ (ds:List Nat) (pre t f:List AV) (s:Nat),(cE c ds pre t f).getD s .any=if s∈ds∧s < pre.length then (nD c (t.getD s .any) (f.getD s .any)).getD .any else pre.getD s .any
 | [],pre,t,f,s=>by simp [cE]
 | d :: r,pre,t,f,s=>by
  rw [cE,l7 c r]
  simp only [jM,cY]
  by_cases hr:s∈r∧s < pre.length
  ·rw [if_pos hr,if_pos ⟨.inr hr.1,hr.2⟩]
  ·rw [if_neg hr]
   simp only [aJ,jJ]
   by_cases hd:d=s
   ·subst hd
    by_cases hl:d < pre.length
    ·simp [hl]
    ·simp [hl]
   ·have:¬ ((s=d∨s∈r)∧s < pre.length):=by
     rintro ⟨h1 | h1,h2⟩
     ·exact hd h1.symm
     ·exact hr ⟨h1,h2⟩
    rw [if_neg hd,if_neg this]

theorem nu {ds:List Nat} {pre:List AV}:∀ {t:Tr RS} {c:Option Bool} {l:List AV},sV ds pre t=some (c,l)→(c=none∨c=some true)→∃ sR,t.val=some sR∧sR.touched=false∧
  (sR.tmps.length=pre.length→l.length=pre.length)∧∀ s v,(s ∉ ds→sR.tmps.getD s .any=pre.getD s .any)→Rv w U ρ (sR.tmps.getD s .any) v→Rv w U ρ (l.getD s .any) v
 | .err,c,l,h,_=>by simp [sV] at h
 | .ok st,c,l,h,_=>by
  simp only [sV] at h
  split at h
  ·cases h
  ·rename_i ht
   cases h
   exact ⟨st,rfl,by simpa using ht,fun h=>h,fun _ _ _ h=>h⟩
 | .chk c0 t,c,l,h,hc=>by
  simp only [sV] at h
  split at h
  ·rename_i l' hl
   cases h
   have:c0=true:=by simpa using hc
   subst this
   simp only [Tr.val,if_true]
   exact nu hl (.inl rfl)
  ·rename_i c' l' hl
   cases h
   have:c0=true∧c'=true:=by simpa using hc
   obtain ⟨rfl,rfl⟩:=this
   simp only [Tr.val,if_true]
   exact nu hl (.inr rfl)
  ·cases h
 | .br b t f,c,l,h,hc=>by
  have key:∀ (ct cf:Option Bool) (lt lf:List AV),sV ds pre t=some (ct,lt)→sV ds pre f=some (cf,lf)→l=cE b ds pre lt lf→(b=true→ct=none∨ct=some true)→(b=false→cf=none∨cf=some true)→
    ∃ sR,(Tr.br b t f).val=some sR∧sR.touched=false∧(sR.tmps.length=pre.length→l.length=pre.length)∧∀ s v,(s ∉ ds→sR.tmps.getD s .any=pre.getD s .any)→Rv w U ρ (sR.tmps.getD s .any) v→Rv w U ρ (l.getD s .any) v:=by
   rintro ct cf lt lf ht hf rfl hb1 hb2
   have fin:∀ (sR:RS),(∀ s v,(s ∉ ds→sR.tmps.getD s .any=pre.getD s .any)→Rv w U ρ (sR.tmps.getD s .any) v→Rv w U ρ ((if b then lt else lf).getD s .any) v)→
     ∀ s v,(s ∉ ds→sR.tmps.getD s .any=pre.getD s .any)→Rv w U ρ (sR.tmps.getD s .any) v→Rv w U ρ ((cE b ds pre lt lf).getD s .any) v:=by
    intro sR hs s v hpre hv
    rw [l7]
    split
    ·rename_i hin
     have h1:=hs s v hpre hv
     cases hmm:nD b (lt.getD s .any) (lf.getD s .any) with
     | none=>exact .any _
     | some z=>
      refine v7 hmm ?_
      cases b <;> simpa using h1
    ·rename_i hin
     by_cases hds:s∈ds
     ·have:¬ s < pre.length:=fun h=>hin ⟨hds,h⟩
      rw [aJ,dd (by omega)]
      exact .any _
     ·rw [← hpre hds]; exact hv
   cases b
   ·obtain ⟨sR,e1,e2,_,e4⟩:=nu hf (hb2 rfl)
    exact ⟨sR,by simpa [Tr.val] using e1,e2,fun _=>fY _ _ _ _ _,fin sR (fun s v hp hv=>by simpa using e4 s v hp hv)⟩
   ·obtain ⟨sR,e1,e2,_,e4⟩:=nu ht (hb1 rfl)
    exact ⟨sR,by simpa [Tr.val] using e1,e2,fun _=>fY _ _ _ _ _,fin sR (fun s v hp hv=>by simpa using e4 s v hp hv)⟩
  simp only [sV] at h
  split at h
  ·rename_i l1 l2 h1 h2
   split at h
   ·cases h
   cases h
   exact key _ _ _ _ h1 h2 rfl (fun _=>.inl rfl) (fun _=>.inl rfl)
  ·rename_i a1 l1 l2 h1 h2
   split at h
   ·cases h
   cases h
   refine key _ _ _ _ h1 h2 rfl (fun hb=>.inr ?_) (fun _=>.inl rfl)
   subst hb; simpa using hc
  ·rename_i l1 b1 l2 h1 h2
   split at h
   ·cases h
   cases h
   refine key _ _ _ _ h1 h2 rfl (fun _=>.inl rfl) (fun hb=>.inr ?_)
   subst hb; simpa using hc
  ·rename_i a1 l1 b1 l2 h1 h2
   split at h
   ·cases h
   cases h
   refine key _ _ _ _ h1 h2 rfl (fun hb=>.inr ?_) (fun hb=>.inr ?_) <;> (subst hb; simpa using hc)
  ·cases h

theorem xH (hE:zl E) {id:Nat} {ops:Array Oper} {draw:Bool} {st st':St} (h:(oW E ops.toList draw st).val=some st') (hc:Cn C st a w U ρ) (hW:Wd E.gl C w U):
  (Code.region id ops draw).wp E.P (fun e a' w'=>e=.normal∧∃ U' ρ',Cn C st' a' w' U' ρ'∧Wd E.gl C w' U') a w:=by
 unfold oW at h
 simp only at h
 generalize hs0:({ tmps:=st.tmps,heap:=st.heap }:RS)=s0 at h
 have hlog:s0.log=[]:=by rw [← hs0]
 have hkn:s0.known=[]:=by rw [← hs0]
 have hcR:xn C s0 a w U ρ:=by rw [← hs0]; exact hc.toR
 have hkA:N9 s0:=by intro d b hl; rw [hkn] at hl; simp at hl
 generalize htree:(if draw then checked ops.toList (bT E ops.toList ops.toList s0) else bT E ops.toList ops.toList s0)=t at h
 have plain:∀ sN,t.val=some sN→(Code.region id ops draw).wp E.P (fun e a' w'=>e=.normal∧∃ U' ρ',xn C sN a' w' U' ρ'∧Wd E.gl C w' U') a w:=by
  intro sN hv
  have:=Jr (id:=id) hE hlog hkn (by rw [htree]; exact hv) hcR hW
  simpa using this
 have raw:∀ sN,t.val=some sN→(bT E ops.toList ops.toList s0).val=some sN:=by
  intro sN hv
  rw [← htree] at hv
  cases draw
  ·simpa using hv
  ·simp only [if_true] at hv
   exact (g6 hv).1
 have bare:(t.bind fun s=>Tr.ok s.out).val=some st'→(Code.region id ops draw).wp E.P (fun e a' w'=>e=.normal∧∃ U' ρ',Cn C st' a' w' U' ρ'∧Wd E.gl C w' U') a w:=by
  intro h
  simp only [Tr.val_bind,eS] at h
  obtain ⟨sN,hv,h⟩:=h
  simp at h; subst h
  exact wp_mono (plain sN hv) (fun e a' w' ⟨h1,U',ρ',h2,h3⟩=>⟨h1,U',ρ',h2.out,h3⟩)
 have merged:∀ c l,sV (It ops.toList) st.tmps t=some (c,l)→(c=none∨c=some true)→st'={ st with tmps:=l }→
   (Code.region id ops draw).wp E.P (fun e a' w'=>e=.normal∧∃ U' ρ',Cn C st' a' w' U' ρ'∧Wd E.gl C w' U') a w:=by
  rintro c l hfl hcc rfl
  obtain ⟨sR,hv,ht,hl,_⟩:=nu (w:=w) (U:=U) (ρ:=ρ) hfl hcc
  obtain ⟨hlen,hsl⟩:=ov ops.toList s0 sR (raw sR hv) hkA
  have hheap:=lX ops.toList s0 sR (raw sR hv) ht
  refine wp_mono (plain sR hv) (fun e a' w' ⟨h1,U',ρ',h2,h3⟩=>⟨h1,U',ρ',⟨⟨?_,fun j c v hc' hv'=>?_⟩,?_,?_,h2.df,h2.r0⟩,h3⟩)
  ·have:=h2.tm.len
   have e0:s0.tmps=st.tmps:=by rw [← hs0]
   rw [hl (by rw [hlen,e0]),← e0,← hlen]; exact this
  ·obtain ⟨sR',hv2,_,_,hr⟩:=nu (w:=w') (U:=U') (ρ:=ρ') hfl hcc
   rw [hv] at hv2; cases hv2
   have hj:j < sR.tmps.length:=by rw [h2.tm.len]; exact (bM.1 hv').1
   have e0:s0.tmps=st.tmps:=by rw [← hs0]
   have:=hr j v (fun hd=>by rw [hsl j hd,e0]) (h2.tm.rv j _ v (by rw [aJ,zJ hj]; rfl) hv')
   rw [aJ,hc'] at this
   exact this
  ·have:sR.hp=({ st with tmps:=l }:St).hp:=by
    funext i
    simp only [RS.hp,St.hp,hheap,← hs0]
   rw [← this]; exact h2.hp
  ·have:sR.heap.length=st.heap.length:=by rw [hheap,← hs0]
   intro i hi
   exact h2.new i (by rw [this]; exact hi)
 split at h
 ·split at h
  ·rename_i l hfl
   simp at h
   exact merged none l hfl (.inl rfl) h.symm
  ·rename_i c l hfl
   simp at h
   exact merged (some c) l hfl (.inr (by rw [h.1])) h.2.symm
  ·exact bare h
 ·exact bare h

end
end Cad
