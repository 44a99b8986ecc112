/- Regions whose order is drawn: where operations that get in one another's way are ordered, every order comes to the same. Regions whose order is drawn: every order comes to the same. Regions whose order is drawn: the step, and the whole. A whole region; what is kept at a loop's head; the run. What is kept at a loop's head says no more than what was there. Functions: from a run to a contract. -/
import Derived.Test.YthpdpmhdaadgcaaGreatDoorG03
import Derived.Orders
namespace Cad
open Go

structure Did (E : Env) (ops : List Oper) (o : Oper) (s s' : RS) (r : Rec) : Prop where
 /-- what is known of slots is so -/
 tm : ∃ v, s'.tmps = putT s.tmps o.dst v
 len : s.heap.length ≤ s'.heap.length
 way : (∃ (kn : List (Nat × Bool)) (f : Eff), (∀ d b, kn.lookup d = some b → s.tmps.getD d .any = .bool b ∨ s.tmps.getD d .any = .kb b) ∧
   (∀ j want, o.guard = some (j, want) → ∃ d, (ops[j]?).bind (·.dst) = some d ∧ (s.tmps.getD d .any = .bool want ∨ s.tmps.getD d .any = .kb want)) ∧
   (evalOp E (evo E s.tmps kn) s.hp s.heap.length o).val = some f ∧ fpOkB s.hp (evo E s.tmps kn) o = true ∧ s'.tmps = putT s.tmps o.dst f.val ∧ s'.heap = wrAll s.heap f.wr ++ f.nw ∧
   (∀ p ∈ f.wr, p.1 < s.heap.length ∧ p.1 ∈ fpOp s.hp (evo E s.tmps kn) o) ∧ r = { fp := fpOp s.hp (evo E s.tmps kn) o, wr := f.wr.map (·.1), base := s.heap.length, nw := f.nw.length }) ∨
  ((∃ j want, o.guard = some (j, want) ∧ ((ops[j]?).bind (·.dst) = none ∨ ∃ d, (ops[j]?).bind (·.dst) = some d ∧ (s.tmps.getD d .any = .bool (!want) ∨ s.tmps.getD d .any = .kb (!want) ∨ ∃ vs, s.tmps.getD d .any = .tup vs))) ∧
   s'.tmps = putT s.tmps o.dst (.tup []) ∧ s'.heap = s.heap ∧ r = {})

def KnA (s : RS) : Prop := ∀ d b, s.known.lookup d = some b → s.tmps.getD d .any = .bool b ∨ s.tmps.getD d .any = .kb b

theorem forget_look {known : List (Nat × Bool)} {d : Option Tmp} {d' : Nat} {b : Bool} (h : (forget known d).lookup d' = some b) : known.lookup d' = some b ∧ d ≠ some d' := by
 cases d with
 | none => exact ⟨h, by simp⟩
 | some d =>
  simp only [forget] at h
  have key : ∀ (k : List (Nat × Bool)), (k.filter fun p => p.1 != d).lookup d' = some b → d' ≠ d ∧ k.lookup d' = some b := by
   intro k
   induction k with
   | nil => simp
   | cons p k ih =>
    intro hk
    rw [List.filter_cons] at hk
    split at hk
    ·rename_i hp
     rw [List.lookup_cons] at hk ⊢
     split at hk
     ·rename_i he
      cases hk
      simp at hp he
      exact ⟨by rw [he]; exact hp, by simp⟩
     ·rename_i he
      obtain ⟨h1, h2⟩ := ih hk
      exact ⟨h1, h2⟩
    ·rename_i hp
     obtain ⟨h1, h2⟩ := ih hk
     refine ⟨h1, ?_⟩
     rw [List.lookup_cons]
     have : (d' == p.1) = false := by
      simp at hp
      simp [hp, h1]
     rw [this]; exact h2
  obtain ⟨h1, h2⟩ := key known h
  exact ⟨h2, by simp; exact fun e => h1 e.symm⟩

theorem putT_getD {tmps : List AV} {d : Option Tmp} {v : AV} {s : Nat} (h : d ≠ some s) : (putT tmps d v).getD s .any = tmps.getD s .any := by
 cases d with
 | none => rfl
 | some d =>
  simp only [putT, List.getD_eq_getElem?_getD]
  rw [List.getElem?_set_ne (by simpa using h)]

theorem KnA.step {s : RS} {o : Oper} {tm : List AV} {v : AV} (h : KnA s) (htm : tm = putT s.tmps o.dst v) : ∀ d b, (forget s.known o.dst).lookup d = some b → tm.getD d .any = .bool b ∨ tm.getD d .any = .kb b := by
 intro d b hl
 obtain ⟨h1, h2⟩ := forget_look hl
 rw [htm, putT_getD h2]
 exact h d b h1

theorem goOp_did {E : Env} {ops : List Oper} {o : Oper} {s s' : RS} (kn : List (Nat × Bool)) (h : (goOp E o { s with known := kn }).val = some s') (hk : ∀ d b, kn.lookup d = some b → s.tmps.getD d .any = .bool b ∨ s.tmps.getD d .any = .kb b)
  (hg : ∀ j want, o.guard = some (j, want) → ∃ d, (ops[j]?).bind (·.dst) = some d ∧ (s.tmps.getD d .any = .bool want ∨ s.tmps.getD d .any = .kb want)) : ∃ r, Did E ops o s s' r ∧ s'.log = s.log ++ [r] ∧ KnA s' := by
 unfold goOp at h
 split at h
 ·rename_i hfp
  simp only [Tr.val_bind, Option.bind_eq_some_iff] at h
  obtain ⟨f, hf, h⟩ := h
  split at h
  ·rename_i hwl
   simp at h; subst h
   refine ⟨_, ⟨⟨f.val, rfl⟩, by simp [wrAll_length], .inl ⟨kn, f, hk, hg, hf, hfp, rfl, rfl, ?_, rfl⟩⟩, rfl, ?_⟩
   ·intro p hp
    simp only [List.all_eq_true, Bool.and_eq_true, decide_eq_true_eq, List.contains_iff_mem] at hwl
    exact hwl p hp
   ·intro d b hl
    obtain ⟨h1, h2⟩ := forget_look hl
    show (putT s.tmps o.dst f.val).getD d .any = .bool b ∨ (putT s.tmps o.dst f.val).getD d .any = .kb b
    rw [putT_getD h2]
    exact hk d b h1
  ·simp at h
 ·simp at h

theorem skipOp_did {E : Env} {ops : List Oper} {o : Oper} {s : RS} (kn : List (Nat × Bool)) (hk : ∀ d b, kn.lookup d = some b → s.tmps.getD d .any = .bool b ∨ s.tmps.getD d .any = .kb b)
  (hg : ∃ j want, o.guard = some (j, want) ∧ ((ops[j]?).bind (·.dst) = none ∨ ∃ d, (ops[j]?).bind (·.dst) = some d ∧ (s.tmps.getD d .any = .bool (!want) ∨ s.tmps.getD d .any = .kb (!want) ∨ ∃ vs, s.tmps.getD d .any = .tup vs))) :
  ∃ r, Did E ops o s (skipOp o { s with known := kn }) r ∧ (skipOp o { s with known := kn }).log = s.log ++ [r] ∧ KnA (skipOp o { s with known := kn }) := by
 refine ⟨{}, ⟨⟨_, rfl⟩, Nat.le_refl _, .inr ⟨hg, rfl, rfl, rfl⟩⟩, rfl, ?_⟩
 intro d b hl
 obtain ⟨h1, h2⟩ := forget_look hl
 show (putT s.tmps o.dst (.tup [])).getD d .any = .bool b ∨ (putT s.tmps o.dst (.tup [])).getD d .any = .kb b
 rw [putT_getD h2]
 exact hk d b h1

theorem stepOp_did {E : Env} {ops : List Oper} {o : Oper} {s s' : RS} (h : (stepOp E ops s o).val = some s') (hk : KnA s) : ∃ r, Did E ops o s s' r ∧ s'.log = s.log ++ [r] ∧ KnA s' := by
 have slot : ∀ d x, evo E s.tmps s.known (.tmp d) = x → (∀ b, x = .bool b → s.tmps.getD d .any = .bool b) ∧ (∀ b, x = .kb b → s.tmps.getD d .any = .bool b ∨ s.tmps.getD d .any = .kb b) ∧ (∀ vs, x = .tup vs → s.tmps.getD d .any = .tup vs) := by
  intro d x hx
  simp only [evo] at hx
  cases hl : s.known.lookup d with
  | some b =>
   rw [hl] at hx
   subst hx
   exact ⟨by simp, fun b' hb => by cases hb; exact hk d _ hl, by simp⟩
  | none =>
   rw [hl] at hx
   subst hx
   exact ⟨fun _ h => h, fun _ h => .inr h, fun _ h => h⟩
 unfold stepOp at h
 split at h
 ·rename_i hg
  exact goOp_did s.known h hk (fun j want hh => by rw [hg] at hh; cases hh)
 ·rename_i j want hg
  split at h
  ·rename_i hd
   simp at h; subst h
   exact skipOp_did s.known hk ⟨j, want, hg, .inl hd⟩
  ·rename_i d hd
   split at h
   ·rename_i b hb
    have hs := (slot d _ hb).2.1 b rfl
    split at h
    ·rename_i hbw
     simp at hbw; subst hbw
     exact goOp_did s.known h hk (fun j' want' hh => by rw [hg] at hh; cases hh; exact ⟨d, hd, hs⟩)
    ·rename_i hbw
     simp at h; subst h
     have : b = !want := by revert hbw; cases b <;> cases want <;> simp
     subst this
     exact skipOp_did s.known hk ⟨j, want, hg, .inr ⟨d, hd, hs.elim .inl (fun h => .inr (.inl h))⟩⟩
   ·rename_i vs hvs
    simp at h; subst h
    exact skipOp_did s.known hk ⟨j, want, hg, .inr ⟨d, hd, .inr (.inr ⟨vs, (slot d _ hvs).2.2 vs rfl⟩)⟩⟩
   ·rename_i b hb
    have hs := (slot d _ hb).1 b rfl
    have hk' : ∀ x, x = b → ∀ d' b', ((d, x) :: s.known).lookup d' = some b' → s.tmps.getD d' .any = .bool b' ∨ s.tmps.getD d' .any = .kb b' := by
     intro x hx d' b' hl
     rw [List.lookup_cons] at hl
     split at hl
     ·rename_i he
      cases hl
      simp at he; rw [he, hx]; exact .inl hs
     ·exact hk d' b' hl
    cases b
    ·simp only [Tr.val, Bool.false_eq_true, if_false] at h
     cases want
     ·simp only [Bool.false_eq_true, if_false] at h
      exact goOp_did _ h (hk' false rfl) (fun j' want' hh => by rw [hg] at hh; cases hh; exact ⟨d, hd, .inl hs⟩)
     ·simp at h; subst h
      exact skipOp_did _ (hk' false rfl) ⟨j, true, hg, .inr ⟨d, hd, .inl hs⟩⟩
    ·simp only [Tr.val, if_true] at h
     cases want
     ·simp at h; subst h
      exact skipOp_did _ (hk' true rfl) ⟨j, false, hg, .inr ⟨d, hd, .inl hs⟩⟩
     ·simp only [if_true] at h
      exact goOp_did _ h (hk' true rfl) (fun j' want' hh => by rw [hg] at hh; cases hh; exact ⟨d, hd, .inl hs⟩)
   ·simp at h

theorem evalOps_trace {E : Env} {ops : List Oper} : ∀ (r : List Oper) (s sN : RS), (evalOps E ops r s).val = some sN → KnA s → ∃ (S : Nat → RS) (R : Nat → Rec), S 0 = s ∧ S r.length = sN ∧
  (∀ i o, r[i]? = some o → Did E ops o (S i) (S (i + 1)) (R i)) ∧ sN.log = s.log ++ (List.range r.length).map R ∧ KnA sN
 | [], s, sN, h, hk => by
  simp [evalOps] at h; subst h
  exact ⟨fun _ => s, fun _ => {}, rfl, rfl, by simp, by simp, hk⟩
 | o :: r, s, sN, h, hk => by
  simp only [evalOps, Tr.val_bind, Option.bind_eq_some_iff] at h
  obtain ⟨s1, h1, h2⟩ := h
  obtain ⟨r0, hd, hlog, hk1⟩ := stepOp_did h1 hk
  obtain ⟨S, R, e0, eN, hS, hL, hkN⟩ := evalOps_trace r s1 sN h2 hk1
  refine ⟨fun i => match i with | 0 => s | i + 1 => S i, fun i => match i with | 0 => r0 | i + 1 => R i, rfl, eN, ?_, ?_, hkN⟩
  ·intro i o' ho
   cases i with
   | zero => simp at ho; subst ho; simpa [e0] using hd
   | succ i => exact hS i o' (by simpa using ho)
  ·rw [hL, hlog]
   simp [List.range_succ_eq_map, Function.comp_def]

open Go

inductive Anc (ops : List Oper) : Nat → Nat → Prop
 | edge {j : Nat} {o : Oper} {e : Edge} (ho : ops[j]? = some o) (he : e ∈ o.after.toList) (hb : Region.binds .any e = true) : Anc ops e.on j
 | step {i j : Nat} {o : Oper} {e : Edge} (ho : ops[j]? = some o) (he : e ∈ o.after.toList) (hb : Region.binds .any e = true) (h : Anc ops i e.on) : Anc ops i j

theorem ancs_ok {ops : List Oper} : ∀ (r : List Oper) (acc : List (List Nat)), r = ops.drop acc.length → (∀ j i, i ∈ acc.getD j [] → Anc ops i j) → ∀ j i, i ∈ (ancs r acc).getD j [] → Anc ops i j
 | [], acc, _, h => h
 | o :: r, acc, hr, h => by
  simp only [ancs]
  have hget : ops[acc.length]? = some o := by
   have := congrArg (·[0]?) hr
   simpa [List.getElem?_drop] using this.symm
  refine ancs_ok r _ (by
   have := congrArg List.tail hr
   simpa using this) ?_
  intro j i hi
  rw [List.getD_eq_getElem?_getD] at hi
  by_cases hj : j < acc.length
  ·rw [List.getElem?_append_left hj, ← List.getD_eq_getElem?_getD] at hi
   exact h j i hi
  ·by_cases hj' : j = acc.length
   ·subst hj'
    rw [List.getElem?_append_right (Nat.le_refl _)] at hi
    simp only [Nat.sub_self, List.getElem?_cons_zero, Option.getD_some, List.mem_flatMap] at hi
    obtain ⟨e, he, hi⟩ := hi
    split at hi
    ·rename_i hb
     rcases List.mem_cons.1 hi with rfl | hi
     ·exact .edge hget he hb
     ·exact .step hget he hb (h _ _ hi)
    ·simp at hi
   ·rw [List.getElem?_eq_none (by simp; omega)] at hi
    simp at hi

section
variable {E : Env} {C : Ctx} {ops : List Oper} {S : Nat → RS} {R : Nat → Rec}

structure InvD (E : Env) (C : Ctx) (ops : List Oper) (S : Nat → RS) (R : Nat → Rec) (L : Nat → Prop) (a : Act) (w : World) (U : Nat → Prop) (ρ : Nat → Option Value) (hpD : Nat → AO) : Prop where
 cl : ∀ (j : Nat) (o : Oper) (e : Edge), ops[j]? = some o → L j → e ∈ o.after.toList → Region.binds .any e = true → L e.on
 W : Wd E.gl C w U
 H : HpOk C w U ρ hpD
 tl : a.tmps.size = (S 0).tmps.length
 tm : ∀ (s k : Nat), k ≤ ops.length → (∀ (j : Nat) (o : Oper), ops[j]? = some o → o.dst = some s → (L j ↔ j < k)) → Rv w U ρ ((S k).tmps.getD s .any) (a.tmps.getD s undef)
 hp : ∀ (id k : Nat), k ≤ ops.length → (∀ j, j < ops.length → touchB (R j) id = true → (L j ↔ j < k)) → (S k).hp id = hpD id
 rn : ∀ id, (S 0).heap.length ≤ id → (∀ j, j < ops.length → L j → inNew (R j) id = false) → ρ id = none
 df : a.defers = []
 r0 : ∀ id v, C.ρ0 id = some v → ρ id = some v

theorem Did.slots {o : Oper} {s s' : RS} {r : Rec} (h : Did E ops o s s' r) {t : Nat} (ht : o.dst ≠ some t) : s'.tmps.getD t .any = s.tmps.getD t .any := by
 obtain ⟨v, hv⟩ := h.tm
 rw [hv, putT_getD ht]

theorem Did.tlen {o : Oper} {s s' : RS} {r : Rec} (h : Did E ops o s s' r) : s'.tmps.length = s.tmps.length := by
 obtain ⟨v, hv⟩ := h.tm
 rw [hv]
 cases o.dst <;> simp [putT]

theorem Did.wrfp {o : Oper} {s s' : RS} {r : Rec} (h : Did E ops o s s' r) : ∀ id ∈ r.wr, id ∈ r.fp := by
 rcases h.way with ⟨kn, f, _, _, _, _, _, _, hw, rfl⟩ | ⟨_, _, _, rfl⟩
 ·intro id hid
  simp only [List.mem_map] at hid
  obtain ⟨p, hp, rfl⟩ := hid
  exact (hw p hp).2
 ·simp

theorem Did.news {o : Oper} {s s' : RS} {r : Rec} (h : Did E ops o s s' r) {id : Nat} (hn : inNew r id = true) : s.heap.length ≤ id ∧ id < s'.heap.length := by
 rcases h.way with ⟨kn, f, _, _, _, _, _, hh, hw, rfl⟩ | ⟨_, _, _, rfl⟩
 ·simp [inNew] at hn
  rw [hh]
  simp [wrAll_length]
  omega
 ·simp [inNew] at hn

theorem Did.objs {o : Oper} {s s' : RS} {r : Rec} (h : Did E ops o s s' r) {id : Nat} (ht : touchB r id = false) : s'.hp id = s.hp id := by
 rcases h.way with ⟨kn, f, _, _, _, _, _, hh, hw, rfl⟩ | ⟨_, _, hh, rfl⟩
 ·simp [touchB, inNew] at ht
  obtain ⟨h1, h2⟩ := ht
  simp only [RS.hp, hh]
  by_cases hid : id < s.heap.length
  ·rw [List.getD_eq_getElem?_getD, List.getElem?_append_left (by rw [wrAll_length]; exact hid), ← List.getD_eq_getElem?_getD]
   exact wrAll_get f.wr s.heap id (fun ⟨o', ho'⟩ => h1 o' ho')
  ·rw [List.getD_eq_getElem?_getD, List.getD_eq_getElem?_getD, List.getElem?_eq_none (by simp [wrAll_length]; have := h2 (by omega); omega), List.getElem?_eq_none (by omega)]
 ·simp only [RS.hp, hh]

theorem slots_between (hS : ∀ (i : Nat) (o : Oper), ops[i]? = some o → Did E ops o (S i) (S (i + 1)) (R i)) {s : Nat} : ∀ (d i : Nat), i + d ≤ ops.length → (∀ (j : Nat) (o : Oper), ops[j]? = some o → o.dst = some s → i ≤ j → j < i + d → False) →
  (S (i + d)).tmps.getD s .any = (S i).tmps.getD s .any
 | 0, _, _, _ => rfl
 | d + 1, i, hle, h => by
  have hlt : i + d < ops.length := by omega
  have hget : ops[i + d]? = some ops[i + d] := List.getElem?_eq_getElem hlt
  rw [show i + (d + 1) = (i + d) + 1 by omega, (hS _ _ hget).slots (fun e => h _ _ hget e (by omega) (by omega))]
  exact slots_between hS d i (by omega) (fun j o ho hd h1 h2 => h j o ho hd h1 (by omega))

theorem objs_between (hS : ∀ (i : Nat) (o : Oper), ops[i]? = some o → Did E ops o (S i) (S (i + 1)) (R i)) {id : Nat} : ∀ (d i : Nat), i + d ≤ ops.length → (∀ j, i ≤ j → j < i + d → touchB (R j) id = false) →
  (S (i + d)).hp id = (S i).hp id
 | 0, _, _, _ => rfl
 | d + 1, i, hle, h => by
  have hlt : i + d < ops.length := by omega
  have hget : ops[i + d]? = some ops[i + d] := List.getElem?_eq_getElem hlt
  rw [show i + (d + 1) = (i + d) + 1 by omega, (hS _ _ hget).objs (h _ (by omega) (by omega))]
  exact objs_between hS d i (by omega) (fun j h1 h2 => h j h1 (by omega))

theorem heap_mono (hS : ∀ (i : Nat) (o : Oper), ops[i]? = some o → Did E ops o (S i) (S (i + 1)) (R i)) : ∀ (d i : Nat), i + d ≤ ops.length → (S i).heap.length ≤ (S (i + d)).heap.length
 | 0, _, _ => Nat.le_refl _
 | d + 1, i, hle => by
  have hlt : i + d < ops.length := by omega
  have hget : ops[i + d]? = some ops[i + d] := List.getElem?_eq_getElem hlt
  exact Nat.le_trans (heap_mono hS d i (by omega)) (hS _ _ hget).len

theorem tlen_all (hS : ∀ (i : Nat) (o : Oper), ops[i]? = some o → Did E ops o (S i) (S (i + 1)) (R i)) : ∀ i, i ≤ ops.length → (S i).tmps.length = (S 0).tmps.length
 | 0, _ => rfl
 | i + 1, h => by
  have hget : ops[i]? = some ops[i] := List.getElem?_eq_getElem h
  rw [(hS _ _ hget).tlen, tlen_all hS i (by omega)]

theorem news_apart (hS : ∀ (i : Nat) (o : Oper), ops[i]? = some o → Did E ops o (S i) (S (i + 1)) (R i)) {i j id : Nat} (hi : i < ops.length) (hj : j < ops.length) (h1 : inNew (R i) id = true) (h2 : inNew (R j) id = true) : i = j := by
 have gi := (hS i _ (List.getElem?_eq_getElem hi)).news h1
 have gj := (hS j _ (List.getElem?_eq_getElem hj)).news h2
 rcases Nat.lt_trichotomy i j with h | h | h
 ·have := heap_mono hS (j - (i + 1)) (i + 1) (by omega)
  rw [show i + 1 + (j - (i + 1)) = j by omega] at this
  omega
 ·exact h
 ·have := heap_mono hS (i - (j + 1)) (j + 1) (by omega)
  rw [show j + 1 + (i - (j + 1)) = i by omega] at this
  omega

structure Soft (ops : List Oper) (R : Nat → Rec) (i j : Nat) (a : Nat) (oi oj : Oper) : Prop where
 hi : ops[i]? = some oi
 hj : ops[j]? = some oj
 opi : ∃ t x k, oi.op = .lookup t x k false
 opj : ∃ t m k, oj.op = .mapEntry t m k
 fpi : (R i).fp = [a]
 wri : (R i).wr = []
 nwi : (R i).nw = 0
 wrj : (R j).wr = [a]
 nwj : (R j).nw = 0
 sl : (meets oi.dst.toList (slotsOf ops oj) || meets oi.dst.toList oj.dst.toList || meets (slotsOf ops oi) oj.dst.toList) = false
 lt : i < j
 oth : ∀ l, l < ops.length → touchB (R l) a = true → l < i ∨ l = j ∨ (j < l ∧ Anc ops i l)

structure Ordered (ops : List Oper) (R : Nat → Rec) : Prop where
 back : ∀ (j : Nat) (o : Oper) (e : Edge), ops[j]? = some o → e ∈ o.after.toList → Region.binds .any e = true → e.on < j
 anc : ∀ (i j : Nat) (oi oj : Oper), i < j → ops[i]? = some oi → ops[j]? = some oj → clash ops oi oj (R i) (R j) = true → Anc ops i j ∨ ∃ a, Soft ops R i j a oi oj

theorem orderOk_ok {log : List Rec} (h : orderOk ops log = true) (hlog : log = (List.range ops.length).map R) : Ordered ops R := by
 unfold orderOk at h
 simp only [Bool.and_eq_true, List.all_eq_true] at h
 obtain ⟨h1, h2⟩ := h
 constructor
 ·intro j o e ho he hb
  have hlt : j < ops.length := (List.getElem?_eq_some_iff.1 ho).1
  have hmem : (o, j) ∈ ops.zipIdx := by
   rw [List.mem_zipIdx_iff_getElem?]
   exact ho
  have := h1 _ hmem e he
  simpa [hb] using this
 ·intro i j oi oj hij hi hj hc
  have hlt : j < ops.length := (List.getElem?_eq_some_iff.1 hj).1
  have := h2 j (List.mem_range.2 hlt) i (List.mem_range.2 hij)
  have lk : ∀ k, k < ops.length → log[k]? = some (R k) := by intro k hk; rw [hlog]; simp [List.getElem?_range hk]
  have li : log[i]? = some (R i) := lk i (by omega)
  have lj : log[j]? = some (R j) := lk j hlt
  simp only [hi, hj, li, lj, hc, Bool.not_true, Bool.false_or, Bool.or_eq_true, List.contains_iff_mem] at this
  rcases this with this | this
  ·exact .inl (ancs_ok ops [] (by simp) (by simp) j i this)
  ·unfold softOk at this
   split at this
   ·rename_i t x k t' m k' a b e1 e2 e3 e4
    simp only [Bool.and_eq_true, Bool.not_eq_true', beq_iff_eq, List.all_eq_true, List.isEmpty_iff, List.mem_range] at this
    obtain ⟨⟨⟨⟨⟨t1, t2⟩, t3⟩, t4⟩, t5⟩, t6⟩ := this
    subst t1
    refine .inr ⟨b, hi, hj, ⟨t, x, k, e1⟩, ⟨t', m, k', e2⟩, e3, t2, t3, e4, t4, t5, hij, fun l hl ht => ?_⟩
    have := t6 l hl
    rw [lk l hl] at this
    simp only [ht, Bool.not_true, Bool.false_or, Bool.or_eq_true, decide_eq_true_eq, beq_iff_eq, Bool.and_eq_true, List.contains_iff_mem] at this
    rcases this with (this | this) | ⟨this, ha⟩
    ·exact .inl this
    ·exact .inr (.inl this)
    ·exact .inr (.inr ⟨this, ancs_ok ops [] (by simp) (by simp) l i ha⟩)
   ·cases this

theorem Soft.touch {i j a : Nat} {oi oj : Oper} (h : Soft ops R i j a oi oj) (id : Nat) : touchB (R i) id = false := by
 unfold touchB inNew
 rw [h.wri, h.nwi]
 simp

theorem meets_iff {a b : List Nat} : meets a b = true ↔ ∃ x, x ∈ a ∧ x ∈ b := by simp [meets]

variable {L : Nat → Prop} {a : Act} {w : World} {U : Nat → Prop} {ρ : Nat → Option Value} {hpD : Nat → AO}

theorem InvD.anc (h : InvD E C ops S R L a w U ρ hpD) {i j : Nat} (ha : Anc ops i j) (hj : L j) : L i := by
 induction ha with
 | edge ho he hb => exact h.cl _ _ _ ho hj he hb
 | step ho he hb _ ih => exact ih (h.cl _ _ _ ho hj he hb)

theorem InvD.ready (h : InvD E C ops S R L a w U ρ hpD) {i j : Nat} {o : Oper} (ho : ops[j]? = some o) (hr : ∀ e ∈ o.after.toList, Region.binds .any e = true → L e.on) (ha : Anc ops i j) : L i := by
 cases ha with
 | edge ho' he hb => rw [ho] at ho'; cases ho'; exact hr _ he hb
 | step ho' he hb hs => rw [ho] at ho'; cases ho'; exact h.anc hs (hr _ he hb)

theorem InvD.slotAt (hO : Ordered ops R) (h : InvD E C ops S R L a w U ρ hpD) {i : Nat} {o : Oper} (ho : ops[i]? = some o) (hn : ¬ L i) (hr : ∀ e ∈ o.after.toList, Region.binds .any e = true → L e.on) {s : Nat}
  (hs : s ∈ slotsOf ops o ∨ o.dst = some s) : ∀ (j : Nat) (oj : Oper), ops[j]? = some oj → oj.dst = some s → (L j ↔ j < i) := by
 intro j oj hoj hd
 constructor
 ·intro hL
  rcases Nat.lt_trichotomy j i with hlt | rfl | hlt
  ·exact hlt
  ·exact (hn hL).elim
  ·exfalso
   have hc : (meets o.dst.toList (slotsOf ops oj) || meets o.dst.toList oj.dst.toList || meets (slotsOf ops o) oj.dst.toList) = true := by
    simp only [Bool.or_eq_true, meets_iff]
    rcases hs with hs | hs
    ·exact .inr ⟨s, hs, by simp [hd]⟩
    ·exact .inl (.inr ⟨s, by simp [hs], by simp [hd]⟩)
   rcases hO.anc i j o oj hlt ho hoj (by unfold clash; simp only [hc, Bool.true_or]) with ha | ⟨b, hb⟩
   ·exact hn (h.anc ha hL)
   ·rw [hb.sl] at hc; cases hc
 ·intro hlt
  have hc : (meets oj.dst.toList (slotsOf ops o) || meets oj.dst.toList o.dst.toList || meets (slotsOf ops oj) o.dst.toList) = true := by
   simp only [Bool.or_eq_true, meets_iff]
   rcases hs with hs | hs
   ·exact .inl (.inl ⟨s, by simp [hd], hs⟩)
   ·exact .inl (.inr ⟨s, by simp [hd], by simp [hs]⟩)
  rcases hO.anc j i oj o hlt hoj ho (by unfold clash; simp only [hc, Bool.true_or]) with ha | ⟨b, hb⟩
  ·exact h.ready ho hr ha
  ·rw [hb.sl] at hc; cases hc

theorem InvD.objAt (hS : ∀ (i : Nat) (o : Oper), ops[i]? = some o → Did E ops o (S i) (S (i + 1)) (R i)) (hO : Ordered ops R) (h : InvD E C ops S R L a w U ρ hpD) {i : Nat} {o : Oper} (ho : ops[i]? = some o) (hn : ¬ L i)
  (hr : ∀ e ∈ o.after.toList, Region.binds .any e = true → L e.on) {id : Nat} (hs : id ∈ (R i).fp ∨ touchB (R i) id = true) (hns : ∀ j a oj, ¬ (Soft ops R i j a o oj ∧ L j)) : ∀ j, j < ops.length → touchB (R j) id = true → (L j ↔ j < i) := by
 intro j hj ht
 have hi : i < ops.length := (List.getElem?_eq_some_iff.1 ho).1
 have hoj : ops[j]? = some ops[j] := List.getElem?_eq_getElem hj
 have hwi := (hS i o ho).wrfp
 have hwj := (hS j _ hoj).wrfp
 have tj : id ∈ (R j).wr ∨ inNew (R j) id = true := by simpa [touchB] using ht
 have ti : id ∈ (R i).fp ∨ inNew (R i) id = true := by
  rcases hs with hs | hs
  ·exact .inl hs
  ·have : id ∈ (R i).wr ∨ inNew (R i) id = true := by simpa [touchB] using hs
   exact this.imp (hwi id) (fun x => x)
 by_cases hij : i = j
 ·subst hij
  exact ⟨fun h' => (hn h').elim, fun h' => absurd h' (Nat.lt_irrefl _)⟩
 have hclash : ∀ (oi oj : Oper), clash ops oi oj (R i) (R j) = true ∧ clash ops oj oi (R j) (R i) = true := by
  intro oi oj
  unfold clash
  simp only [Bool.or_eq_true, meets_iff, List.any_eq_true]
  rcases ti with ti | ti <;> rcases tj with tj | tj
  ·exact ⟨.inl (.inl (.inr ⟨id, ti, tj⟩)), .inl (.inl (.inl (.inr ⟨id, tj, ti⟩)))⟩
  ·exact ⟨.inr ⟨id, ti, tj⟩, .inl (.inr ⟨id, ti, tj⟩)⟩
  ·exact ⟨.inl (.inr ⟨id, hwj id tj, ti⟩), .inr ⟨id, hwj id tj, ti⟩⟩
  ·exact (hij (news_apart hS hi hj ti tj)).elim
 constructor
 ·intro hL
  rcases Nat.lt_or_gt_of_ne hij with hlt | hlt
  ·rcases hO.anc i j o _ hlt ho hoj (hclash o _).1 with ha | ⟨b, hb⟩
   ·exact (hn (h.anc ha hL)).elim
   ·exact (hns _ _ _ ⟨hb, hL⟩).elim
  ·exact hlt
 ·intro hlt
  rcases hO.anc j i _ o hlt hoj ho (hclash o _).2 with ha | ⟨b, hb⟩
  ·exact h.ready ho hr ha
  ·rw [hb.touch id] at ht; cases ht

theorem vget_vent (es : List ((Int × Int × Str) × Int)) (v k : Int × Int × Str) : vget (vent es v) k = vget es k := by
 unfold vent
 cases vhas es v with
 | true => rfl
 | false =>
  simp only [cond_false, vget, List.find?_append]
  cases es.find? (fun p => k == p.1) with
  | some p => rfl
  | none =>
   simp only [Option.none_or, List.find?_cons, List.find?_nil]
   split <;> rfl

theorem evLookup_soft {P : Program} {hp hp' : Nat → AO} {t : TypeId} {x i : AV} {f : Eff} {b : Nat} {es : List ((Int × Int × Str) × Int)} {v : Int × Int × Str} (h : (evLookup P hp t x i false).val = some f) (hx : ∀ id ∈ x.ids, id = b)
  (h1 : hp b = .vmap false es) (h2 : hp' b = .vmap false (vent es v)) : (evLookup P hp' t x i false).val = some f := by
 cases x with
 | mp id =>
  have : id = b := hx id (by simp [AV.ids])
  subst this
  unfold evLookup at h ⊢
  cases hu : P.underlying t with
  | none => simp [hu] at h
  | some u =>
   cases u with
   | map kt et =>
    simp only [hu] at h ⊢
    cases hk : P.underlying kt with
    | none => simp [hk] at h
    | some ku =>
     cases ku with
     | string => simp only [hk] at h; cases i <;> simp [h1] at h
     | struct fs =>
      simp only [hk] at h ⊢
      split at h
      ·rename_i hv
       rw [if_pos hv]
       cases hvk : vkey i with
       | none => simp [hvk] at h
       | some v1 =>
        simp only [hvk, h1, Bool.false_eq_true, if_false] at h
        simp only [h2, Bool.false_eq_true, if_false, vget_vent]
        exact h
      ·simp at h
     | _ => simp [hk] at h
   | _ => simp [hu] at h
 | _ =>
  exfalso
  unfold evLookup at h
  split at h
  ·split at h
   ·split at h <;> simp_all
   ·split at h
    ·split at h <;> simp_all
    ·simp at h
   ·simp at h
  ·simp at h

end
open Go
section
variable {E : Env} {C : Ctx} {ops : List Oper} {S : Nat → RS} {R : Nat → Rec} {L : Nat → Prop} {a : Act} {w : World} {U : Nat → Prop} {ρ : Nat → Option Value} {hpD : Nat → AO}

theorem put_getD {a : Act} {d : Option Tmp} {v : Value} {s : Nat} (h : d ≠ some s) : (a.put d v).tmps.getD s undef = a.tmps.getD s undef := by
 cases d with
 | none => rfl
 | some d =>
  simp only [Act.put, Array.getD_eq_getD_getElem?]
  rw [Array.getElem?_setIfInBounds_ne (by simpa using h)]

theorem put_size {a : Act} {d : Option Tmp} {v : Value} : (a.put d v).tmps.size = a.tmps.size := by
 cases d <;> simp [Act.put]

theorem put_defers {a : Act} {d : Option Tmp} {v : Value} : (a.put d v).defers = a.defers := by
 cases d <;> rfl

theorem put_self {a : Act} {s : Nat} {v : Value} {c : AV} {tmps : List AV} (hl : tmps.length = a.tmps.size) (h : Rv w U ρ c v) : Rv w U ρ ((putT tmps (some s) c).getD s .any) ((a.put (some s) v).tmps.getD s undef) := by
 simp only [putT, Act.put, List.getD_eq_getElem?_getD, Array.getD_eq_getD_getElem?]
 by_cases hs : s < tmps.length
 ·rw [List.getElem?_set_self hs, Array.getElem?_setIfInBounds_self_of_lt (by omega)]
  exact h
 ·rw [List.getElem?_set, if_pos rfl, if_neg hs]
  exact .any _

theorem InvD.next (hS : ∀ (i : Nat) (o : Oper), ops[i]? = some o → Did E ops o (S i) (S (i + 1)) (R i)) (hO : Ordered ops R) (h : InvD E C ops S R L a w U ρ hpD) {i : Nat} {o : Oper} (ho : ops[i]? = some o) (hn : ¬ L i)
  (hr : ∀ e ∈ o.after.toList, Region.binds .any e = true → L e.on) {v : Value} {w' : World} {U' : Nat → Prop} {ρ' : Nat → Option Value} {hpD' : Nat → AO} (hW : Wd E.gl C w' U') (hH : HpOk C w' U' ρ' hpD')
  (mono : ∀ {c : AV} {x : Value}, Rv w U ρ c x → Rv w' U' ρ' c x) (hv : ∀ s, o.dst = some s → Rv w' U' ρ' ((S (i + 1)).tmps.getD s .any) ((a.put o.dst v).tmps.getD s undef))
  (hobj : ∀ id, hpD' id = if touchB (R i) id then (S (i + 1)).hp id else hpD id) (hrho : ∀ id, inNew (R i) id = false → ρ' id = ρ id) (hrhon : ∀ id v, ρ id = some v → ρ' id = some v) :
  InvD E C ops S R (fun j => L j ∨ j = i) (a.put o.dst v) w' U' ρ' hpD' := by
 have hi : i < ops.length := (List.getElem?_eq_some_iff.1 ho).1
 refine ⟨?_, hW, hH, by rw [put_size]; exact h.tl, ?_, ?_, ?_, by rw [put_defers]; exact h.df, fun id v h' => hrhon id v (h.r0 id v h')⟩
 ·intro j oj e hoj hL he hb
  rcases hL with hL | rfl
  ·exact .inl (h.cl j oj e hoj hL he hb)
  ·rw [ho] at hoj; cases hoj
   exact .inl (hr e he hb)
 ·intro s k hk hcons
  by_cases hd : o.dst = some s
  ·have hik : i < k := (hcons i o ho hd).1 (.inr rfl)
   have hno : ∀ (j : Nat) (oj : Oper), ops[j]? = some oj → oj.dst = some s → i + 1 ≤ j → j < k → False := by
    intro j oj hoj hdj h1 h2
    have hLj := (hcons j oj hoj hdj).2 h2
    rcases hLj with hLj | rfl
    ·have := (h.slotAt hO ho hn hr (.inr hd) j oj hoj hdj).1 hLj
     omega
    ·omega
   have hb := slots_between hS (s := s) (k - (i + 1)) (i + 1) (by omega) (fun j oj hoj hdj h1 h2 => hno j oj hoj hdj h1 (by omega))
   rw [show i + 1 + (k - (i + 1)) = k by omega] at hb
   rw [hb]
   exact hv s hd
  ·rw [put_getD hd]
   refine mono (h.tm s k hk (fun j oj hoj hdj => ?_))
   have := hcons j oj hoj hdj
   have hne : j ≠ i := by rintro rfl; rw [ho] at hoj; cases hoj; exact hd hdj
   exact ⟨fun hL => this.1 (.inl hL), fun hlt => (this.2 hlt).resolve_right hne⟩
 ·intro id k hk hcons
  rw [hobj id]
  by_cases ht : touchB (R i) id = true
  ·rw [if_pos ht]
   have hik : i < k := (hcons i hi ht).1 (.inr rfl)
   have hb := objs_between hS (id := id) (k - (i + 1)) (i + 1) (by omega) (fun j h1 h2 => by
    by_cases htj : touchB (R j) id = true
    ·exfalso
     have hLj := (hcons j (by omega) htj).2 (by omega)
     rcases hLj with hLj | rfl
     ·have := (h.objAt hS hO ho hn hr (.inr ht) (fun _ _ _ hh => by rw [hh.1.touch id] at ht; cases ht) j (by omega) htj).1 hLj
      omega
     ·omega
    ·simpa using htj)
   rw [show i + 1 + (k - (i + 1)) = k by omega] at hb
   exact hb
  ·rw [if_neg ht]
   refine h.hp id k hk (fun j hj htj => ?_)
   have := hcons j hj htj
   have hne : j ≠ i := by rintro rfl; exact ht htj
   exact ⟨fun hL => this.1 (.inl hL), fun hlt => (this.2 hlt).resolve_right hne⟩
 ·intro id h0 hnew
  have hi' := hnew i hi (.inr rfl)
  rw [hrho id hi']
  exact h.rn id h0 (fun j hj hL => hnew j hj (.inl hL))

theorem evEntry_soft {P : Program} {hp : Nat → AO} {t : TypeId} {m k : AV} {f : Eff} {b : Nat} (h : (evEntry P hp t m k).val = some f) (hw : f.wr.map (·.1) = [b]) :
  ∃ es v, hp b = .vmap false es ∧ f.wr = [(b, .vmap false (vent es v))] ∧ f.nw = [] := by
 unfold evEntry at h
 split at h
 ·split at h
  ·split at h
   ·rename_i id v _
    split at h
    ·rename_i es hid
     split at h
     ·split at h
      ·simp only [Tr.val] at h
       split at h
       ·simp only [Option.some.injEq] at h
        subst h
        simp at hw
        subst hw
        exact ⟨es, v, hid, rfl, rfl⟩
       ·cases h
      ·simp at h
     ·simp at h
    ·simp at h
   ·simp at h
  ·simp at h
 ·simp at h

theorem InvD.objX (hS : ∀ (i : Nat) (o : Oper), ops[i]? = some o → Did E ops o (S i) (S (i + 1)) (R i)) (hO : Ordered ops R) (h : InvD E C ops S R L a w U ρ hpD) {i : Nat} {o : Oper} (ho : ops[i]? = some o) (hn : ¬ L i)
  (hr : ∀ e ∈ o.after.toList, Region.binds .any e = true → L e.on) {kn : List (Nat × Bool)} {f : Eff} {n : Nat} (hf : (evalOp E (evo E (S i).tmps kn) (S i).hp n o).val = some f) (hRfp : (R i).fp = fpOp (S i).hp (evo E (S i).tmps kn) o)
  (hfp : fpOkB (S i).hp (evo E (S i).tmps kn) o = true) : ∃ hpX : Nat → AO, (evalOp E (evo E (S i).tmps kn) hpX n o).val = some f ∧ (∀ id, id ∈ (R i).fp ∨ touchB (R i) id = true → hpX id = hpD id) ∧
   (deepOp o.op = true → ∀ id ∈ (R i).fp, ∀ j ∈ (hpX id).ids, j ∈ (R i).fp) := by
 have hi : i < ops.length := (List.getElem?_eq_some_iff.1 ho).1
 obtain ⟨hin, hcl⟩ := fpOkB_ok hfp
 by_cases hs : ∃ j b oj, Soft ops R i j b o oj ∧ L j
 ·obtain ⟨j, b, oj, hs, hLj⟩ := hs
  have hjl : j < ops.length := (List.getElem?_eq_some_iff.1 hs.hj).1
  have hlt := hs.lt
  have hcons : ∀ l, l < ops.length → touchB (R l) b = true → (L l ↔ l < j + 1) := by
   intro l hl ht
   rcases hs.oth l hl ht with h1 | rfl | ⟨h1, h2⟩
   ·refine ⟨fun _ => by omega, fun _ => ?_⟩
    have hc : clash ops ops[l] o (R l) (R i) = true := by
     unfold clash
     simp only [Bool.or_eq_true, meets_iff, List.any_eq_true]
     have tl : b ∈ (R l).wr ∨ inNew (R l) b = true := by simpa [touchB] using ht
     have bi : b ∈ (R i).fp := by rw [hs.fpi]; simp
     rcases tl with tl | tl
     ·exact .inl (.inl (.inl (.inr ⟨b, tl, bi⟩)))
     ·exact .inl (.inr ⟨b, bi, tl⟩)
    rcases hO.anc l i _ o h1 (List.getElem?_eq_getElem hl) ho hc with ha | ⟨b', hb'⟩
    ·exact h.ready ho hr ha
    ·rw [hb'.touch b] at ht; cases ht
   ·exact ⟨fun _ => by omega, fun _ => hLj⟩
   ·exact ⟨fun hL => (hn (h.anc h2 hL)).elim, fun hlt => by omega⟩
  have e1 : (S (j + 1)).hp b = hpD b := h.hp b (j + 1) (by omega) hcons
  have e2 : (S j).hp b = (S i).hp b := by
   have := objs_between hS (id := b) (j - i) i (by omega) (fun l h1 h2 => by
    by_cases ht : touchB (R l) b = true
    ·rcases hs.oth l (by omega) ht with h3 | h3 | ⟨h3, _⟩ <;> omega
    ·simpa using ht)
   rwa [show i + (j - i) = j by omega] at this
  obtain ⟨t, m, k, hop⟩ := hs.opj
  rcases (hS j oj hs.hj).way with ⟨kn', f', _, _, hf', _, _, hhp, hwr, hR'⟩ | ⟨_, _, _, hR'⟩
  ·have hw : f'.wr.map (·.1) = [b] := by rw [← hs.wrj, hR']
   unfold evalOp at hf'
   rw [hop] at hf'
   simp only at hf'
   obtain ⟨es, v, h3, h4, h5⟩ := evEntry_soft hf' hw
   have hb := (hwr (b, .vmap false (vent es v)) (by rw [h4]; simp)).1
   have e3 : (S (j + 1)).hp b = .vmap false (vent es v) := by
    simp only [RS.hp, hhp, h4, h5, wrAll, List.append_nil]
    rw [List.getD_eq_getElem?_getD, List.getElem?_set_self hb]
    rfl
   obtain ⟨t2, x2, k2, hop2⟩ := hs.opi
   refine ⟨(S (j + 1)).hp, ?_, ?_, ?_⟩
   ·unfold evalOp at hf ⊢
    rw [hop2] at hf ⊢
    simp only at hf ⊢
    refine evLookup_soft hf (fun id hid => ?_) (by rw [← e2]; exact h3) e3
    have := hin (by rw [hop2]; rfl) x2 (by rw [hop2]; simp [Op.operands]) id hid
    rw [← hRfp, hs.fpi] at this
    simpa using this
   ·intro id hid
    rcases hid with hid | hid
    ·rw [hs.fpi] at hid
     simp at hid
     subst hid
     exact e1
    ·rw [hs.touch] at hid; cases hid
   ·intro _ id hid
    rw [hs.fpi] at hid
    simp at hid
    subst hid
    rw [e3]
    simp [AO.ids]
  ·have := hs.wrj
   rw [hR'] at this
   cases this
 ·refine ⟨(S i).hp, hf, fun id hid => h.hp id i (by omega) (h.objAt hS hO ho hn hr hid (fun j a oj hh => hs ⟨j, a, oj, hh⟩)), ?_⟩
  rw [hRfp]; exact hcl

theorem exec_ok (hE : EnvAll E) (hS : ∀ (i : Nat) (o : Oper), ops[i]? = some o → Did E ops o (S i) (S (i + 1)) (R i)) (hO : Ordered ops R) (h : InvD E C ops S R L a w U ρ hpD) {i : Nat} {o : Oper} (ho : ops[i]? = some o) (hn : ¬ L i)
  (hr : ∀ e ∈ o.after.toList, Region.binds .any e = true → L e.on) (K : Act → World → Prop) (Q : Exit → Act → World → Prop)
  (hK : ∀ a' w' U' ρ' hpD', InvD E C ops S R (fun j => L j ∨ j = i) a' w' U' ρ' hpD' → K a' w') : wpOp E.P ops.toArray Q i K a w := by
 have hi : i < ops.length := (List.getElem?_eq_some_iff.1 ho).1
 have hget : ops.toArray[i]? = some o := by simpa using ho
 have hdid := hS i o ho
 have hslot : ∀ s, s ∈ slotsOf ops o → Rv w U ρ ((S i).tmps.getD s .any) (a.tmps.getD s undef) := fun s hs => h.tm s i (by omega) (h.slotAt hO ho hn hr (.inl hs))
 have hlen : (S i).tmps.length = a.tmps.size := by rw [tlen_all hS i (by omega), h.tl]
 have hguard : ∀ (j : Nat) (want : Bool) d, o.guard = some (j, want) → (ops[j]?).bind (·.dst) = some d → Rv w U ρ ((S i).tmps.getD d .any) (a.tmps.getD d undef) := by
  intro j want d hg hd
  refine hslot d ?_
  simp only [slotsOf, hg, List.mem_append]
  exact .inr (by simp [hd])
 have yieldOf : ∀ (j : Nat) (d : Nat) (b : Bool), (ops[j]?).bind (·.dst) = some d → a.tmps.getD d undef = .bool b → yielded ops.toArray a.tmps j = some b := by
  intro j d b hd hb
  have hd' : (ops.toArray[j]?).bind (·.dst) = some d := by simpa using hd
  rw [Array.getD_eq_getD_getElem?] at hb
  have : a.tmps[d]? = some (.bool b) := by
   cases ht : a.tmps[d]? with
   | none => rw [ht] at hb; simp [undef] at hb
   | some v => rw [ht] at hb; simp at hb; rw [hb]
  unfold yielded; rw [hd']; simp [this]
 have boolOf : ∀ (c : AV) (x : Value) (b : Bool), Rv w U ρ c x → (c = .bool b ∨ c = .kb b) → x = .bool b := by
  rintro c x b hr (rfl | rfl) <;> cases hr <;> rfl
 unfold wpOp
 rw [hget]
 show (if Region.wanted o (yielded ops.toArray a.tmps) then _ else _)
 rcases hdid.way with ⟨kn, f, hkn, hg, hf, hfp, htm, hhp, hwr, hR⟩ | ⟨⟨j, want, hg, hcase⟩, htm, hhp, hR⟩
 ·
  have hw : Region.wanted o (yielded ops.toArray a.tmps) = true := by
   unfold Region.wanted
   split
   ·rfl
   ·rename_i j want hgd
    obtain ⟨d, hd, hv⟩ := hg j want hgd
    rw [yieldOf j d want hd (boolOf _ _ _ (hguard j want d hgd hd) hv)]
    simp
  rw [if_pos hw]
  refine .inl ?_
  obtain ⟨hin, _⟩ := fpOkB_ok hfp
  have hRfp : (R i).fp = fpOp (S i).hp (evo E (S i).tmps kn) o := by rw [hR]
  obtain ⟨hpX, hfX, hobjs, hcl⟩ := h.objX hS hO ho hn hr hf hRfp hfp
  rw [hRfp] at hcl
  have hRn : ∀ id, inNew (R i) id = true ↔ (S i).heap.length ≤ id ∧ id < (S i).heap.length + f.nw.length := by intro id; rw [hR]; simp [inNew]
  have hRt : ∀ id, touchB (R i) id = true ↔ (∃ o', (id, o') ∈ f.wr) ∨ ((S i).heap.length ≤ id ∧ id < (S i).heap.length + f.nw.length) := by
   intro id; rw [hR]; simp [touchB, inNew]
  have hnone : ∀ j, j < f.nw.length → ρ ((S i).heap.length + j) = none := by
   intro j hj
   have hm := heap_mono hS i 0 (by omega)
   rw [Nat.zero_add] at hm
   refine h.rn _ (by omega) (fun j' hj' hL => ?_)
   by_cases hin' : inNew (R j') ((S i).heap.length + j) = true
   ·have := news_apart hS hi hj' ((hRn _).2 ⟨by omega, by omega⟩) hin'
    subst this
    exact (hn hL).elim
   ·simpa using hin'
  obtain ⟨hwp, _⟩ := evalOp_ok hE (w := w) (U := U) (ρ := ρ) (a := a) (fp := fpOp (S i).hp (evo E (S i).tmps kn) o) hfX (fun x hx => by
    cases x with
    | tmp t =>
     have hst : t ∈ slotsOf ops o := by
      simp only [slotsOf, List.mem_append, List.mem_filterMap]
      exact .inl ⟨.tmp t, hx, rfl⟩
     have := hslot t hst
     simp only [evo, Act.eval]
     cases hk : kn.lookup t with
     | some b =>
      rw [boolOf _ _ b this (hkn t b hk)]
      exact .kb b
     | none => exact this
    | const v => exact absV_ok v
    | global g => exact (h.W.gl g).mono (Nat.le_refl _) (fun _ _ _ => rfl) (fun _ _ h => h) (fun _ _ h => by cases h)
    | func f => simp only [evo, Act.eval]; exact .clo (.func f) [] [] [] [] rfl rfl (by simp) (by simp))
   h.W.ub h.W.gl
   ⟨fun id hid => by rw [hobjs id (.inl (by rw [hRfp]; exact hid))]; exact h.H.ob id, fun id1 h1 id2 h2 b => by
    rw [hobjs id1 (.inl (by rw [hRfp]; exact h1)), hobjs id2 (.inl (by rw [hRfp]; exact h2))]; exact h.H.inj id1 id2 b⟩ hin hcl hnone
  refine hwp K Q (fun v w' U' ρ' hef => ?_)
  have hwl : ∀ p ∈ f.wr, p.1 < (S i).heap.length := fun p hp => (hwr p hp).1
  have hnext : ∀ id, touchB (R i) id = true → (S (i + 1)).hp id = (wrAll (S i).heap f.wr ++ f.nw).getD id .dead := by
   intro id _; simp only [RS.hp, hhp]
  obtain ⟨hW', hH', mono⟩ := apply_ef (hp' := fun id => if touchB (R i) id then (S (i + 1)).hp id else hpD id) h.W h.H hef (fun id o' hid => hobjs id (.inr ((hRt id).2 (.inl ⟨o', hid⟩))))
   (fun id hex => by
    obtain ⟨o', h1, h2⟩ := wrAll_set f.wr (S i).heap id hwl hex
    have ht := (hRt id).2 (.inl hex)
    refine ⟨o', h1, ?_⟩
    show (if touchB (R i) id then (S (i + 1)).hp id else hpD id) = o'
    rw [if_pos ht, hnext id ht]
    have : id < (S i).heap.length := hwl _ h1
    rw [List.getD_eq_getElem?_getD, List.getElem?_append_left (by rw [wrAll_length]; exact this), ← List.getD_eq_getElem?_getD]
    exact h2)
   (fun j o' hj => by
    have hlt := (List.getElem?_eq_some_iff.1 hj).1
    have ht := (hRt ((S i).heap.length + j)).2 (.inr ⟨by omega, by omega⟩)
    show (if touchB (R i) _ then (S (i + 1)).hp _ else hpD _) = o'
    rw [if_pos ht, hnext _ ht]
    rw [List.getD_eq_getElem?_getD, List.getElem?_append_right (by rw [wrAll_length]; omega), wrAll_length, show (S i).heap.length + j - (S i).heap.length = j by omega, hj]
    rfl)
   (fun id hno hid => by
    have ht : ¬ touchB (R i) id = true := by
     rw [hRt id]
     rintro (h1 | ⟨h1, h2⟩)
     ·exact hno h1
     ·omega
    show (if touchB (R i) id then (S (i + 1)).hp id else hpD id) = hpD id
    rw [if_neg ht])
  refine hK _ _ U' ρ' _ (h.next hS hO ho hn hr hW' hH' mono ?_ (fun id => rfl) (fun id hid => hef.rho id ?_) hef.rhon)
  ·intro s hs
   rw [htm, hs]
   exact put_self hlen hef.val
  ·have : ¬ inNew (R i) id = true := by rw [hid]; simp
   rw [hRn id] at this
   omega
 ·
  have hw : ¬ Region.wanted o (yielded ops.toArray a.tmps) = true := by
   unfold Region.wanted
   rw [hg]
   simp only [beq_iff_eq]
   rcases hcase with hd | ⟨d, hd, hv⟩
   ·have hd' : (ops.toArray[j]?).bind (·.dst) = none := by simpa using hd
    unfold yielded; rw [hd']; simp
   ·have hrv := hguard j want d hg hd
    rcases hv with hv | hv | ⟨vs, hv⟩
    ·rw [yieldOf j d _ hd (boolOf _ _ _ hrv (.inl hv))]
     cases want <;> simp
    ·rw [yieldOf j d _ hd (boolOf _ _ _ hrv (.inr hv))]
     cases want <;> simp
    ·rw [hv] at hrv
     have hd' : (ops.toArray[j]?).bind (·.dst) = some d := by simpa using hd
     generalize hx : a.tmps.getD d undef = x at hrv
     cases hrv with
     | tup _ xs _ _ =>
     rw [Array.getD_eq_getD_getElem?] at hx
     unfold yielded; rw [hd']
     cases ht : a.tmps[d]? with
     | none => simp [ht]
     | some v => rw [ht] at hx; simp at hx; subst hx; simp [ht]
  rw [if_neg hw]
  have hRt : ∀ id, touchB (R i) id = false := by intro id; rw [hR]; simp [touchB, inNew]
  refine hK _ _ U ρ hpD (h.next hS hO ho hn hr h.W h.H (fun h => h) ?_ (fun id => by rw [hRt id]; rfl) (fun _ _ => rfl) (fun _ _ h => h))
  intro s hs
  rw [htm, hs]
  exact put_self hlen (.tup [] [] rfl (by simp))

def isListed (listed : Array Bool) (j : Nat) : Prop := listed.getD j false = true

theorem listed_set {listed : Array Bool} {i : Nat} (hi : i < listed.size) : isListed (listed.setIfInBounds i true) = fun j => isListed listed j ∨ j = i := by
 funext j
 unfold isListed
 simp only [Array.getD_eq_getD_getElem?]
 by_cases h : i = j
 ·subst h
  rw [Array.getElem?_setIfInBounds_self_of_lt hi]
  simp
 ·rw [Array.getElem?_setIfInBounds_ne h]
  simp [Ne.symm h]

theorem ready_mem {listed : Array Bool} {i : Nat} (hsz : listed.size = ops.length) (h : i ∈ Region.ready .any ops.toArray listed) :
  ∃ o, ops[i]? = some o ∧ ¬ isListed listed i ∧ ∀ e ∈ o.after.toList, Region.binds .any e = true → isListed listed e.on := by
 unfold Region.ready at h
 simp only [List.mem_filter, List.mem_range, Bool.and_eq_true] at h
 obtain ⟨hi, h1, h2⟩ := h
 simp at hi
 have hget : ops[i]? = some ops[i] := List.getElem?_eq_getElem hi
 refine ⟨ops[i], hget, ?_, fun e he hb => ?_⟩
 ·unfold isListed
  intro hL
  rw [Array.getD_eq_getD_getElem?] at hL h1
  rw [Array.getElem?_eq_getElem (by omega)] at hL h1
  simp at hL h1
  rw [hL] at h1; cases h1
 ·have h2' : (ops[i].after.all fun e => !Region.binds .any e || listed.getD e.on false) = true := by
   have : ops.toArray[i]? = some ops[i] := by simp
   rw [this] at h2
   simpa using h2
  rw [← Array.all_toList] at h2'
  have := List.all_eq_true.1 h2' e he
  simp [hb] at this
  unfold isListed
  rw [Array.getD_eq_getD_getElem?]
  exact this

theorem ready_nil {listed : Array Bool} (hsz : listed.size = ops.length) (hback : ∀ (j : Nat) (o : Oper) (e : Edge), ops[j]? = some o → e ∈ o.after.toList → Region.binds .any e = true → e.on < j)
  (h : Region.ready .any ops.toArray listed = []) : ∀ j, j < ops.length → isListed listed j := by
 intro j
 induction j using Nat.strongRecOn with
 | _ j ih =>
  intro hj
  apply Classical.byContradiction
  intro hn
  have hget : ops[j]? = some ops[j] := List.getElem?_eq_getElem hj
  have : j ∈ Region.ready .any ops.toArray listed := by
   unfold Region.ready
   simp only [List.mem_filter, List.mem_range, Bool.and_eq_true]
   refine ⟨by simpa using hj, ?_, ?_⟩
   ·unfold isListed at hn
    rw [Array.getD_eq_getD_getElem?] at hn ⊢
    rw [Array.getElem?_eq_getElem (by omega)] at hn ⊢
    simp at hn ⊢
    exact hn
   ·have h1 : ops.toArray[j]? = some ops[j] := by simp
    rw [h1]
    simp only [Option.map_some, Option.getD_some]
    rw [← Array.all_toList, List.all_eq_true]
    intro e he
    by_cases hb : Region.binds .any e = true
    ·have hlt := hback j _ e hget he hb
     have := ih e.on hlt (by omega)
     simp only [hb, Bool.not_true, Bool.false_or]
     exact this
    ·simp [hb]
  rw [h] at this
  simp at this

theorem wpAny_ok (hE : EnvAll E) (hS : ∀ (i : Nat) (o : Oper), ops[i]? = some o → Did E ops o (S i) (S (i + 1)) (R i)) (hO : Ordered ops R) {Q : Exit → Act → World → Prop}
  (hQ : ∀ a w U ρ hpD (L : Nat → Prop), (∀ j, j < ops.length → L j) → InvD E C ops S R L a w U ρ hpD → Q .normal a w) :
  ∀ (fuel : Nat) (listed : Array Bool) (a : Act) (w : World) (U : Nat → Prop) (ρ : Nat → Option Value) (hpD : Nat → AO), listed.size = ops.length → (listed.toList.filter (! ·)).length ≤ fuel →
   InvD E C ops S R (isListed listed) a w U ρ hpD → wpAny E.P .any ops.toArray Q fuel listed a w
 | 0, listed, a, w, U, ρ, hpD, hsz, hf, h => by
  have hall : ∀ b ∈ listed.toList, b = true := by
   have : listed.toList.filter (! ·) = [] := List.eq_nil_of_length_eq_zero (by omega)
   intro b hb
   have := List.filter_eq_nil_iff.1 this b hb
   simpa using this
  have hL : ∀ j, j < ops.length → isListed listed j := by
   intro j hj
   unfold isListed
   rw [Array.getD_eq_getD_getElem?, Array.getElem?_eq_getElem (by omega)]
   exact hall _ (by simp)
  refine ⟨?_, hQ a w U ρ hpD _ hL h⟩
  apply List.eq_nil_iff_forall_not_mem.2
  intro i hi
  obtain ⟨o, ho, hn, _⟩ := ready_mem hsz hi
  exact hn (hL i (List.getElem?_eq_some_iff.1 ho).1)
 | fuel + 1, listed, a, w, U, ρ, hpD, hsz, hf, h => by
  refine ⟨fun hnil => hQ a w U ρ hpD _ (ready_nil hsz hO.back hnil) h, fun i hi => ?_⟩
  obtain ⟨o, ho, hn, hr⟩ := ready_mem hsz hi
  have hilt : i < listed.size := by rw [hsz]; exact (List.getElem?_eq_some_iff.1 ho).1
  refine exec_ok hE hS hO h ho hn hr _ Q (fun a' w' U' ρ' hpD' h' => ?_)
  refine wpAny_ok hE hS hO hQ fuel _ a' w' U' ρ' hpD' (by simpa using hsz) ?_ (by rw [listed_set hilt]; exact h')
  have hfalse : listed.toList[i]'(by simpa using hilt) = false := by
   unfold isListed at hn
   rw [Array.getD_eq_getD_getElem?, Array.getElem?_eq_getElem hilt] at hn
   simpa using hn
  have key : ∀ (l : List Bool) (i : Nat) (hi : i < l.length), l[i] = false → (l.filter (! ·)).length = ((l.set i true).filter (! ·)).length + 1 := by
   intro l
   induction l with
   | nil => intro i hi; simp at hi
   | cons b l ih =>
    intro i hi hb
    cases i with
    | zero => simp at hb; subst hb; simp
    | succ i =>
     have := ih i (by simpa using hi) (by simpa using hb)
     cases b <;> simp [this]
  have := key listed.toList i (by simpa using hilt) hfalse
  simp only [Array.toList_setIfInBounds]
  omega

theorem region_draw (hE : EnvAll E) (hm : E.P.follows .mixedOrders = true) {id : Nat} {s0 sN : RS} (h : (evalOps E ops ops s0).val = some sN) (h0 : s0.log = []) (hk0 : s0.known = []) (hord : orderOk ops sN.log = true) (hc : CnR C s0 a w U ρ) (hW : Wd E.gl C w U) :
  (Code.region id ops.toArray true).wp E.P (fun e a' w' => e = .normal ∧ ∃ U' ρ', CnR C sN a' w' U' ρ' ∧ Wd E.gl C w' U') a w := by
 obtain ⟨S, R, e0, eN, hS, hL, hkN⟩ := evalOps_trace ops s0 sN h (by intro d b hl; rw [hk0] at hl; simp at hl)
 have hO : Ordered ops R := orderOk_ok hord (by rw [hL, h0]; simp)
 have hd : Ext w { w with drawn := w.drawn + 1 } := ⟨Nat.le_refl _, rfl, rfl, rfl, fun _ _ => rfl⟩
 refine wp_region_any hm (wpAny_ok (C := C) hE hS hO ?_ ops.toArray.size (Array.replicate ops.toArray.size false) a { w with drawn := w.drawn + 1 } U ρ s0.hp (by simp) (by simp) ?_)
 ·intro a' w' U' ρ' hpD L hall hI
  refine ⟨rfl, U', ρ', ⟨⟨?_, fun j c v hc hv => ?_⟩, ?_, ?_, ?_, hI.df, hI.r0⟩, hI.W⟩
  ·rw [← eN, tlen_all hS _ (Nat.le_refl _), ← hI.tl]; simp
  ·have := hI.tm j ops.length (Nat.le_refl _) (fun j' o' ho' _ => ⟨fun _ => (List.getElem?_eq_some_iff.1 ho').1, fun hlt => hall j' hlt⟩)
   rw [eN] at this
   rw [List.getD_eq_getElem?_getD, hc, Array.getD_eq_getD_getElem?] at this
   have hv' : a'.tmps[j]? = some v := by simpa using hv
   rw [hv'] at this
   exact this
  ·have : sN.hp = hpD := by
    funext id
    have := hI.hp id ops.length (Nat.le_refl _) (fun j hj _ => ⟨fun _ => hj, fun hlt => hall j hlt⟩)
    rw [eN] at this
    exact this
   rw [this]
   exact hI.H
  ·intro id hid
   rw [← eN] at hid
   have hm0 := heap_mono hS ops.length 0 (by omega)
   rw [Nat.zero_add] at hm0
   refine hI.rn id (by omega) (fun j hj _ => ?_)
   by_cases hin : inNew (R j) id = true
   ·have := ((hS j _ (List.getElem?_eq_getElem hj)).news hin).2
    have hm1 := heap_mono hS (ops.length - (j + 1)) (j + 1) (by omega)
    rw [show j + 1 + (ops.length - (j + 1)) = ops.length by omega] at hm1
    omega
   ·simpa using hin
  ·intro d b hl
   have hsl := hI.tm d ops.length (Nat.le_refl _) (fun j' o' ho' _ => ⟨fun _ => (List.getElem?_eq_some_iff.1 ho').1, fun hlt => hall j' hlt⟩)
   rw [eN] at hsl
   have hb : a'.tmps.getD d undef = .bool b := by
    rcases hkN d b hl with h1 | h1 <;> rw [h1] at hsl <;> generalize a'.tmps.getD d undef = x at hsl <;> cases hsl <;> rfl
   rw [Array.getD_eq_getD_getElem?] at hb
   cases ht : a'.tmps[d]? with
   | none => rw [ht] at hb; simp [undef] at hb
   | some v => rw [ht] at hb; simp at hb; rw [hb]
 ·have hnone : ∀ j, ¬ isListed (Array.replicate ops.toArray.size false) j := by
   intro j
   unfold isListed
   rw [Array.getD_eq_getD_getElem?, Array.getElem?_replicate]
   split <;> simp
  have hmono : ∀ {c : AV} {x : Value}, Rv w U ρ c x → Rv { w with drawn := w.drawn + 1 } U ρ c x := fun h => h.mono (w := w) (w' := { w with drawn := w.drawn + 1 }) (Nat.le_refl _) (fun _ _ _ => rfl) (fun _ _ h => h) (fun _ _ h => h)
  refine ⟨fun j o e ho hL => (hnone j hL).elim, ⟨hW.ext.trans hd, hW.same, hW.ub, hW.u1, hW.u2, fun g => (hW.gl g).mono (w := w) (w' := { w with drawn := w.drawn + 1 }) (Nat.le_refl _) (fun _ _ _ => rfl) (fun _ _ h => h) (fun _ _ h => h)⟩,
   ⟨fun id => (hc.hp.ob id).mono (w := w) (w' := { w with drawn := w.drawn + 1 }) (Nat.le_refl _) (fun _ _ _ => rfl) (fun _ _ h => h) (fun _ _ h => h) (fun b ho => ⟨rfl, ((hc.hp.ob id).inU ho).1⟩), hc.hp.inj, hc.hp.blk⟩, ?_, ?_, ?_, ?_, hc.df, hc.r0⟩
  ·rw [e0]; have := hc.tm.len; simp at this; exact this.symm
  ·intro s k hk hcons
   have hsame : (S k).tmps.getD s .any = (S 0).tmps.getD s .any := by
    have := slots_between hS (s := s) k 0 (by omega) (fun j o ho hd h1 h2 => hnone j ((hcons j o ho hd).2 (by omega)))
    rwa [Nat.zero_add] at this
   rw [hsame, e0]
   by_cases hs : s < s0.tmps.length
   ·have hs' : s < a.tmps.toList.length := by rw [← hc.tm.len]; exact hs
    refine hmono (hc.tm.rv s _ _ (by rw [List.getD_eq_getElem?_getD, List.getElem?_eq_getElem hs]; rfl) ?_)
    rw [Array.getD_eq_getD_getElem?]
    have : s < a.tmps.size := by simpa using hs'
    simp [Array.getElem?_eq_getElem this]
   ·rw [List.getD_eq_getElem?_getD, List.getElem?_eq_none (by omega)]
    exact .any _
  ·intro id k hk hcons
   have := objs_between hS (id := id) k 0 (by omega) (fun j h1 h2 => by
    by_cases ht : touchB (R j) id = true
    ·exact (hnone j ((hcons j (by omega) ht).2 (by omega))).elim
    ·simpa using ht)
   rw [Nat.zero_add] at this
   rw [this, e0]
  ·intro id hid _
   rw [e0] at hid
   exact hc.new id hid

end
open Go

structure Cn (C : Ctx) (st : St) (a : Act) (w : World) (U : Nat → Prop) (ρ : Nat → Option Value) : Prop where
 tm : RvL w U ρ st.tmps a.tmps.toList
 hp : HpOk C w U ρ st.hp
 new : ∀ id, st.heap.length ≤ id → ρ id = none
 df : a.defers = []
 r0 : ∀ id v, C.ρ0 id = some v → ρ id = some v

section
variable {E : Env} {C : Ctx} {a : Act} {w : World} {U : Nat → Prop} {ρ : Nat → Option Value}

theorem Cn.toR {st : St} (h : Cn C st a w U ρ) : CnR C { tmps := st.tmps, heap := st.heap } a w U ρ := ⟨h.tm, h.hp, h.new, by simp, h.df, h.r0⟩
theorem CnR.out {st : RS} (h : CnR C st a w U ρ) : Cn C st.out a w U ρ := ⟨h.tm, h.hp, h.new, h.df, h.r0⟩

theorem checked_val {ops : List Oper} : ∀ {t : Tr RS} {s : RS}, (checked ops t).val = some s → t.val = some s ∧ orderOk ops s.log = true
 | .err, s, h => by simp [checked] at h
 | .chk c t, s, h => by
  cases c
  ·simp [checked, Tr.val] at h
  ·simp only [checked, Tr.val, if_true] at h ⊢
   exact checked_val h
 | .br c t f, s, h => by
  cases c
  ·simp only [checked, Tr.val, Bool.false_eq_true, if_false] at h ⊢
   exact checked_val h
  ·simp only [checked, Tr.val, if_true] at h ⊢
   exact checked_val h
 | .ok st, s, h => by
  simp only [checked] at h
  split at h
  ·rename_i ho
   simp at h; subst h
   exact ⟨rfl, ho⟩
  ·simp at h

theorem region_ok (hE : EnvAll E) (hm : E.P.follows .mixedOrders = true) {id : Nat} {ops : List Oper} {draw : Bool} {s0 sN : RS} (h0 : s0.log = []) (hk0 : s0.known = [])
  (h : (if draw then checked ops (evalOps E ops ops s0) else evalOps E ops ops s0).val = some sN) (hc : CnR C s0 a w U ρ) (hW : Wd E.gl C w U) :
  (Code.region id ops.toArray draw).wp E.P (fun e a' w' => e = .normal ∧ ∃ U' ρ', CnR C sN a' w' U' ρ' ∧ Wd E.gl C w' U') a w := by
 cases draw
 ·simp only [Bool.false_eq_true, if_false] at h
  refine wp_region ?_
  have := evalOps_ok (C := C) hE (Q := fun e a' w' => e = .normal ∧ ∃ U' ρ', CnR C sN a' w' U' ρ' ∧ Wd E.gl C w' U') (fun a' w' U' ρ' h1 h2 => ⟨rfl, U', ρ', h1, h2⟩) ops 0 s0 a w U ρ (by simp) h hc hW
  rw [← List.range_eq_range'] at this
  simpa using this
 ·simp only [if_true] at h
  obtain ⟨h1, h2⟩ := checked_val h
  exact region_draw hE hm h1 h0 hk0 h2 hc hW

theorem stepOp_touched {ops : List Oper} {o : Oper} {s s' : RS} (h : (stepOp E ops s o).val = some s') (ht : s'.touched = false) : s.touched = false ∧ s'.heap = s.heap := by
 have go : ∀ kn, (goOp E o { s with known := kn }).val = some s' → s.touched = false ∧ s'.heap = s.heap := by
  intro kn h
  unfold goOp at h
  split at h
  ·simp only [Tr.val_bind, Option.bind_eq_some_iff] at h
   obtain ⟨f, _, h⟩ := h
   split at h
   ·simp at h; subst h
    simp at ht
    obtain ⟨h1, h2, h3⟩ := ht
    refine ⟨h1, ?_⟩
    simp [h2, h3, wrAll]
   ·simp at h
  ·simp at h
 have skip : ∀ kn, skipOp o { s with known := kn } = s' → s.touched = false ∧ s'.heap = s.heap := by
  rintro kn rfl
  exact ⟨ht, rfl⟩
 unfold stepOp at h
 split at h
 ·exact go s.known h
 ·split at h
  ·simp at h; exact skip s.known h
  ·split at h
   ·split at h
    ·exact go s.known h
    ·simp at h; exact skip s.known h
   ·simp at h; exact skip s.known h
   ·rename_i b _
    rename_i want _ _ _ _ _ _
    cases b
    ·simp only [Tr.val, Bool.false_eq_true, if_false] at h
     split at h
     ·simp at h; exact skip _ h
     ·exact go _ h
    ·simp only [Tr.val, if_true] at h
     split at h
     ·exact go _ h
     ·simp at h; exact skip _ h
   ·simp at h

theorem evalOps_touched {ops : List Oper} : ∀ (r : List Oper) (s sN : RS), (evalOps E ops r s).val = some sN → sN.touched = false → sN.heap = s.heap
 | [], s, sN, h, _ => by simp [evalOps] at h; rw [h]
 | o :: r, s, sN, h, ht => by
  simp only [evalOps, Tr.val_bind, Option.bind_eq_some_iff] at h
  obtain ⟨s1, h1, h2⟩ := h
  have e2 := evalOps_touched r s1 sN h2 ht
  have t1 : s1.touched = false := by
   have key : ∀ (r : List Oper) (s sN : RS), (evalOps E ops r s).val = some sN → sN.touched = false → s.touched = false := by
    intro r
    induction r with
    | nil => intro s sN h ht; simp [evalOps] at h; rw [h]; exact ht
    | cons o r ih =>
     intro s sN h ht
     simp only [evalOps, Tr.val_bind, Option.bind_eq_some_iff] at h
     obtain ⟨s1, h1, h2⟩ := h
     exact (stepOp_touched h1 (ih s1 sN h2 ht)).1
   exact key r s1 sN h2 ht
  rw [e2, (stepOp_touched h1 t1).2]

theorem evalOps_slots {ops : List Oper} : ∀ (r : List Oper) (s sN : RS), (evalOps E ops r s).val = some sN → KnA s → sN.tmps.length = s.tmps.length ∧ ∀ d, d ∉ dsts r → sN.tmps.getD d .any = s.tmps.getD d .any
 | [], s, sN, h, _ => by simp [evalOps] at h; rw [h]; exact ⟨rfl, fun _ _ => rfl⟩
 | o :: r, s, sN, h, hk => by
  simp only [evalOps, Tr.val_bind, Option.bind_eq_some_iff] at h
  obtain ⟨s1, h1, h2⟩ := h
  obtain ⟨r0, hd, _, hk1⟩ := stepOp_did h1 hk
  obtain ⟨e1, e2⟩ := evalOps_slots r s1 sN h2 hk1
  refine ⟨by rw [e1, hd.tlen], fun d hd' => ?_⟩
  rw [e2 d (fun hin => hd' (by simp only [dsts, List.filterMap_cons]; split <;> simp_all [dsts])), hd.slots (fun e => hd' (by simp [dsts, e]))]

theorem mergeSlots_length (c : Bool) : ∀ (ds : List Nat) (pre t f : List AV), (mergeSlots c ds pre t f).length = pre.length
 | [], _, _, _ => rfl
 | d :: r, pre, t, f => by rw [mergeSlots, mergeSlots_length c r]; simp

theorem mergeSlots_getD (c : Bool) : ∀ (ds : List Nat) (pre t f : List AV) (s : Nat), (mergeSlots c ds pre t f).getD s .any = if s ∈ ds ∧ s < pre.length then (mergeAV c (t.getD s .any) (f.getD s .any)).getD .any else pre.getD s .any
 | [], pre, t, f, s => by simp [mergeSlots]
 | d :: r, pre, t, f, s => by
  rw [mergeSlots, mergeSlots_getD c r]
  simp only [List.length_set, List.mem_cons]
  by_cases hr : s ∈ r ∧ s < pre.length
  ·rw [if_pos hr, if_pos ⟨.inr hr.1, hr.2⟩]
  ·rw [if_neg hr]
   simp only [List.getD_eq_getElem?_getD, List.getElem?_set]
   by_cases hd : d = s
   ·subst hd
    by_cases hl : d < pre.length
    ·simp [hl]
    ·simp [hl]
   ·have : ¬ ((s = d ∨ s ∈ r) ∧ s < pre.length) := by
     rintro ⟨h1 | h1, h2⟩
     ·exact hd h1.symm
     ·exact hr ⟨h1, h2⟩
    rw [if_neg hd, if_neg this]

theorem flat_ok {ds : List Nat} {pre : List AV} : ∀ {t : Tr RS} {c : Option Bool} {l : List AV}, flat ds pre t = some (c, l) → (c = none ∨ c = some true) → ∃ sR, t.val = some sR ∧ sR.touched = false ∧
  (sR.tmps.length = pre.length → l.length = pre.length) ∧ ∀ s v, (s ∉ ds → sR.tmps.getD s .any = pre.getD s .any) → Rv w U ρ (sR.tmps.getD s .any) v → Rv w U ρ (l.getD s .any) v
 | .err, c, l, h, _ => by simp [flat] at h
 | .ok st, c, l, h, _ => by
  simp only [flat] at h
  split at h
  ·cases h
  ·rename_i ht
   cases h
   exact ⟨st, rfl, by simpa using ht, fun h => h, fun _ _ _ h => h⟩
 | .chk c0 t, c, l, h, hc => by
  simp only [flat] at h
  split at h
  ·rename_i l' hl
   cases h
   have : c0 = true := by simpa using hc
   subst this
   simp only [Tr.val, if_true]
   exact flat_ok hl (.inl rfl)
  ·rename_i c' l' hl
   cases h
   have : c0 = true ∧ c' = true := by simpa using hc
   obtain ⟨rfl, rfl⟩ := this
   simp only [Tr.val, if_true]
   exact flat_ok hl (.inr rfl)
  ·cases h
 | .br b t f, c, l, h, hc => by
  have key : ∀ (ct cf : Option Bool) (lt lf : List AV), flat ds pre t = some (ct, lt) → flat ds pre f = some (cf, lf) → l = mergeSlots b ds pre lt lf → (b = true → ct = none ∨ ct = some true) → (b = false → cf = none ∨ cf = some true) →
    ∃ sR, (Tr.br b t f).val = some sR ∧ sR.touched = false ∧ (sR.tmps.length = pre.length → l.length = pre.length) ∧ ∀ s v, (s ∉ ds → sR.tmps.getD s .any = pre.getD s .any) → Rv w U ρ (sR.tmps.getD s .any) v → Rv w U ρ (l.getD s .any) v := by
   rintro ct cf lt lf ht hf rfl hb1 hb2
   have fin : ∀ (sR : RS), (∀ s v, (s ∉ ds → sR.tmps.getD s .any = pre.getD s .any) → Rv w U ρ (sR.tmps.getD s .any) v → Rv w U ρ ((if b then lt else lf).getD s .any) v) →
     ∀ s v, (s ∉ ds → sR.tmps.getD s .any = pre.getD s .any) → Rv w U ρ (sR.tmps.getD s .any) v → Rv w U ρ ((mergeSlots b ds pre lt lf).getD s .any) v := by
    intro sR hs s v hpre hv
    rw [mergeSlots_getD]
    split
    ·rename_i hin
     have h1 := hs s v hpre hv
     cases hmm : mergeAV b (lt.getD s .any) (lf.getD s .any) with
     | none => exact .any _
     | some z =>
      refine mergeAV_ok hmm ?_
      cases b <;> simpa using h1
    ·rename_i hin
     by_cases hds : s ∈ ds
     ·have : ¬ s < pre.length := fun h => hin ⟨hds, h⟩
      rw [List.getD_eq_getElem?_getD, List.getElem?_eq_none (by omega)]
      exact .any _
     ·rw [← hpre hds]; exact hv
   cases b
   ·obtain ⟨sR, e1, e2, _, e4⟩ := flat_ok hf (hb2 rfl)
    exact ⟨sR, by simpa [Tr.val] using e1, e2, fun _ => mergeSlots_length _ _ _ _ _, fin sR (fun s v hp hv => by simpa using e4 s v hp hv)⟩
   ·obtain ⟨sR, e1, e2, _, e4⟩ := flat_ok ht (hb1 rfl)
    exact ⟨sR, by simpa [Tr.val] using e1, e2, fun _ => mergeSlots_length _ _ _ _ _, fin sR (fun s v hp hv => by simpa using e4 s v hp hv)⟩
  simp only [flat] at h
  split at h
  ·rename_i l1 l2 h1 h2
   split at h
   ·cases h
   cases h
   exact key _ _ _ _ h1 h2 rfl (fun _ => .inl rfl) (fun _ => .inl rfl)
  ·rename_i a1 l1 l2 h1 h2
   split at h
   ·cases h
   cases h
   refine key _ _ _ _ h1 h2 rfl (fun hb => .inr ?_) (fun _ => .inl rfl)
   subst hb; simpa using hc
  ·rename_i l1 b1 l2 h1 h2
   split at h
   ·cases h
   cases h
   refine key _ _ _ _ h1 h2 rfl (fun _ => .inl rfl) (fun hb => .inr ?_)
   subst hb; simpa using hc
  ·rename_i a1 l1 b1 l2 h1 h2
   split at h
   ·cases h
   cases h
   refine key _ _ _ _ h1 h2 rfl (fun hb => .inr ?_) (fun hb => .inr ?_) <;> (subst hb; simpa using hc)
  ·cases h

theorem evalRegion_ok (hE : EnvAll E) (hm : E.P.follows .mixedOrders = true) {id : Nat} {ops : Array Oper} {draw : Bool} {st st' : St} (h : (evalRegion E ops.toList draw st).val = some st') (hc : Cn C st a w U ρ) (hW : Wd E.gl C w U) :
  (Code.region id ops draw).wp E.P (fun e a' w' => e = .normal ∧ ∃ U' ρ', Cn C st' a' w' U' ρ' ∧ Wd E.gl C w' U') a w := by
 unfold evalRegion at h
 simp only at h
 generalize hs0 : ({ tmps := st.tmps, heap := st.heap } : RS) = s0 at h
 have hlog : s0.log = [] := by rw [← hs0]
 have hkn : s0.known = [] := by rw [← hs0]
 have hcR : CnR C s0 a w U ρ := by rw [← hs0]; exact hc.toR
 have hkA : KnA s0 := by intro d b hl; rw [hkn] at hl; simp at hl
 generalize htree : (if draw then checked ops.toList (evalOps E ops.toList ops.toList s0) else evalOps E ops.toList ops.toList s0) = t at h
 have plain : ∀ sN, t.val = some sN → (Code.region id ops draw).wp E.P (fun e a' w' => e = .normal ∧ ∃ U' ρ', CnR C sN a' w' U' ρ' ∧ Wd E.gl C w' U') a w := by
  intro sN hv
  have := region_ok (id := id) hE hm hlog hkn (by rw [htree]; exact hv) hcR hW
  simpa using this
 have raw : ∀ sN, t.val = some sN → (evalOps E ops.toList ops.toList s0).val = some sN := by
  intro sN hv
  rw [← htree] at hv
  cases draw
  ·simpa using hv
  ·simp only [if_true] at hv
   exact (checked_val hv).1
 have bare : (t.bind fun s => Tr.ok s.out).val = some st' → (Code.region id ops draw).wp E.P (fun e a' w' => e = .normal ∧ ∃ U' ρ', Cn C st' a' w' U' ρ' ∧ Wd E.gl C w' U') a w := by
  intro h
  simp only [Tr.val_bind, Option.bind_eq_some_iff] at h
  obtain ⟨sN, hv, h⟩ := h
  simp at h; subst h
  exact wp_mono (plain sN hv) (fun e a' w' ⟨h1, U', ρ', h2, h3⟩ => ⟨h1, U', ρ', h2.out, h3⟩)
 have merged : ∀ c l, flat (dsts ops.toList) st.tmps t = some (c, l) → (c = none ∨ c = some true) → st' = { st with tmps := l } →
   (Code.region id ops draw).wp E.P (fun e a' w' => e = .normal ∧ ∃ U' ρ', Cn C st' a' w' U' ρ' ∧ Wd E.gl C w' U') a w := by
  rintro c l hfl hcc rfl
  obtain ⟨sR, hv, ht, hl, _⟩ := flat_ok (w := w) (U := U) (ρ := ρ) hfl hcc
  obtain ⟨hlen, hsl⟩ := evalOps_slots ops.toList s0 sR (raw sR hv) hkA
  have hheap := evalOps_touched ops.toList s0 sR (raw sR hv) ht
  refine wp_mono (plain sR hv) (fun e a' w' ⟨h1, U', ρ', h2, h3⟩ => ⟨h1, U', ρ', ⟨⟨?_, fun j c v hc' hv' => ?_⟩, ?_, ?_, h2.df, h2.r0⟩, h3⟩)
  ·have := h2.tm.len
   have e0 : s0.tmps = st.tmps := by rw [← hs0]
   rw [hl (by rw [hlen, e0]), ← e0, ← hlen]; exact this
  ·obtain ⟨sR', hv2, _, _, hr⟩ := flat_ok (w := w') (U := U') (ρ := ρ') hfl hcc
   rw [hv] at hv2; cases hv2
   have hj : j < sR.tmps.length := by rw [h2.tm.len]; exact (List.getElem?_eq_some_iff.1 hv').1
   have e0 : s0.tmps = st.tmps := by rw [← hs0]
   have := hr j v (fun hd => by rw [hsl j hd, e0]) (h2.tm.rv j _ v (by rw [List.getD_eq_getElem?_getD, List.getElem?_eq_getElem hj]; rfl) hv')
   rw [List.getD_eq_getElem?_getD, hc'] at this
   exact this
  ·have : sR.hp = ({ st with tmps := l } : St).hp := by
    funext i
    simp only [RS.hp, St.hp, hheap, ← hs0]
   rw [← this]; exact h2.hp
  ·have : sR.heap.length = st.heap.length := by rw [hheap, ← hs0]
   intro i hi
   exact h2.new i (by rw [this]; exact hi)
 split at h
 ·split at h
  ·rename_i l hfl
   simp at h
   exact merged none l hfl (.inl rfl) h.symm
  ·rename_i c l hfl
   simp at h
   exact merged (some c) l hfl (.inr (by rw [h.1])) h.2.symm
  ·exact bare h
 ·exact bare h

end
open Go
section
variable {E : Env} {C : Ctx} {a : Act} {w : World} {U : Nat → Prop} {ρ : Nat → Option Value}

theorem mask_get (keep : List Nat) : ∀ (l : List AV) (i j : Nat), (mask keep i l)[j]? = (l[j]?).map fun v => if keep.contains (i + j) then v else .any
 | [], _, _ => by simp [mask]
 | v :: r, i, 0 => by simp [mask]
 | v :: r, i, j + 1 => by
  simp only [mask, List.getElem?_cons_succ]
  rw [mask_get keep r (i + 1) j, show i + 1 + j = i + (j + 1) by omega]

theorem mask_len (keep : List Nat) : ∀ (l : List AV) (i : Nat), (mask keep i l).length = l.length
 | [], _ => rfl
 | v :: r, i => by simp [mask, mask_len keep r]

theorem mask_ok {st : St} (keep : List Nat) (h : Cn C st a w U ρ) : Cn C { st with tmps := mask keep 0 st.tmps } a w U ρ := by
 refine ⟨⟨by rw [mask_len]; exact h.tm.len, fun j c v hc hv => ?_⟩, h.hp, h.new, h.df, h.r0⟩
 rw [mask_get] at hc
 simp only [Option.map_eq_some_iff] at hc
 obtain ⟨c', hc', rfl⟩ := hc
 split
 ·exact h.tm.rv j c' v hc' hv
 ·exact .any v

theorem prom_hp {hp hp' : Nat → AO} {n : Nat} {e : Sh} {x : Option Addr} (hH : HpOk C w U ρ hp) (hn : ρ n = none) (hnew : hp' n = .vec e [])
  (hold : ∀ id, id ≠ n → objOk w U (upd ρ n (.slice x 0 0)) id (hp' id) ∧ ∀ b, ownsB (upd ρ n (.slice x 0 0)) id (hp' id) b → ownsB ρ id (hp id) b) : HpOk C w U (upd ρ n (.slice x 0 0)) hp' := by
 have none : ∀ b, ¬ ownsB (upd ρ n (.slice x 0 0)) n (hp' n) b := by
  rintro b ⟨_, v, hv, hb⟩
  simp [upd] at hv; subst hv
  cases x <;> simp [blkOf] at hb
 refine ⟨fun id => ?_, fun id1 id2 b h1 h2 => ?_, fun id b h => ?_⟩
 ·by_cases hid : id = n
  ·subst hid; rw [hnew]
   exact ⟨x, 0, by simp [upd], by simp, .inl ⟨rfl, rfl⟩⟩
  ·exact (hold id hid).1
 ·by_cases e1 : id1 = n
  ·subst e1; exact (none b h1).elim
  ·by_cases e2 : id2 = n
   ·subst e2; exact (none b h2).elim
   ·exact hH.inj id1 id2 b ((hold id1 e1).2 b h1) ((hold id2 e2).2 b h2)
 ·by_cases e1 : id = n
  ·subst e1; exact (none b h).elim
  ·exact hH.blk id b ((hold id e1).2 b h)

theorem owns_upd {n id : Nat} {v : Value} {o : AO} {b : Nat} (hid : id ≠ n) (h : ownsB (upd ρ n v) id o b) : ownsB ρ id o b := by
 obtain ⟨h1, x, hx, hb⟩ := h
 simp only [upd, if_neg hid] at hx
 exact ⟨h1, x, hx, hb⟩

theorem prom1_ok {st : St} (p : Nat × Option Nat × Sh) (h : Cn C st a w U ρ) : ∃ ρ', Cn C (prom1 st p) a w U ρ' := by
 have hn : ρ st.heap.length = none := h.new _ (Nat.le_refl _)
 have mono : ∀ (x : Option Addr) {c : AV} {v : Value}, Rv w U ρ c v → Rv w U (upd ρ st.heap.length (.slice x 0 0)) c v := fun x _ _ hr => hr.mono (Nat.le_refl _) (fun _ _ _ => rfl) (fun _ _ h => h) (upd_old hn)
 have omono : ∀ (x : Option Addr) (id : Nat), objOk w U (upd ρ st.heap.length (.slice x 0 0)) id (st.hp id) := fun x id =>
  (h.hp.ob id).mono (Nat.le_refl _) (fun _ _ _ => rfl) (fun _ _ h => h) (upd_old hn) (fun b ho => ⟨rfl, ((h.hp.ob id).inU ho).1⟩)
 have hpapp : ∀ (hs : List AO) (o : AO), hs.length = st.heap.length → (hs ++ [o]).getD st.heap.length .dead = o := by
  intro hs o hl
  rw [List.getD_eq_getElem?_getD, List.getElem?_append_right (by omega), hl]
  simp
 have hpold : ∀ (hs : List AO) (o : AO) (id : Nat), hs.length = st.heap.length → id ≠ st.heap.length → (hs ++ [o]).getD id .dead = hs.getD id .dead := by
  intro hs o id hl hid
  simp only [List.getD_eq_getElem?_getD]
  by_cases hlt : id < hs.length
  ·rw [List.getElem?_append_left hlt]
  ·rw [List.getElem?_eq_none (by simp; omega), List.getElem?_eq_none (by omega)]
 have newOk : ∀ (x : Option Addr) (hs : List AO) (o : AO), hs.length = st.heap.length → ∀ id, (hs ++ [o]).length ≤ id → upd ρ st.heap.length (.slice x 0 0) id = none := by
  intro x hs o hl id hid
  simp at hid
  simp only [upd]
  rw [if_neg (by omega)]
  exact h.new id (by omega)
 obtain ⟨s, c, e⟩ := p
 cases c with
 | none =>
  simp only [prom1]
  split
  ·rename_i hs
   have hlt : s < st.tmps.length := by
    apply Classical.byContradiction
    intro hge
    rw [List.getD_eq_getElem?_getD, List.getElem?_eq_none (by omega)] at hs
    cases hs
   have hs' : st.tmps[s]? = some .nils := by
    rw [List.getD_eq_getElem?_getD, List.getElem?_eq_getElem hlt] at hs
    rw [List.getElem?_eq_getElem hlt]; simpa using hs
   have hlt' : s < a.tmps.toList.length := by rw [← h.tm.len]; exact hlt
   have hv := h.tm.rv s _ _ hs' (List.getElem?_eq_getElem hlt')
   generalize hx : a.tmps.toList[s] = x at hv
   cases hv with
   | nils ad =>
   refine ⟨upd ρ st.heap.length (.slice ad 0 0), ⟨by simp [h.tm.len], fun j c v hc hv => ?_⟩, prom_hp h.hp hn (hpapp _ _ rfl) (fun id hid => ?_), newOk ad _ _ rfl, h.df, fun id v hr => upd_old hn id v (h.r0 id v hr)⟩
   ·rw [List.getElem?_set] at hc
    split at hc
    ·rename_i hsj
     subst hsj
     cases hc
     rw [List.getElem?_eq_getElem hlt', hx] at hv
     cases hv
     exact .vec _ _ (by simp [upd]) rfl
    ·exact mono ad (h.tm.rv j c v hc hv)
   ·have : ({ tmps := st.tmps.set s (.vec st.heap.length), heap := st.heap ++ [.vec e []] } : St).hp id = st.hp id := hpold st.heap _ id rfl hid
    rw [this]
    exact ⟨omono ad id, fun b hb => owns_upd hid hb⟩
  ·exact ⟨ρ, h⟩
 | some c =>
  simp only [prom1]
  split
  ·rename_i id hsl
   split
   ·rename_i cs hcs
    split
    ·rename_i hnil
     have ho := h.hp.ob id
     rw [hcs] at ho
     obtain ⟨b, T, vals, h1, h2, h3, h4, h5⟩ := ho
     have hclt : c < cs.length := by
      apply Classical.byContradiction
      intro hge
      rw [List.getD_eq_getElem?_getD, List.getElem?_eq_none (by omega)] at hnil
      cases hnil
     have hc' : cs[c]? = some .nils := by
      rw [List.getD_eq_getElem?_getD, List.getElem?_eq_getElem hclt] at hnil
      rw [List.getElem?_eq_getElem hclt]; simpa using hnil
     have hvlt : c < vals.toList.length := by rw [← h4.len]; exact hclt
     have hv := h4.rv c _ _ hc' (List.getElem?_eq_getElem hvlt)
     generalize hx : vals.toList[c] = x at hv
     cases hv with
     | nils ad =>
     have hidlt : id < st.heap.length := by
      apply Classical.byContradiction
      intro hge
      have := h.new id (by omega)
      rw [h1] at this; cases this
     have hne : id ≠ st.heap.length := by omega
     refine ⟨upd ρ st.heap.length (.slice ad 0 0), ⟨h.tm.len, fun j cc v hc hv => mono ad (h.tm.rv j cc v hc hv)⟩, prom_hp h.hp hn (hpapp _ _ (by simp)) (fun id' hid' => ?_), newOk ad _ _ (by simp), h.df, fun i v hr => upd_old hn i v (h.r0 i v hr)⟩
     have e0 : ({ tmps := st.tmps, heap := st.heap.set id (.box (cs.set c (.vec st.heap.length))) ++ [.vec e []] } : St).hp id' = (st.heap.set id (.box (cs.set c (.vec st.heap.length)))).getD id' .dead := hpold _ _ id' (by simp) hid'
     rw [e0]
     by_cases hii : id = id'
     ·subst hii
      have e1 : (st.heap.set id (.box (cs.set c (.vec st.heap.length)))).getD id .dead = .box (cs.set c (.vec st.heap.length)) := by
       simp [List.getD_eq_getElem?_getD, List.getElem?_set_self hidlt]
      rw [e1]
      refine ⟨⟨b, T, vals, upd_old hn _ _ h1, h2, h3, ⟨by simp [h4.len], fun j cc v hc hv => ?_⟩, h5⟩, fun b' hb => ?_⟩
      ·rw [List.getElem?_set] at hc
       split at hc
       ·rename_i hcj
        subst hcj
        cases hc
        rw [List.getElem?_eq_getElem hvlt, hx] at hv
        cases hv
        exact .vec _ _ (by simp [upd]) rfl
       ·exact mono ad (h4.rv j cc v hc hv)
      ·obtain ⟨_, v, hv, hbb⟩ := owns_upd hid' hb
       exact ⟨by rw [hcs]; rfl, v, hv, hbb⟩
     ·have e1 : (st.heap.set id (.box (cs.set c (.vec st.heap.length)))).getD id' .dead = st.hp id' := by
       simp [St.hp, List.getD_eq_getElem?_getD, List.getElem?_set_ne hii]
      rw [e1]
      exact ⟨omono ad id', fun b hb => owns_upd hid' hb⟩
    ·exact ⟨ρ, h⟩
   ·exact ⟨ρ, h⟩
  ·exact ⟨ρ, h⟩

theorem proms_ok : ∀ (ps : List (Nat × Option Nat × Sh)) {st : St} {ρ : Nat → Option Value}, Cn C st a w U ρ → ∃ ρ', Cn C (ps.foldl prom1 st) a w U ρ'
 | [], _, ρ, h => ⟨ρ, h⟩
 | p :: ps, st, ρ, h => by
  obtain ⟨ρ', h'⟩ := prom1_ok p h
  exact proms_ok ps h'

theorem sett1_ok {gl : Nat → AV} {st : St} (p : Nat × Nat) (h : Cn C st a w U ρ) (hW : Wd gl C w U) : ∃ U', Cn C (sett1 st p) a w U' ρ ∧ Wd gl C w U' := by
 obtain ⟨s, c⟩ := p
 simp only [sett1]
 split
 ·rename_i id hsl
  split
  ·rename_i cs hcs
   split
   ·rename_i k hck
    split
    ·rename_i e l hfz
     have hvf : isVF (st.hp k) = true := by cases hk : st.hp k <;> rw [hk] at hfz <;> simp [frzO] at hfz <;> rfl
     have hef := Ef.frz (w := w) (U := U) (ρ := ρ) (n := st.heap.length) (hp := st.hp) (ids := [k]) (r := .any) (v := undef) hW.ub (by simpa using hvf) (fun j _ => h.hp.ob j) (.any _)
     generalize (fun b => U b ∧ ¬ ∃ j ∈ [k], ownsB ρ j (st.hp j) b) = U' at hef
     have hwr : frzIds st.hp [k] = [(k, .frz e l)] := by simp [frzIds, hfz]
     rw [hwr] at hef
     obtain ⟨hW', hH', mono⟩ := apply_ef (hp' := fun id => if id = k then .frz e l else st.hp id) hW h.hp hef (fun _ _ _ => rfl)
      (fun i hi => by
       obtain ⟨o, ho⟩ := hi
       simp at ho
       exact ⟨.frz e l, by simp [ho.1], by simp [ho.1]⟩)
      (fun j o hj => by simp at hj)
      (fun i hno _ => by
       have : i ≠ k := fun e' => hno ⟨.frz e l, by simp [e']⟩
       simp [this])
     have hik : id ≠ k := by
      rintro rfl
      rw [hcs] at hvf
      cases hvf
     have ok := hH'.ob k
     simp only [if_true] at ok
     obtain ⟨vk, hvk, hrk⟩ := ok
     have oi := hH'.ob id
     simp only [if_neg hik, hcs] at oi
     obtain ⟨b, T, vals, h1, h2, h3, h4, h5⟩ := oi
     have hil : id < st.heap.length := by
      apply Classical.byContradiction
      intro hge
      have := h.new id (by omega)
      rw [h1] at this; cases this
     have hkl : k < st.heap.length := by
      apply Classical.byContradiction
      intro hge
      have := h.new k (by omega)
      rw [hvk] at this; cases this
     have hclt : c < cs.length := by
      apply Classical.byContradiction
      intro hge
      rw [List.getD_eq_getElem?_getD, List.getElem?_eq_none (by omega)] at hck
      cases hck
     have hc' : cs[c]? = some (.vec k) := by
      rw [List.getD_eq_getElem?_getD, List.getElem?_eq_getElem hclt] at hck
      rw [List.getElem?_eq_getElem hclt]; simpa using hck
     have hhp : ∀ i, ({ tmps := st.tmps, heap := (st.heap.set k (.frz e l)).set id (.box (cs.set c (.sl e l))) } : St).hp i = if i = id then .box (cs.set c (.sl e l)) else if i = k then .frz e l else st.hp i := by
      intro i
      simp only [St.hp, List.getD_eq_getElem?_getD]
      by_cases hi : i = id
      ·subst hi
       rw [List.getElem?_set_self (by simpa using hil), if_pos rfl]; rfl
      ·rw [List.getElem?_set_ne (fun e' => hi e'.symm), if_neg hi]
       by_cases hk : i = k
       ·subst hk
        rw [List.getElem?_set_self hkl, if_pos rfl]; rfl
       ·rw [List.getElem?_set_ne (fun e' => hk e'.symm), if_neg hk]
     have hown : ∀ i b', ownsB ρ i (if i = id then .box (cs.set c (.sl e l)) else if i = k then .frz e l else st.hp i) b' → ownsB ρ i (if i = k then AO.frz e l else st.hp i) b' := by
      intro i b' ho
      by_cases hi : i = id
      ·subst hi
       rw [if_neg hik, hcs]
       obtain ⟨_, v, hv, hb⟩ := ho
       exact ⟨rfl, v, hv, hb⟩
      ·rwa [if_neg hi] at ho
     refine ⟨U', ⟨⟨h.tm.len, fun j cc v hc hv => mono (h.tm.rv j cc v hc hv)⟩, ⟨fun i => ?_, fun i1 i2 b' o1 o2 => ?_, fun i b' o => ?_⟩, fun i hi => h.new i (by simpa using hi), h.df, h.r0⟩, hW'⟩
     ·rw [hhp]
      by_cases hi : i = id
      ·subst hi
       rw [if_pos rfl]
       refine ⟨b, T, vals, h1, h2, h3, ⟨by simp [h4.len], fun j cc v hc hv => ?_⟩, h5⟩
       rw [List.getElem?_set] at hc
       split at hc
       ·rename_i hcj
        subst hcj
        cases hc
        have := h4.rv c _ v hc' hv
        cases this with
        | vec _ _ hr _ =>
        rw [hvk] at hr
        cases hr
        exact hrk
       ·exact h4.rv j cc v hc hv
      ·rw [if_neg hi]
       exact hH'.ob i
     ·rw [hhp] at o1 o2
      exact hH'.inj i1 i2 b' (hown _ _ o1) (hown _ _ o2)
     ·rw [hhp] at o
      exact hH'.blk i b' (hown _ _ o)
    ·exact ⟨U, h, hW⟩
   ·exact ⟨U, h, hW⟩
  ·exact ⟨U, h, hW⟩
 ·exact ⟨U, h, hW⟩

theorem setts_ok {gl : Nat → AV} : ∀ (ps : List (Nat × Nat)) {st : St} {U : Nat → Prop}, Cn C st a w U ρ → Wd gl C w U → ∃ U', Cn C (ps.foldl sett1 st) a w U' ρ ∧ Wd gl C w U'
 | [], _, U, h, hW => ⟨U, h, hW⟩
 | p :: ps, st, U, h, hW => by
  obtain ⟨U', h', hW'⟩ := sett1_ok p h hW
  exact setts_ok ps h' hW'

theorem renL_map (f : Nat → Nat) : ∀ cs : List AV, AV.renL f cs = cs.map (AV.ren f)
 | [] => rfl
 | c :: cs => by simp [AV.renL, renL_map f cs]

theorem explode_ren (f : Nat → Nat) : ∀ (e : Sh) (x : Sem e) (q : Nat) (c : AV), (explode e x)[q]? = some c → c.ren f = c := by
 intro e
 induction e with
 | unit => intro y q cc h; simp [explode] at h
 | bool => intro y q cc h; cases q <;> simp [explode] at h; subst h; simp [AV.ren]
 | int k => intro y q cc h; cases q <;> simp [explode] at h; subst h; simp [AV.ren]
 | str => intro y q cc h; cases q <;> simp [explode] at h; subst h; simp [AV.ren]
 | sl e ih => intro y q cc h; cases q <;> simp [explode] at h; subst h; simp [AV.ren]
 | pr a b iha ihb =>
  intro y q cc h
  simp only [explode] at h
  rcases Nat.lt_or_ge q (explode a y.1).length with hl | hl
  ·rw [List.getElem?_append_left hl] at h; exact iha _ _ _ h
  ·rw [List.getElem?_append_right hl] at h; exact ihb _ _ _ h
 | expr =>
  intro y q cc h
  match q with
  | 0 => simp [explode] at h; subst h; simp [AV.ren]
  | 1 => simp [explode] at h; subst h; simp [AV.ren]
  | 2 => simp [explode] at h; subst h; simp [AV.ren]
  | 3 => simp [explode] at h; subst h; simp [AV.ren]
  | 4 => simp [explode] at h; subst h; simp [AV.ren]
  | 5 => simp [explode] at h; subst h; simp [AV.ren]
  | _ + 6 => simp [explode] at h

theorem explode_ids : ∀ (e : Sh) (x : Sem e) (q : Nat) (c : AV), (explode e x)[q]? = some c → c.ids = [] := by
 intro e
 induction e with
 | unit => intro y q cc h; simp [explode] at h
 | bool => intro y q cc h; cases q <;> simp [explode] at h; subst h; simp [AV.ids]
 | int k => intro y q cc h; cases q <;> simp [explode] at h; subst h; simp [AV.ids]
 | str => intro y q cc h; cases q <;> simp [explode] at h; subst h; simp [AV.ids]
 | sl e ih => intro y q cc h; cases q <;> simp [explode] at h; subst h; simp [AV.ids]
 | pr a b iha ihb =>
  intro y q cc h
  simp only [explode] at h
  rcases Nat.lt_or_ge q (explode a y.1).length with hl | hl
  ·rw [List.getElem?_append_left hl] at h; exact iha _ _ _ h
  ·rw [List.getElem?_append_right hl] at h; exact ihb _ _ _ h
 | expr =>
  intro y q cc h
  match q with
  | 0 => simp [explode] at h; subst h; simp [AV.ids]
  | 1 => simp [explode] at h; subst h; simp [AV.ids]
  | 2 => simp [explode] at h; subst h; simp [AV.ids]
  | 3 => simp [explode] at h; subst h; simp [AV.ids]
  | 4 => simp [explode] at h; subst h; simp [AV.ids]
  | 5 => simp [explode] at h; subst h; simp [AV.ids]
  | _ + 6 => simp [explode] at h

theorem Rv.ren' {ρ' : Nat → Option Value} {f : Nat → Nat} {c : AV} {v : Value} (h : Rv w U ρ c v) (hf : ∀ id ∈ c.ids, ∀ v, ρ id = some v → ρ' (f id) = some v) : Rv w U ρ' (c.ren f) v := by
 induction h with
 | any v => simp only [AV.ren]; exact .any v
 | kb b => simp only [AV.ren]; exact .kb b
 | bool b => simp only [AV.ren]; exact .bool b
 | int k n h => simp only [AV.ren]; exact .int k n h
 | str s h => simp only [AV.ren]; exact .str s h
 | nils a => simp only [AV.ren]; exact .nils a
 | sl0 e a c => simp only [AV.ren]; exact .sl0 e a c
 | sl e l b o c vals hc hm hb hU hcl hr ih =>
  simp only [AV.ren]
  refine .sl e l b o c vals hc hm hb hU hcl (fun i hi j cc hcc => ?_)
  have := ih i hi j cc hcc (fun id hid => by rw [explode_ids e _ j cc hcc] at hid; simp at hid)
  rwa [explode_ren f e _ j cc hcc] at this
 | vec id v h h1 => simp only [AV.ren]; exact .vec _ v (hf id (by simp [AV.ids]) _ h) h1
 | ptr id off b h => simp only [AV.ren]; exact .ptr _ off b (hf id (by simp [AV.ids]) _ h)
 | vptr id sz i off b n c h => simp only [AV.ren]; exact .vptr _ sz i off b n c (hf id (by simp [AV.ids]) _ h)
 | eptr cs off b o vals hb hU hcl h1 hr ih =>
  simp only [AV.ren, renL_map]
  refine .eptr _ off b o vals hb hU (by simpa using hcl) (by simpa using h1) (fun j c hc => ?_)
  simp only [List.getElem?_map, Option.map_eq_some_iff] at hc
  obtain ⟨c', hc', rfl⟩ := hc
  exact ih j c' hc' (fun id hid => hf id (by simp only [AV.ids]; exact idsL_mem (List.mem_of_getElem? hc') hid))
 | nilp => simp only [AV.ren]; exact .nilp
 | agg cs vs hl h1 hr ih =>
  simp only [AV.ren, renL_map]
  refine .agg _ vs (by simpa using hl) h1 (fun j c v hc hv => ?_)
  simp only [List.getElem?_map, Option.map_eq_some_iff] at hc
  obtain ⟨c', hc', rfl⟩ := hc
  exact ih j c' v hc' hv (fun id hid => hf id (by simp only [AV.ids]; exact idsL_mem (List.mem_of_getElem? hc') hid))
 | tup cs vs hl hr ih =>
  simp only [AV.ren, renL_map]
  refine .tup _ vs (by simpa using hl) (fun j c v hc hv => ?_)
  simp only [List.getElem?_map, Option.map_eq_some_iff] at hc
  obtain ⟨c', hc', rfl⟩ := hc
  exact ih j c' v hc' hv (fun id hid => hf id (by simp only [AV.ids]; exact idsL_mem (List.mem_of_getElem? hc') hid))
 | clo fn fs cs vf vc hfl hcl hrf hrc ihf ihc =>
  simp only [AV.ren, renL_map]
  refine .clo fn _ _ vf vc (by simpa using hfl) (by simpa using hcl) (fun j c v hc hv => ?_) (fun j c v hc hv => ?_)
  ·simp only [List.getElem?_map, Option.map_eq_some_iff] at hc
   obtain ⟨c', hc', rfl⟩ := hc
   exact ihf j c' v hc' hv (fun id hid => hf id (by simp only [AV.ids, List.mem_append]; exact .inl (idsL_mem (List.mem_of_getElem? hc') hid)))
  ·simp only [List.getElem?_map, Option.map_eq_some_iff] at hc
   obtain ⟨c', hc', rfl⟩ := hc
   exact ihc j c' v hc' hv (fun id hid => hf id (by simp only [AV.ids, List.mem_append]; exact .inr (idsL_mem (List.mem_of_getElem? hc') hid)))
 | nilf => simp only [AV.ren]; exact .nilf
 | mp id v h h1 => simp only [AV.ren]; exact .mp _ v (hf id (by simp [AV.ids]) _ h) h1
 | ifcN => simp only [AV.ren]; exact .ifcN
 | ifcS t v => simp only [AV.ren]; exact .ifcS t v
 | tab k zs b T fr hb hU => simp only [AV.ren]; exact .tab k zs b T fr hb hU
 | gint m b T fr hm hb hU => simp only [AV.ren]; exact .gint m b T fr hm hb hU
 | vsuf id sz i n c a h hi hn => simp only [AV.ren]; exact .vsuf _ sz i n c a (hf id (by simp [AV.ids]) _ h) hi hn

theorem RvL.ren' {ρ' : Nat → Option Value} {f : Nat → Nat} {cs : List AV} {vs : List Value} (h : RvL w U ρ cs vs) (hf : ∀ id ∈ AV.idsL cs, ∀ v, ρ id = some v → ρ' (f id) = some v) : RvL w U ρ' (AV.renL f cs) vs := by
 rw [renL_map]
 refine ⟨by simpa using h.len, fun j c v hc hv => ?_⟩
 simp only [List.getElem?_map, Option.map_eq_some_iff] at hc
 obtain ⟨c', hc', rfl⟩ := hc
 exact (h.rv j c' v hc' hv).ren' (fun id hid => hf id (idsL_mem (List.mem_of_getElem? hc') hid))

theorem objOk.ren' {ρ' : Nat → Option Value} {f : Nat → Nat} {id id' : Nat} {o : AO} (h : objOk w U ρ id o) (hid : ∀ v, ρ id = some v → ρ' id' = some v) (hf : ∀ i ∈ o.ids, ∀ v, ρ i = some v → ρ' (f i) = some v) : objOk w U ρ' id' (o.ren f) := by
 have plain : ∀ (e : Sh) (x : Sem e) (j : Nat) (c : AV) (v : Value), (explode e x)[j]? = some c → Rv w U ρ c v → Rv w U ρ' c v := by
  intro e x j c v hc hr
  have := hr.ren' (ρ' := ρ') (f := f) (fun i hi => by rw [explode_ids e x j c hc] at hi; simp at hi)
  rwa [explode_ren f e x j c hc] at this
 cases o with
 | dead => trivial
 | box cs =>
  obtain ⟨b, T, vals, h1, h2, h3, h4, h5⟩ := h
  exact ⟨b, T, vals, hid _ h1, h2, h3, h4.ren' hf, h5⟩
 | vec e l =>
  obtain ⟨a, c, h1, h2, h3⟩ := h
  refine ⟨a, c, hid _ h1, h2, ?_⟩
  rcases h3 with h3 | ⟨b, T, arr, rfl, hc, hU, hb, hsz, hle, hr⟩
  ·exact .inl h3
  ·refine .inr ⟨b, T, arr, rfl, hc, hU, hb, hsz, hle, fun i hi j c hx => ?_⟩
   obtain ⟨v, hv, hrv⟩ := hr i hi j c hx
   exact ⟨v, hv, plain e _ j c v hx hrv⟩
 | frz e l =>
  obtain ⟨v, h1, h2⟩ := h
  refine ⟨v, hid _ h1, ?_⟩
  have := h2.ren' (ρ' := ρ') (f := f) (by simp [AV.ids])
  simpa [AV.ren] using this
 | fmap es =>
  obtain ⟨r, ents, clock, h1, h2, h3, h4, h5⟩ := h
  refine ⟨r, ents, clock, hid _ h1, h2, h3, ?_, by rw [h5]; simp⟩
  have := h4.ren' (ρ' := ρ') (f := f) hf
  rw [renL_map] at this
  simpa [List.map_map, Function.comp_def] using this
 | vmap u es =>
  obtain ⟨r, ents, clock, h1, h2, h3, h4, h5⟩ := h
  exact ⟨r, ents, clock, hid _ h1, h2, h3, h4, h5⟩

theorem Rv.ren {ρ' : Nat → Option Value} {f : Nat → Nat} {c : AV} {v : Value} (h : Rv w U ρ c v) (hf : ∀ id ∈ c.ids, ρ' (f id) = ρ id) : Rv w U ρ' (c.ren f) v :=
 h.ren' fun id hid v hv => by rw [hf id hid]; exact hv

theorem RvL.ren {ρ' : Nat → Option Value} {f : Nat → Nat} {cs : List AV} {vs : List Value} (h : RvL w U ρ cs vs) (hf : ∀ id ∈ AV.idsL cs, ρ' (f id) = ρ id) : RvL w U ρ' (AV.renL f cs) vs :=
 h.ren' fun id hid v hv => by rw [hf id hid]; exact hv

theorem objOk.ren {ρ' : Nat → Option Value} {f : Nat → Nat} {id id' : Nat} {o : AO} (h : objOk w U ρ id o) (hid : ρ' id' = ρ id) (hf : ∀ i ∈ o.ids, ρ' (f i) = ρ i) : objOk w U ρ' id' (o.ren f) :=
 h.ren' (fun v hv => by rw [hid]; exact hv) fun id hid v hv => by rw [hf id hid]; exact hv

theorem owns_ren {f : Nat → Nat} (o : AO) : (o.ren f).owns = o.owns := by cases o <;> rfl

theorem noDup_ok : ∀ {l : List Nat}, noDup l = true → l.Nodup
 | [], _ => List.nodup_nil
 | i :: r, h => by
  simp [noDup] at h
  exact List.nodup_cons.2 ⟨h.1, noDup_ok h.2⟩

theorem reId_ok {n0 : Nat} {ids from_ : List Nat} {hp : Nat → AO} (hC : ∀ id, n0 ≤ id → C.ρ0 id = none) (hcl : closedIds hp n0 from_ ids = true) (hH : HpOk C w U ρ hp) (hr0 : ∀ id v, C.ρ0 id = some v → ρ id = some v) :
  let ρ' := fun j => (ids[j]?).bind ρ
  (∀ id ∈ from_, ρ' (ids.idxOf id) = ρ id) ∧ HpOk C w U ρ' (fun j => (ids.map fun i => (hp i).ren fun i => ids.idxOf i).getD j .dead) ∧ (∀ id, ids.length ≤ id → ρ' id = none) ∧ ∀ id v, C.ρ0 id = some v → ρ' id = some v := by
 intro ρ'
 simp only [closedIds, Bool.and_eq_true, List.all_eq_true, List.contains_iff_mem, beq_iff_eq] at hcl
 obtain ⟨⟨⟨h1, h2⟩, h3⟩, h4⟩ := hcl
 have hnd := noDup_ok h3
 have hat : ∀ id ∈ ids, ρ' (ids.idxOf id) = ρ id := by
  intro id hid
  have hlt : ids.idxOf id < ids.length := List.idxOf_lt_length_iff.2 hid
  show (ids[ids.idxOf id]?).bind ρ = ρ id
  rw [List.getElem?_eq_getElem hlt, List.getElem_idxOf hlt]
  rfl
 have hj : ∀ j (hj : j < ids.length), ρ' j = ρ ids[j] := by
  intro j hj
  show (ids[j]?).bind ρ = ρ ids[j]
  rw [List.getElem?_eq_getElem hj]
  rfl
 have hhp : ∀ j (hj : j < ids.length), (ids.map fun i => (hp i).ren fun i => ids.idxOf i).getD j .dead = (hp ids[j]).ren fun i => ids.idxOf i := by
  intro j hj
  rw [List.getD_eq_getElem?_getD, List.getElem?_map, List.getElem?_eq_getElem hj]
  rfl
 have hhp' : ∀ j, ids.length ≤ j → (ids.map fun i => (hp i).ren fun i => ids.idxOf i).getD j .dead = .dead := by
  intro j hj
  rw [List.getD_eq_getElem?_getD, List.getElem?_eq_none (by simpa using hj)]
  rfl
 have howns : ∀ j b, ownsB ρ' j ((ids.map fun i => (hp i).ren fun i => ids.idxOf i).getD j .dead) b → ∃ hj : j < ids.length, ownsB ρ ids[j] (hp ids[j]) b := by
  rintro j b ⟨ho, v, hv, hb⟩
  by_cases hlt : j < ids.length
  ·refine ⟨hlt, ?_, v, by rw [← hj j hlt]; exact hv, hb⟩
   rw [hhp j hlt, owns_ren] at ho
   exact ho
  ·rw [hhp' j (by omega)] at ho
   simp [AO.owns] at ho
 refine ⟨fun id hid => hat id (h1 id hid), ⟨fun j => ?_, fun j1 j2 b o1 o2 => ?_, fun j b o => ?_⟩, fun j hge => ?_, fun id v hv => ?_⟩
 ·by_cases hlt : j < ids.length
  ·rw [hhp j hlt]
   exact (hH.ob ids[j]).ren (hj j hlt) (fun i hi => hat i (h2 ids[j] (List.getElem_mem hlt) i hi))
  ·rw [hhp' j (by omega)]; trivial
 ·obtain ⟨l1, q1⟩ := howns j1 b o1
  obtain ⟨l2, q2⟩ := howns j2 b o2
  exact (List.getElem_inj hnd).1 (hH.inj _ _ b q1 q2)
 ·obtain ⟨l1, q1⟩ := howns j b o
  exact hH.blk _ b q1
 ·show (ids[j]?).bind ρ = none
  rw [List.getElem?_eq_none hge]; rfl
 ·have hlt : id < n0 := by
   apply Classical.byContradiction
   intro hge
   rw [hC id (by omega)] at hv; cases hv
  have hget : ids[id]? = some id := by
   have e1 : (ids.take n0)[id]? = some id := by rw [h4, List.getElem?_range hlt]
   rwa [List.getElem?_take, if_pos hlt] at e1
  show (ids[id]?).bind ρ = some v
  rw [hget]
  exact hr0 id v hv

theorem norm_ok {n0 : Nat} {k : Keep} {st st' : St} (hC : ∀ id, n0 ≤ id → C.ρ0 id = none) (h : norm n0 k st = some st') (hc : Cn C st a w U ρ) : ∃ ρ', Cn C st' a w U ρ' := by
 unfold norm at h
 obtain ⟨ρ1, h1⟩ := proms_ok k.prom (mask_ok k.slots hc)
 generalize k.prom.foldl prom1 { st with tmps := mask k.slots 0 st.tmps } = s1 at h h1
 unfold reNum at h
 simp only at h
 split at h
 ·rename_i hcl
  cases h
  obtain ⟨e1, e2, e3, e4⟩ := reId_ok hC hcl h1.hp h1.r0
  exact ⟨_, h1.tm.ren e1, e2, by simpa using e3, h1.df, e4⟩
 ·cases h

end
open Go

def Tr.Sat {α : Type} (Φ : α → Prop) : Tr α → Prop
 | .err => False
 | .chk c t => c = true ∧ t.Sat Φ
 | .br c t f => (c = true → t.Sat Φ) ∧ (c = false → f.Sat Φ)
 | .ok a => Φ a

theorem Tr.sat_val {α : Type} {Φ : α → Prop} : ∀ {t : Tr α}, t.Sat Φ → ∃ a, t.val = some a ∧ Φ a
 | .err, h => h.elim
 | .chk c t, ⟨hc, h⟩ => by subst hc; simpa [Tr.val] using sat_val h
 | .br c t f, ⟨h1, h2⟩ => by
  cases c
  ·simpa [Tr.val] using sat_val (h2 rfl)
  ·simpa [Tr.val] using sat_val (h1 rfl)
 | .ok a, h => ⟨a, rfl, h⟩

theorem Tr.sat_bind {α β : Type} {Φ : β → Prop} {k : α → Tr β} : ∀ {t : Tr α}, (t.bind k).Sat Φ → t.Sat fun a => (k a).Sat Φ
 | .err, h => h
 | .chk _ _, ⟨hc, h⟩ => ⟨hc, sat_bind h⟩
 | .br _ _ _, ⟨h1, h2⟩ => ⟨fun hc => sat_bind (h1 hc), fun hc => sat_bind (h2 hc)⟩
 | .ok _, h => h

def Post (E : Env) (C : Ctx) (Q : AV → List AO → Prop) (e : Ending) (w' : World) : Prop :=
 ∃ v r h' U' ρ', e = .returned v ∧ Q r h' ∧ Rv w' U' ρ' r v ∧ HpOk C w' U' ρ' (fun j => h'.getD j .dead) ∧ (∀ id, h'.length ≤ id → ρ' id = none) ∧ (∀ id v, C.ρ0 id = some v → ρ' id = some v) ∧ Wd E.gl C w' U'

def Reach (E : Env) (C : Ctx) (fn : FuncId) (todo : List Item) (st : St) (Q : AV → List AO → Prop) : Prop :=
 ∀ (b : Frame) (cs : List Frame) (a : Act) (w : World) (U : Nat → Prop) (ρ : Nat → Option Value), b.fn = fn → b.kind = .normal → Cn C st a w U ρ → Wd E.gl C w U →
  ∃ e w' fr, Post E C Q e w' ∧ Comes E.P (lone (b.at a todo) cs w) (lone fr cs w') e ∧ fr.fn = fn ∧ fr.leaving E.P w' e

def LeafOk (E : Env) (C : Ctx) (fn : FuncId) (Q : AV → List AO → Prop) : Leaf → Prop
 | .head _ k st => Reach E C fn k st Q
 | .ret v h => Q v h
 | .fork c k1 k2 st => (c = true → Reach E C fn k1 st Q) ∧ Reach E C fn k2 st Q

section
variable {E : Env} {C : Ctx} {fn : FuncId} {Q : AV → List AO → Prop}

theorem Reach.step {todo todo' : List Item} {st : St} (h : Reach E C fn todo' st Q) (hs : ∀ (b : Frame) (a : Act) (cs : List Frame) (w : World), step E.P (lone (b.at a todo) cs w) = .next (lone (b.at a todo') cs w)) : Reach E C fn todo st Q := by
 intro b cs a w U ρ h1 h2 hc hW
 obtain ⟨e, w', fr, hp, hcm, hf, hl⟩ := h b cs a w U ρ h1 h2 hc hW
 exact ⟨e, w', fr, hp, Comes.of_steps (.one (hs b a cs w)) hcm, hf, hl⟩

def resOne (tmps : Array Value) : ResultVar → Go.Sem Value
 | .tmp t => pure (tmps.getD t undef)
 | .cell x t => do loadVar t (← asAddr (tmps.getD x undef))

theorem results_eq (f : Func) (tmps : Array Value) : results f tmps = (do
  let vs ← f.results.mapM (resOne tmps)
  pure (if h : vs.size = 1 then vs[0] else .tuple vs)) := by
 unfold results
 congr 2

theorem retVals_ok {a : Act} {w : World} {U : Nat → Prop} {ρ : Nat → Option Value} {st : St} (hc : Cn C st a w U ρ) : ∀ (rs : List ResultVar) (vs : List AV), retVals E st rs = some vs →
  ∃ xs : List Value, (rs.mapM (resOne a.tmps)).run E.P w = .ok xs w ∧ RvL w U ρ vs xs
 | [], vs, h => by
  simp [retVals] at h; subst h
  exact ⟨[], by simp, rfl, by simp⟩
 | r :: rs, vs, h => by
  simp only [retVals] at h
  split at h
  ·rename_i v vs' hv hvs
   cases h
   obtain ⟨xs, hrun, hrv⟩ := retVals_ok hc rs vs' hvs
   have hslot : ∀ t, Rv w U ρ (st.tmps.getD t .any) (a.tmps.getD t undef) := by
    intro t
    by_cases ht : t < st.tmps.length
    ·have ht' : t < a.tmps.toList.length := by rw [← hc.tm.len]; exact ht
     refine hc.tm.rv t _ _ (by rw [List.getD_eq_getElem?_getD, List.getElem?_eq_getElem ht]; rfl) ?_
     rw [Array.getD_eq_getD_getElem?]
     have : t < a.tmps.size := by simpa using ht'
     simp [Array.getElem?_eq_getElem this]
    ·rw [List.getD_eq_getElem?_getD, List.getElem?_eq_none (by omega)]
     exact .any _
   have one : ∃ x, (resOne a.tmps r).run E.P w = .ok x w ∧ Rv w U ρ v x := by
    cases r with
    | tmp t =>
     simp only [retVal1, Option.some.injEq] at hv
     subst hv
     exact ⟨_, rfl, hslot t⟩
    | cell x t =>
     simp only [retVal1] at hv
     have hs := hslot x
     split at hv
     ·rename_i id off hp
      rw [hp] at hs
      generalize hvx : a.tmps.getD x undef = vx at hs
      split at hv
      ·rename_i cs hcs
       have ho := hc.hp.ob id
       rw [hcs] at ho
       have := evLoad_ok (P := E.P) (w := w) (U := U) (ρ := ρ) (hp := st.hp) (t := t) (av := .ptr id off) (v := vx) (f := { val := v }) (by simp [evLoad, hcs, hv]) hs (fun i hi => hc.hp.ob i)
       obtain ⟨r', x', e1, hrun', hr'⟩ := this
       cases e1
       cases hs with
       | ptr _ _ b hb =>
       refine ⟨x', ?_, hr'⟩
       simp only [resOne, hvx, asAddr, Sem.run_bind, Sem.run_pure, Result.andThen_ok]
       simpa [Instr.loadAt, Instr.sureAddr] using hrun'
      ·cases hv
     ·cases hv
   obtain ⟨x, hx, hrx⟩ := one
   refine ⟨x :: xs, ?_, ⟨by simp [hrv.len], fun j c y hc' hy => ?_⟩⟩
   ·simp only [List.mapM_cons, Sem.run_bind, hx, Result.andThen_ok, hrun, Sem.run_pure]
   ·cases j with
    | zero => simp at hc' hy; subst hc'; subst hy; exact hrx
    | succ j => exact hrv.rv j c y (by simpa using hc') (by simpa using hy)
  ·cases h

theorem ret_ok {n0 : Nat} {f : Func} (_ : E.P.funcs[fn]? = some f) (hC : ∀ id, n0 ≤ id → C.ρ0 id = none) {rs : List ResultVar} (hrs : f.results.toList = rs) {st : St} (h : (retLeaf E n0 rs st).Sat (LeafOk E C fn Q))
  {a : Act} {w : World} {U : Nat → Prop} {ρ : Nat → Option Value} (hc : Cn C st a w U ρ) (hW : Wd E.gl C w U) : ∃ v, (results f a.tmps).run E.P w = .ok v w ∧ Post E C Q (.returned v) w := by
 unfold retLeaf at h
 split at h
 ·rename_i vs hvs
  obtain ⟨xs, hrun, hrv⟩ := retVals_ok hc rs vs hvs
  simp only at h
  have hres : (results f a.tmps).run E.P w = .ok (if h : xs.toArray.size = 1 then xs.toArray[0] else .tuple xs.toArray) w := by
   rw [results_eq, Sem.run_bind, Array.mapM_eq_mapM_toList, Sem.run_map, hrs, hrun]
   rfl
  have hval : Rv w U ρ (packed vs) (if h : xs.toArray.size = 1 then xs.toArray[0] else .tuple xs.toArray) := by
   clear h hvs hrun hres
   have hl := hrv.len
   match vs, xs, hl, hrv with
   | [c], [x], _, hrv => simpa [packed] using hrv.rv 0 c x rfl rfl
   | [], [], _, _ => simpa [packed] using Rv.tup (w := w) (U := U) (ρ := ρ) [] [] rfl (by simp)
   | c1 :: c2 :: cs, x1 :: x2 :: xs, hl, hrv =>
    rw [dif_neg (by simp)]
    exact .tup _ _ hl hrv.rv
  refine ⟨_, hres, ?_⟩
  split at h
  ·rename_i hcl
   obtain ⟨e1, e2, e3, e4⟩ := reId_ok hC hcl hc.hp hc.r0
   exact ⟨_, _, _, U, _, rfl, h, hval.ren e1, e2, by simpa using e3, e4, hW⟩
  ·exact h.elim
 ·exact h.elim

theorem decided_ok {a : Act} {w : World} {U : Nat → Prop} {ρ : Nat → Option Value} {st : St} {c : Operand} {t : Bool} (hc : Cn C st a w U ρ) (hx : a.eval c = .bool t) : Cn C (decided st c t) a w U ρ := by
 unfold decided
 split
 ·rename_i i
  refine { hc with tm := ⟨by simpa using hc.tm.len, fun j d v hd hv => ?_⟩ }
  rw [List.getElem?_set] at hd
  split at hd
  ·rename_i hij
   subst hij
   split at hd
   ·cases hd
    have : a.eval (.tmp i) = v := by
     simp only [Act.eval]
     rw [Array.getD_eq_getD_getElem?]
     have := List.getElem?_eq_some_iff.1 hv
     obtain ⟨h1, h2⟩ := this
     have h1' : i < a.tmps.size := by simpa using h1
     simp [Array.getElem?_eq_getElem h1', ← h2]
    rw [this] at hx
    subst hx
    exact .kb t
   ·cases hd
  ·exact hc.tm.rv j d v hd hv
 ·exact hc

theorem emptyA_ok {w : World} {U : Nat → Prop} {ρ : Nat → Option Value} {hp : Nat → AO} {av : AV} {v : Value} {c : Bool} (h : emptyA hp av = some c) (hr : Rv w U ρ av v) (hob : ∀ id, objOk w U ρ id (hp id)) : ∃ a n cp, v = .slice a n cp ∧ (a = none → c = true) := by
 have fin : ∀ {e : Sh} {l : List (Sem e)} {v : Value}, Rv w U ρ (.sl e l) v → ∃ a n cp, v = .slice a n cp ∧ (a = none → l.isEmpty = true) := by
  intro e l v hr
  cases hr with
  | sl0 _ a c => exact ⟨a, 0, c, rfl, fun _ => rfl⟩
  | sl _ _ b o c _ _ _ _ _ _ _ => exact ⟨some ⟨b, o, none⟩, _, c, rfl, fun h => by cases h⟩
 cases av <;> simp [emptyA] at h
 case nils =>
  subst h
  cases hr with
  | nils a => exact ⟨a, 0, 0, rfl, fun _ => rfl⟩
 case sl e l =>
  subst h
  obtain ⟨a, n, cp, h1, h2⟩ := fin hr
  exact ⟨a, n, cp, h1, fun h => by simpa using h2 h⟩
 case vec id =>
  cases hr with
  | vec _ _ hv _ =>
  have ho := hob id
  split at h
  ·rename_i e l hid
   simp only [Option.some.injEq] at h
   subst h
   rw [hid] at ho
   obtain ⟨a, c, h1, _, h3⟩ := ho
   rw [hv] at h1; cases h1
   refine ⟨a, _, c, rfl, fun ha => ?_⟩
   rcases h3 with ⟨rfl, _⟩ | ⟨b, T, arr, hb, _⟩
   ·rfl
   ·rw [ha] at hb; cases hb
  ·rename_i e l hid
   simp only [Option.some.injEq] at h
   subst h
   rw [hid] at ho
   obtain ⟨v', h1, h2⟩ := ho
   rw [hv] at h1; cases h1
   exact fin h2
  ·cases h

theorem nil_run {P : Program} {w : World} {t el : TypeId} (hu : P.underlying t = some (.slice el)) (px qx : Operand) (p : Option Addr) (n cp : Nat) :
  (do eqGuard .eql t px qx (.slice p n cp) (.slice none 0 0); binOp .eql t (.slice p n cp) (.slice none 0 0) : Go.Sem Value).run P w = .ok (.bool p.isNone) w := by
 have g : (eqGuard .eql t px qx (.slice p n cp) (.slice none 0 0)).run P w = .ok () w := by simp [eqGuard]
 have e : (Op.equal t (.slice p n cp) (.slice none 0 0)).run P w = .ok p.isNone w := by
  show (Op.equalIn (9999 + 1) t (.slice p n cp) (.slice none 0 0)).run P w = .ok p.isNone w
  unfold Op.equalIn
  rw [Sem.run_bind, run_underlying hu]
  cases p <;> rfl
 have hb : (binOp .eql t (.slice p n cp) (.slice none 0 0) : Go.Sem Value) = (do pure (.bool (← Op.equal t (.slice p n cp) (.slice none 0 0)))) := rfl
 rw [Sem.run_bind, g, Result.andThen_ok, hb, Sem.run_bind, e, Result.andThen_ok]
 rfl

theorem nilTest_ok {st : St} {ca cb thn els : Code} {s x d : Nat} {t : TypeId} {c : Bool} {k : List Item} (hn : nilTest ca cb = some (s, x, d, t, thn, els)) (he : emptyA st.hp (st.tmps.getD s .any) = some c) (ht : isSlT0 E.P t = true) (hd : d < st.tmps.length) (hx : x < st.tmps.length)
  (h1 : c = true → Reach E C fn (.code thn :: k) { st with tmps := (st.tmps.set x (st.tmps.getD s .any)).set d .any } Q) (h2 : Reach E C fn (.code els :: k) { st with tmps := (st.tmps.set x (st.tmps.getD s .any)).set d .any } Q) : Reach E C fn (.code (.seq ca cb) :: k) st Q := by
 unfold nilTest at hn
 split at hn
 ·rename_i id ops d' a0 b0
  split at hn
  ·rename_i o1 o2 hops
   split at hn
   ·rename_i x' s' d0 t0 x1 ty e1 e2 e3 e4 e5 e6
    split at hn
    ·rename_i hcond
     obtain ⟨rfl, rfl, hxd⟩ := hcond
     cases hn
     intro b cs a w U ρ hb1 hb2 hc hW
     have hsl : ∃ el, E.P.underlying t = some (.slice el) := by
      unfold isSlT0 at ht
      split at ht
      ·exact ⟨_, ‹_›⟩
      ·cases ht
     obtain ⟨el, hu⟩ := hsl
     have hev : Rv w U ρ (st.tmps.getD s .any) (a.eval (.tmp s)) := by
      have := evo_ok (E := E) (known := []) hc.tm (by simp) hW.gl (.tmp s)
      simpa [evo] using this
     obtain ⟨p, n, cp, hv, hnone⟩ := emptyA_ok he hev (fun id => hc.hp.ob id)
     have hlen : st.tmps.length = a.tmps.size := by have := hc.tm.len; simpa using this
     have hops' : ops = #[o1, o2] := by apply Array.ext'; simpa using hops
     generalize hA1 : a.put (some x) (a.eval (.tmp s)) = a1
     have hx1 : a1.eval (.tmp x) = .slice p n cp := by
      rw [← hA1, hv]
      simp only [Act.eval, Act.put]
      rw [Array.getD_eq_getD_getElem?]
      simp [hlen ▸ hx]
     have hreg : (Code.region id ops false).wp E.P (fun e a' w' => e = .normal ∧ w' = w ∧ a' = a1.put (some d) (.bool p.isNone)) a w := by
      refine wp_region ?_
      rw [hops']
      show wpOps E.P #[o1, o2] _ [0, 1] a w
      simp only [wpOps, List.getElem?_toArray, List.getElem?_cons_zero, Region.wanted, e3, if_true]
      refine .inl (wp_value (v := a.eval (.tmp s)) (w' := w) (by simp [execOp, e2]) ?_)
      rw [e1, hA1]
      simp only [List.getElem?_cons_succ, List.getElem?_cons_zero, e6, if_true]
      refine .inl (wp_value (v := .bool p.isNone) (w' := w) ?_ ?_)
      ·have hx1' : a1.tmps.getD x undef = .slice p n cp := hx1
       have hnr := nil_run (w := w) hu (.tmp x) (.const (.slice none 0 0)) p n cp
       have h1e : a1.eval (.tmp x) = .slice p n cp := hx1
       have h2e : a1.eval (.const (.slice none 0 0)) = .slice none 0 0 := rfl
       unfold execOp
       rw [e5]
       simp only [h1e, h2e]
       simp only [Sem.run_bind] at hnr ⊢
       simp [hnr]
      ·rw [e4]; exact ⟨trivial, rfl, rfl⟩
     obtain ⟨e, a', w', ⟨rfl, rfl, rfl⟩, harr⟩ := hreg b (.code (.cond (.tmp d) thn els) :: k) cs
     have hcn : Cn C { st with tmps := (st.tmps.set x (st.tmps.getD s .any)).set d .any } (a1.put (some d) (.bool p.isNone)) w' U ρ := by
      refine ⟨?_, hc.hp, hc.new, ?_, hc.r0⟩
      ·have r1 := putT_rv (d := some x) hc.tm hev
       rw [hA1] at r1
       exact putT_rv (d := some d) r1 (.any (.bool p.isNone))
      ·rw [← hA1]; exact hc.df
     have hd1 : (a1.put (some d) (.bool p.isNone)).eval (.tmp d) = .bool p.isNone := by
      have hl1 : d < a1.tmps.size := by rw [← hA1]; simp [Act.put]; omega
      simp only [Act.eval, Act.put]
      rw [Array.getD_eq_getD_getElem?]
      simp [hl1]
     cases hp : p with
     | none =>
      rw [hp] at hd1 harr hcn
      obtain ⟨e, w'', fr, q1, q2, q3⟩ := h1 (hnone hp) b cs _ w' U ρ hb1 hb2 hcn hW
      exact ⟨e, w'', fr, q1, Comes.of_steps (.one step_seq) (Comes.of_steps harr (Comes.of_steps (.one (step_cond hd1)) q2)), q3⟩
     | some pa =>
      rw [hp] at hd1 harr hcn
      obtain ⟨e, w'', fr, q1, q2, q3⟩ := h2 b cs _ w' U ρ hb1 hb2 hcn hW
      exact ⟨e, w'', fr, q1, Comes.of_steps (.one step_seq) (Comes.of_steps harr (Comes.of_steps (.one (step_cond hd1)) q2)), q3⟩
    ·cases hn
   ·cases hn
  ·cases hn
 ·cases hn

theorem run_sound (hE : EnvAll E) (hm : E.P.follows .mixedOrders = true) {n0 : Nat} {f : Func} (hf : E.P.funcs[fn]? = some f) (hC : ∀ id, n0 ≤ id → C.ρ0 id = none) {rs : List ResultVar} (hrs : f.results.toList = rs) {keep : Nat → Keep} :
  ∀ (n : Nat) (todo : List Item) (st : St), (run E n0 keep rs n todo st).Sat (LeafOk E C fn Q) → Reach E C fn todo st Q
 | 0, _, _, h => h.elim
 | n + 1, todo, st, h => by
  have ih := run_sound hE hm hf hC hrs (keep := keep) n
  have head : ∀ (c : Code) (k : List Item), (headLeaf n0 (keep (firstReg c)) (firstReg c) (.code c :: .inLoop c :: k) st).Sat (LeafOk E C fn Q) → Reach E C fn (.code c :: .inLoop c :: k) st Q := by
   intro c k h
   unfold headLeaf at h
   split at h
   ·rename_i st' hn
    intro b cs a w U ρ h1 h2 hc hW
    obtain ⟨ρ', hc'⟩ := norm_ok hC hn hc
    exact h b cs a w U ρ' h1 h2 hc' hW
   ·exact h.elim
  have cut : ∀ (kp : Keep) (key : Nat) (todo : List Item) (st : St), (headLeaf n0 kp key todo st).Sat (LeafOk E C fn Q) → Reach E C fn todo st Q := by
   intro kp key todo st h
   unfold headLeaf at h
   split at h
   ·rename_i st' hn
    intro b cs a w U ρ h1 h2 hc hW
    obtain ⟨ρ', hc'⟩ := norm_ok hC hn hc
    exact h b cs a w U ρ' h1 h2 hc' hW
   ·exact h.elim
  have ending : (retLeaf E n0 rs ((keep 1000000).sett.foldl sett1 ((keep 1000000).prom.foldl prom1 st))).Sat (LeafOk E C fn Q) → ∀ (todo : List Item), (∀ (b : Frame) (a : Act) (cs : List Frame) (w : World), step E.P (lone (b.at a todo) cs w) = .next (lone { b.at a todo with mode := .returning } cs w)) → Reach E C fn todo st Q := by
   intro h todo hs b cs a w U ρ h1 h2 hc hW
   obtain ⟨ρ', hc'⟩ := proms_ok (keep 1000000).prom hc
   obtain ⟨U', hc2, hW2⟩ := setts_ok (gl := E.gl) (keep 1000000).sett hc' hW
   obtain ⟨v, hr, hp⟩ := ret_ok hf hC hrs h hc2 hW2
   refine ⟨.returned v, w, { b.at a todo with mode := .returning }, hp, .one (hs b a cs w), h1, rfl, hc.df, h2, f, ?_, hr⟩
   show E.P.funcs[b.fn]? = some f
   rw [h1]; exact hf
  unfold run at h
  split at h
  ·exact ending h [] (fun b a cs w => step_end)
  ·exact (ih _ _ h).step (fun b a cs w => step_inBlock)
  ·split at h
   ·exact (ih _ _ h).step (fun b a cs w => step_inLoop)
   ·exact (head _ _ h).step (fun b a cs w => step_inLoop)
  ·rename_i c k
   split at h
   ·exact (ih _ _ h).step (fun b a cs w => step_skip)
   ·exact (ih _ _ h).step (fun b a cs w => step_label)
   ·split at h
    ·rename_i hn
     split at h
     ·rename_i c he
      split at h
      ·rename_i hcond
       simp only [Bool.and_eq_true, decide_eq_true_eq] at hcond
       exact nilTest_ok hn he hcond.1 hcond.2.1 hcond.2.2 h.1 h.2
      ·exact h.elim
     ·exact h.elim
    ·exact (ih _ _ h).step (fun b a cs w => step_seq)
   ·rename_i co x y
    intro b cs a w U ρ h1 h2 hc hW
    have hev := evo_ok (E := E) (known := []) hc.tm (by simp) hW.gl co
    generalize hx : a.eval co = v at hev
    split at h
    ·rename_i hco
     rw [hco] at hev; cases hev
     obtain ⟨e, w', fr, q1, q2, q3⟩ := ih _ _ h b cs a w U ρ h1 h2 hc hW
     exact ⟨e, w', fr, q1, Comes.of_steps (.one (step_cond hx)) q2, q3⟩
    ·rename_i hco
     rw [hco] at hev; cases hev
     obtain ⟨e, w', fr, q1, q2, q3⟩ := ih _ _ h b cs a w U ρ h1 h2 hc hW
     exact ⟨e, w', fr, q1, Comes.of_steps (.one (step_cond hx)) q2, q3⟩
    ·rename_i t hco
     rw [hco] at hev; cases hev
     cases t
     ·obtain ⟨e, w', fr, q1, q2, q3⟩ := ih _ _ (h.2 rfl) b cs a w U ρ h1 h2 (decided_ok hc hx) hW
      exact ⟨e, w', fr, q1, Comes.of_steps (.one (step_cond hx)) q2, q3⟩
     ·obtain ⟨e, w', fr, q1, q2, q3⟩ := ih _ _ (h.1 rfl) b cs a w U ρ h1 h2 (decided_ok hc hx) hW
      exact ⟨e, w', fr, q1, Comes.of_steps (.one (step_cond hx)) q2, q3⟩
    ·exact h.elim
   ·exact (ih _ _ h).step (fun b a cs w => step_block)
   ·split at h
    ·exact (ih _ _ h).step (fun b a cs w => step_loop)
    ·exact (head _ _ h).step (fun b a cs w => step_loop)
   ·rename_i id
    split at h
    ·rename_i k' hk
     exact (ih _ _ h).step (fun b a cs w => step_exit hk)
    ·exact h.elim
   ·exact ending h _ (fun b a cs w => step_ret)
   ·rename_i id ops draw
    intro b cs a w U ρ h1 h2 hc hW
    obtain ⟨st', hv, hs⟩ := Tr.sat_val (Tr.sat_bind h)
    obtain ⟨e, a', w', ⟨rfl, U', ρ', hc', hW'⟩, harr⟩ := evalRegion_ok (id := id) hE hm hv hc hW b k cs
    have hR : Reach E C fn k st' Q := by
     split at hs
     ·exact cut _ _ _ _ hs
     ·exact ih _ _ hs
    obtain ⟨e, w'', fr, q1, q2, q3⟩ := hR b cs a' w' U' ρ' h1 h2 hc' hW'
    exact ⟨e, w'', fr, q1, Comes.of_steps harr q2, q3⟩
   ·exact h.elim
  ·exact h.elim

end
end Cad
