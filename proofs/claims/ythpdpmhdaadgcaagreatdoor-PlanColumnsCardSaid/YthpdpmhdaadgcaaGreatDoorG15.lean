/- What is asked of tables with rows, and of bases, holds. What is asked of tables with rows, and of bases, holds. What is asked of bases holds. Plans: sources: always an answer. Plans: targets, joins: always an answer. Plans: what is named: always an answer. Plans: copies, groups, joins: always an answer. Few of anything: always an answer, and a short one. Plans: the whole: always an answer, and what one that is made has. Tables: a column's name tells its place. Few tables: their checks are not deep. Copies: slices.Clone, copied. Copies of tables with rows. Copies of tables with rows: what they answer. Sources: what is taken out. Sources: the first that is taken out, of memory of its own. -/
import Derived.Test.YthpdpmhdaadgcaaGreatDoorG14
import Derived.Test.YthpdpmhdaadgcaaGreatDoorG13
namespace Cad
open Go Go.Proofs

theorem vsetAt_len : ∀ (es : List ((Int × Int × Str) × Int)) (n : Nat) (x : Int), (vsetAt es n x).length = es.length
 | [], _, _ => rfl
 | _ :: _, 0, _ => rfl
 | _ :: r, n + 1, x => by simp [vsetAt, vsetAt_len r n x]
theorem vent_len (es : List ((Int × Int × Str) × Int)) (k : Int × Int × Str) : (vent es k).length ≤ es.length + 1 := by
 unfold vent
 cases vhas es k <;> simp
theorem vidx_vent : ∀ (es : List ((Int × Int × Str) × Int)) (k : Int × Int × Str), (vhas es k = true → vidx es k < es.length) ∧ vidx es k ≤ es.length
 | [], k => ⟨fun h => by simp [vhas] at h, Nat.le_refl _⟩
 | p :: r, k => by
  obtain ⟨h1, h2⟩ := vidx_vent r k
  constructor
  ·intro h
   rw [vidx]
   cases hk : (k == p.1) with
   | true => simp
   | false =>
    have : vhas r k = true := by simpa [vhas, hk] using h
    have := h1 this
    simp; omega
  ·rw [vidx]
   cases (k == p.1) <;> simp <;> omega
theorem vidx_lt (es : List ((Int × Int × Str) × Int)) (k : Int × Int × Str) : vidx es k < (vent es k).length := by
 obtain ⟨h1, h2⟩ := vidx_vent es k
 unfold vent
 cases h : vhas es k with
 | true => exact h1 h
 | false => simp; omega

theorem rTwiceC_3_true {c : Int} {l : List (Sem shVal.sl)} (hc : ∀ r ∈ l, inB c (List.length r) = true) (hl : l.length ≤ 1000000) : ∀ (n i : Nat) (m : List ((Int × Int × Str) × Int)), i ≤ l.length → l.length < n + i → m.length ≤ i → rTwiceC_3 n c l (l.length : Int) (i : Int) m = true
 | 0, i, m, h1, h2, _ => by omega
 | n + 1, i, m, h1, h2, h3 => by
  rw [rTwiceC_3]
  by_cases h : i < l.length
  ·rw [if_pos (lt_dec h), if_pos (inB_of h), getD_at l _ h, if_pos (hc _ (List.getElem_mem h)), if_pos (decide_eq_true (by omega)), if_pos (inB_of (vidx_lt _ _)), wrapN1 i (by omega)]
   split
   ·rfl
   ·refine rTwiceC_3_true hc hl n (i + 1) _ h (by omega) ?_
    rw [vsetAt_len]
    have := vent_len m (List.getD l[i] (Int.toNat c) (dflt shVal))
    omega
  ·rw [if_neg (by simp; omega)]

theorem rTwiceC_true {x : Sem shRel} {c : Int} (hc : ∀ r ∈ x.2, inB c (List.length r) = true) (hl : x.2.length ≤ 1000000) : rTwiceC x c = true := by
 unfold rTwiceC
 exact rTwiceC_3_true hc hl 100000000 0 [] (by omega) (by omega) (by simp)

def inC (c : Int) (n : Nat) : Prop := 0 ≤ c ∧ c < n
theorem inC_inB {c : Int} {n : Nat} (h : inC c n) : inB c n = true := by
 simp [inB, h.1, h.2]
theorem may17_facts {a0 a1 a2 a3 a4 a5 a6 a7 a8 a9 b0} : ∀ (l : List (Sem shFor)) (i : Int), tMay_17 a0 a1 a2 a3 a4 a5 a6 a7 a8 a9 b0 l i = true → inC a2 a1.length ∧ ∀ f ∈ l, inC f.1 a1.length
 | [], i, h => by
  rw [tMay_17] at h
  split at h
  ·rename_i h1
   refine ⟨?_, by simp⟩
   unfold inC
   cases h2 : decide (a2 ≥ 0) with
   | true =>
    rw [h2] at h1
    simp at h1 h2
    exact ⟨h2, h1⟩
   | false => rw [h2] at h1; simp at h1
  ·cases h
 | x :: r, i, h => by
  rw [tMay_17] at h
  split at h
  ·cases h
  ·rename_i h1
   split at h
   ·cases h
   ·obtain ⟨h3, h4⟩ := may17_facts r _ h
    refine ⟨h3, fun f hf => ?_⟩
    rcases List.mem_cons.1 hf with rfl | hf
    ·unfold inC
     cases h2 : decide (f.1 ≥ 0) with
     | true =>
      rw [h2] at h1
      simp at h1 h2
      exact ⟨h2, h1⟩
     | false => rw [h2] at h1; simp at h1
    ·exact h4 f hf
theorem may11_facts {a0 a1 a2 a3 a4 a5 a6 a7 a8 a9 b0} : ∀ (l : List (Sem shInt)) (i : Int), tMay_11 a0 a1 a2 a3 a4 a5 a6 a7 a8 a9 b0 l i = true → inC a2 a1.length ∧ (∀ f ∈ a4, inC f.1 a1.length) ∧ ∀ u ∈ l, inC u a1.length
 | [], i, h => by
  rw [tMay_11] at h
  obtain ⟨h1, h2⟩ := may17_facts _ _ h
  exact ⟨h1, h2, by simp⟩
 | x :: r, i, h => by
  rw [tMay_11] at h
  split at h
  ·cases h
  ·rename_i h1
   obtain ⟨h3, h4, h5⟩ := may11_facts r _ h
   refine ⟨h3, h4, fun f hf => ?_⟩
   rcases List.mem_cons.1 hf with rfl | hf
   ·unfold inC
    cases h2 : decide (f ≥ 0) with
    | true =>
     rw [h2] at h1
     simp at h1 h2
     exact ⟨h2, h1⟩
    | false => rw [h2] at h1; simp at h1
   ·exact h5 f hf
theorem may4_facts {a0 a1 a2 a3 a4 a5 a6 a7 a8 a9 b0} : ∀ (l : List (Sem shCol)) (i : Int), tMay_4 a0 a1 a2 a3 a4 a5 a6 a7 a8 a9 b0 l i = true → inC a2 a1.length ∧ (∀ f ∈ a4, inC f.1 a1.length) ∧ ∀ u ∈ a3, inC u a1.length
 | [], i, h => by
  rw [tMay_4] at h
  exact may11_facts _ _ h
 | x :: r, i, h => by
  rw [tMay_4] at h
  split at h
  ·cases h
  ·exact may4_facts r _ h
theorem may_facts {t : Sem shTable} (h : tMay t = true) : inC t.2.2.1 t.2.1.length ∧ (∀ f ∈ t.2.2.2.2.1, inC f.1 t.2.1.length) ∧ (∀ u ∈ t.2.2.2.1, inC u t.2.1.length) ∧ t.2.1.length ≤ 8 ∧ 1 ≤ t.2.1.length := by
 unfold tMay at h
 split at h
 ·cases h
 ·rename_i h1
  obtain ⟨h2, h3, h4⟩ := may4_facts _ _ h
  refine ⟨h2, h3, h4, ?_⟩
  cases hn : nameOk t.1 with
  | false => rw [hn] at h1; simp at h1
  | true =>
   rw [hn] at h1
   cases hd : decide ((List.length t.2.1 : Int) < 1) with
   | true => rw [hd] at h1; simp at h1
   | false =>
    rw [hd] at h1
    simp at h1 hd
    omega
theorem fits_len {t : Sem shTable} {row : List (Sem shVal)} (h : (tFits t row != 0) ≠ true) : row.length = t.2.1.length := by
 simp at h
 unfold tFits at h
 split at h
 ·cases h
 ·rename_i h1
  cases hm : tMay t with
  | false => rw [hm] at h1; simp at h1
  | true =>
   rw [hm] at h1
   simp at h1
   omega
open Go Go.Proofs

theorem rCheckC_21_true {a0 a1 a2 a3 a4 a5 a6 a7 a8 a9 b0} {rows : List (Sem shVal.sl)} (hc : ∀ r ∈ rows, inB a2 (List.length r) = true) (hl : rows.length ≤ 1000000) : ∀ (n i : Nat), 1 ≤ i → rows.length < n + i → 0 < n → rCheckC_21 n (i : Int) a0 a1 a2 a3 a4 a5 a6 a7 a8 a9 b0 rows = true
 | 0, i, _, _, h => by omega
 | n + 1, i, h1, h2, _ => by
  rw [rCheckC_21]
  by_cases h : i < rows.length
  ·have e : ((i : Int) - 1) = ((i - 1 : Nat) : Int) := by omega
   have h' : i - 1 < rows.length := by omega
   rw [e, wrapN (i - 1) (by omega), if_pos (lt_dec h), if_pos (inB_of h'), getD_at rows _ h', if_pos (hc _ (List.getElem_mem h')), if_pos (inB_of h), getD_at rows _ h, if_pos (hc _ (List.getElem_mem h)), wrapN1 i (by omega)]
   split
   ·rfl
   ·exact rCheckC_21_true hc hl n (i + 1) (by omega) (by omega) (by omega)
  ·rw [if_neg (by simp; omega)]

theorem rCheckC_15_true {a0 a1 a2 a3 a4 a5 a6 a7 a8 a9 b0} {rows : List (Sem shVal.sl)} {us : List (Sem shInt)} (hc : ∀ r ∈ rows, inB a2 (List.length r) = true) (hu : ∀ u ∈ us, ∀ r ∈ rows, inB u (List.length r) = true) (hl : rows.length ≤ 1000000) (hl2 : us.length ≤ 1000000) :
  ∀ (n i : Nat), i ≤ us.length → us.length + rows.length + 2 < n + i → rCheckC_15 n us (us.length : Int) (i : Int) a0 a1 a2 a3 a4 a5 a6 a7 a8 a9 b0 rows = true
 | 0, i, h1, h2 => by omega
 | n + 1, i, h1, h2 => by
  rw [rCheckC_15]
  by_cases h : i < us.length
  ·rw [if_pos (lt_dec h), if_pos (inB_of h), getD_at us _ h, if_pos (rTwiceC_true (hu _ (List.getElem_mem h)) hl), wrapN1 i (by omega)]
   split
   ·rfl
   ·exact rCheckC_15_true hc hu hl hl2 n (i + 1) (by omega) (by omega)
  ·rw [if_neg (by simp; omega)]
   exact rCheckC_21_true hc hl n 1 (by omega) (by omega) (by omega)

theorem rCheckC_6_true {a0 : Str} {a1 : List (Sem shCol)} {a2 : Int} {a3 : List Int} {a4 : List (Sem shFor)} {a5 a6 a7 a8 a9 b0} {rows : List (Sem shVal.sl)} (hk : inC a2 a1.length) (hu : ∀ u ∈ a3, inC u a1.length) (hl : rows.length ≤ 1000000) (hl2 : a3.length ≤ 1000000) :
  ∀ (n i : Nat), i ≤ rows.length → a3.length + rows.length + rows.length + 5 < n + i → (∀ (j : Nat) r, j < i → rows[j]? = some r → List.length r = a1.length) → rCheckC_6 n rows (rows.length : Int) (i : Int) a0 a1 a2 a3 a4 a5 a6 a7 a8 a9 b0 rows = true
 | 0, i, h1, h2, _ => by omega
 | n + 1, i, h1, h2, h3 => by
  rw [rCheckC_6]
  by_cases h : i < rows.length
  ·rw [if_pos (lt_dec h), if_pos (inB_of h), getD_at rows _ h, wrapN1 i (by omega)]
   split
   ·rfl
   ·rename_i hf
    refine rCheckC_6_true hk hu hl hl2 n (i + 1) (by omega) (by omega) (fun j r hj hr => ?_)
    by_cases hji : j < i
    ·exact h3 j r hji hr
    ·obtain rfl : j = i := by omega
     rw [List.getElem?_eq_getElem h] at hr
     cases hr
     exact fits_len hf
  ·rw [if_neg (by simp; omega)]
   have hlen : ∀ r ∈ rows, List.length r = a1.length := by
    intro r hr
    obtain ⟨j, hj, rfl⟩ := List.getElem_of_mem hr
    exact h3 j _ (by omega) (List.getElem?_eq_getElem hj)
   have hc : ∀ u, inC u a1.length → ∀ r ∈ rows, inB u (List.length r) = true := by
    intro u hu' r hr
    rw [hlen r hr]
    exact inC_inB hu'
   rw [if_pos (rTwiceC_true (hc _ hk) hl)]
   split
   ·rfl
   ·exact rCheckC_15_true (hc _ hk) (fun u hu' => hc u (hu u hu')) hl hl2 n 0 (by omega) (by omega)

structure ShortR (x : Sem shRel) : Prop where
 uq : x.1.2.2.2.1.length ≤ 1000
 rf : x.1.2.2.2.2.1.length ≤ 1000
 rw : x.2.length ≤ 1000

theorem rCheckC_true {x : Sem shRel} (h : ShortR x) : rCheckC x = true := by
 unfold rCheckC
 split
 ·rfl
 ·rename_i hm
  have hm : tMay x.1 = true := by simpa using hm
  obtain ⟨f1, f2, f3, _⟩ := may_facts hm
  split
  ·rfl
  ·have := h.uq
   have := h.rw
   exact rCheckC_6_true f1 f3 (by omega) (by omega) 100000000 0 (by omega) (by omega) (fun j r hj => by omega)

structure OkR (x : Sem shRel) : Prop where
 may : tMay x.1 = true
 len : ∀ r ∈ x.2, List.length r = x.1.2.1.length
 few : x.2.length ≤ 200

theorem rCheck_6_fits {a0 : Str} {a1 : List (Sem shCol)} {a2 : Int} {a3 : List Int} {a4 : List (Sem shFor)} {a5 a6 a7 a8 a9 b0} {rows : List (Sem shVal.sl)} (hl : rows.length ≤ 1000000) :
  ∀ (n i : Nat), i ≤ rows.length → rows.length < n + i → rCheck_6 n rows (rows.length : Int) (i : Int) a0 a1 a2 a3 a4 a5 a6 a7 a8 a9 b0 rows = (0 : Int) → ∀ (j : Nat) r, i ≤ j → rows[j]? = some r → tFits (a0, a1, a2, a3, a4, ExprT.mk a5 (a6, a7, a8) a9 b0) r = (0 : Int)
 | 0, i, h1, h2, _ => by omega
 | n + 1, i, h1, h2, h3 => by
  rw [rCheck_6] at h3
  intro j r hj hr
  have hjl : j < rows.length := (List.getElem?_eq_some_iff.1 hr).1
  have h : i < rows.length := by omega
  rw [if_pos (lt_dec h), getD_at rows _ h, wrapN1 i (by omega)] at h3
  split at h3
  ·rename_i h4
   rw [h3] at h4
   simp at h4
  ·rename_i h4
   by_cases hji : i = j
   ·subst hji
    rw [List.getElem?_eq_getElem h] at hr
    cases hr
    simpa using h4
   ·exact rCheck_6_fits hl n (i + 1) (by omega) (by omega) h3 j r (by omega) hr

theorem rCheck_fits {x : Sem shRel} (h : rCheck x = (0 : Int)) : tMay x.1 = true ∧ (x.2.length ≤ 200) ∧ ∀ r ∈ x.2, tFits x.1 r = (0 : Int) := by
 unfold rCheck at h
 split at h
 ·cases h
 ·rename_i hm
  have hm : tMay x.1 = true := by simpa using hm
  split at h
  ·cases h
  ·rename_i hl
   have hl : x.2.length ≤ 200 := by simp at hl; omega
   refine ⟨hm, hl, fun r hr => ?_⟩
   obtain ⟨j, hj, rfl⟩ := List.getElem_of_mem hr
   have := rCheck_6_fits (by omega) 100000000 0 (by omega) (by omega) h j _ (by omega) (List.getElem?_eq_getElem hj)
   obtain ⟨⟨a0, a1, a2, a3, a4, e⟩, rows⟩ := x
   cases e
   exact this

theorem rCheck_ok {x : Sem shRel} (h : rCheck x = (0 : Int)) : OkR x := by
 obtain ⟨h1, h2, h3⟩ := rCheck_fits h
 exact ⟨h1, fun r hr => fits_len (by rw [h3 r hr]; simp), h2⟩
open Go Go.Proofs

theorem bBoundC_11_true {l0 : List (Sem shRel)} {i7 : Int} {l11 i12 i13 l19 i20 i21 a0 a1 a2 a3 a4 a5 a6 a7 a8 a9 b0 c1 s1} {rows W : List (Sem shVal.sl)} (hc : ∀ r ∈ rows, inB c1 (List.length r) = true) (h7 : inB i7 l0.length = true) (hl : rows.length ≤ 1000000) (K : Nat)
  (hk : ∀ n', K ≤ n' → bBoundC_5 n' l0 l11 i12 i13 l19 i20 (IntKind.i64.wrap (i21 + 1)) a0 a1 a2 a3 a4 a5 a6 a7 a8 a9 b0 W = true) : ∀ (n k : Nat), k ≤ rows.length → rows.length + 1 + K ≤ n + k → bBoundC_11 n l0 i7 l11 i12 i13 l19 i20 i21 rows (rows.length : Int) (k : Int) a0 a1 a2 a3 a4 a5 a6 a7 a8 a9 b0 W c1 s1 = true
 | 0, k, h1, h2 => by omega
 | n + 1, k, h1, h2 => by
  rw [bBoundC_11]
  by_cases h : k < rows.length
  ·rw [if_pos (lt_dec h), if_pos (inB_of h), getD_at rows _ h, if_pos (hc _ (List.getElem_mem h)), h7, Bool.and_self, if_pos (bif_true rfl), wrapN1 k (by omega)]
   split
   ·rfl
   ·exact bBoundC_11_true hc h7 hl K hk n (k + 1) (by omega) (by omega)
  ·rw [if_neg (by simp; omega)]
   exact hk n (by omega)

theorem bFind_range (l : List (Sem shRel)) (s : Str) : bFind l s = (-1 : Int) ∨ ((0 : Int) ≤ bFind l s ∧ LT.lt (α := Int) (bFind l s) l.length) := by
 have := ixFrom_range (fun x : Sem shRel => x.1.1 == s) l 0
 simp at this
 exact this

theorem bBoundC_5_true {l0 : List (Sem shRel)} {l11 i12 i13 a0 a1 a2 a3 a4 a5 a6 a7 a8 a9 b0} {refs : List (Sem shFor)} {rows : List (Sem shVal.sl)} (hc : ∀ f ∈ refs, ∀ r ∈ rows, inB f.1 (List.length r) = true) (hl : rows.length ≤ 200) (hl2 : refs.length ≤ 1000) (K : Nat)
  (hk : ∀ n', K ≤ n' → bBoundC_2 n' l0 l11 i12 (IntKind.i64.wrap (i13 + 1)) = true) : ∀ (m n j : Nat), refs.length - j = m → j ≤ refs.length → m * 210 + 2 + K ≤ n → bBoundC_5 n l0 l11 i12 i13 refs (refs.length : Int) (j : Int) a0 a1 a2 a3 a4 a5 a6 a7 a8 a9 b0 rows = true
 | m, 0, j, hm, h1, h2 => by omega
 | 0, n + 1, j, hm, h1, h2 => by
  rw [bBoundC_5, if_neg (by simp; omega)]
  exact hk n (by omega)
 | m + 1, n + 1, j, hm, h1, h2 => by
  rw [bBoundC_5]
  have h : j < refs.length := by omega
  rw [if_pos (lt_dec h), if_pos (inB_of h), getD_at refs _ h]
  split
  ·rfl
  ·rename_i hf
   have hf : ¬ LT.lt (α := Int) (bFind l0 refs[j].2) 0 := by simpa using hf
   refine bBoundC_11_true (hc _ (List.getElem_mem h)) ?_ (by omega) (m * 210 + 2 + K) (fun n' hn' => ?_) n 0 (by omega) (by omega)
   ·rcases bFind_range l0 refs[j].2 with h3 | ⟨h3, h4⟩
    ·rw [h3] at hf; simp at hf
    ·simp [inB, h3, h4]
   ·rw [wrapN1 j (by omega)]
    exact bBoundC_5_true hc hl hl2 K hk m n' (j + 1) (by omega) (by omega) hn'

theorem bBoundC_2_true {l0 db : List (Sem shRel)} (hok : ∀ x ∈ db, OkR x) (hs : ∀ x ∈ db, ShortR x) (hl : db.length ≤ 12) (m : Nat) : ∀ (n i : Nat), db.length - i = m → i ≤ db.length → m * 300000 + 1 ≤ n → bBoundC_2 n l0 db (db.length : Int) (i : Int) = true := by
 induction m with
 | zero =>
  intro n i hm h1 h2
  obtain ⟨n, rfl⟩ : ∃ k, n = k + 1 := ⟨n - 1, by omega⟩
  rw [bBoundC_2, if_neg (by simp; omega)]
 | succ m ih =>
  intro n i hm h1 h2
  obtain ⟨n, rfl⟩ : ∃ k, n = k + 1 := ⟨n - 1, by omega⟩
  rw [bBoundC_2]
  have h : i < db.length := by omega
  have hmem : db[i] ∈ db := List.getElem_mem h
  have ok := hok _ hmem
  have sh := hs _ hmem
  obtain ⟨_, f2, _⟩ := may_facts ok.may
  rw [if_pos (lt_dec h), if_pos (inB_of h), getD_at db _ h]
  refine bBoundC_5_true (fun f hf r hr => ?_) ok.few sh.rf (m * 300000 + 1) (fun n' hn' => ?_) _ n 0 rfl (by omega) ?_
  ·rw [ok.len r hr]
   exact inC_inB (f2 f hf)
  ·rw [wrapN1 i (by omega)]
   exact ih n' (i + 1) (by omega) (by omega) hn'
  ·have := sh.rf
   omega

theorem bBoundC_true {db : List (Sem shRel)} (hok : ∀ x ∈ db, OkR x) (hs : ∀ x ∈ db, ShortR x) (hl : db.length ≤ 12) : bBoundC db = true := by
 unfold bBoundC
 exact bBoundC_2_true hok hs hl _ 100000000 0 rfl (by omega) (by omega)

theorem bCheckC_9_true {db : List (Sem shRel)} (hs : ∀ x ∈ db, ShortR x) (hl : db.length ≤ 12) : ∀ (n i : Nat), i ≤ db.length → db.length + 1 ≤ n + i → (∀ (j : Nat) x, j < i → db[j]? = some x → OkR x) → bCheckC_9 n db db (db.length : Int) (i : Int) = true
 | 0, i, h1, h2, _ => by omega
 | n + 1, i, h1, h2, h3 => by
  rw [bCheckC_9]
  by_cases h : i < db.length
  ·rw [if_pos (lt_dec h), if_pos (inB_of h), getD_at db _ h, if_pos (rCheckC_true (hs _ (List.getElem_mem h))), wrapN1 i (by omega)]
   split
   ·rfl
   ·rename_i hr
    refine bCheckC_9_true hs hl n (i + 1) (by omega) (by omega) (fun j x hj hx => ?_)
    by_cases hji : j < i
    ·exact h3 j x hji hx
    ·obtain rfl : j = i := by omega
     rw [List.getElem?_eq_getElem h] at hx
     cases hx
     exact rCheck_ok (by simpa using hr)
  ·rw [if_neg (by simp; omega)]
   rw [if_pos (bBoundC_true (fun x hx => ?_) hs hl)]
   obtain ⟨j, hj, rfl⟩ := List.getElem_of_mem hx
   exact h3 j _ (by omega) (List.getElem?_eq_getElem hj)

theorem bCheckC_4_true {db : List (Sem shRel)} (hs : ∀ x ∈ db, ShortR x) (hl : db.length ≤ 12) : ∀ (n i : Nat), 1 ≤ i → i ≤ db.length + 1 → db.length + db.length + 4 ≤ n + i → bCheckC_4 n db (i : Int) = true
 | 0, i, _, h1, h2 => by omega
 | n + 1, i, h0, h1, h2 => by
  rw [bCheckC_4]
  by_cases h : i < db.length
  ·have e : ((i : Int) - 1) = ((i - 1 : Nat) : Int) := by omega
   have h' : i - 1 < db.length := by omega
   rw [e, wrapN (i - 1) (by omega), if_pos (lt_dec h), if_pos (inB_of h'), if_pos (inB_of h), wrapN1 i (by omega)]
   split
   ·rfl
   ·exact bCheckC_4_true hs hl n (i + 1) (by omega) (by omega) (by omega)
  ·rw [if_neg (by simp; omega)]
   exact bCheckC_9_true hs hl n 0 (by omega) (by omega) (fun j x hj => by omega)

theorem bCheckC_true {db : List (Sem shRel)} (hs : ∀ x ∈ db, ShortR x) : bCheckC db = true := by
 unfold bCheckC
 split
 ·rfl
 ·rename_i h
  have : db.length ≤ 12 := by simp at h; omega
  exact bCheckC_4_true hs this 100000000 1 (by omega) (by omega) (by omega)
open Go Go.Proofs
set_option maxHeartbeats 4000000

theorem getD_at' {α : Type} (l : List α) (d : α) {i : Nat} (h : i < l.length) : l.getD ((i : Int).toNat) d = l[i] := by
 rw [Int.toNat_natCast, List.getD_eq_getElem?_getD, List.getElem?_eq_getElem h, Option.getD_some]

def SrcOk (y : CSem cpMk) (y' : CSem cpMk) : Prop :=
 (0 : Int) ≤ bFind y.1 y.2.2.2.2.2.1 ∧ (y.2.2.2.2.2.2.1 = [] ∨ (0 : Int) ≤ bFind y.1 y.2.2.2.2.2.2.1) ∧ LT.lt (α := Int) (bFind y.1 y.2.1.2.1) 0 ∧ y.2.2.2.2.2.1 ≠ y.2.2.2.2.2.2.1 ∧
 y'.2.2.1 = (List.getD y.1 (Int.toNat (bFind y.1 y.2.2.2.2.2.1)) (dflt shRel)).1 ∧
 y'.2.2.2.1 = (if y.2.2.2.2.2.2.1 = [] then y.2.2.2.1 else (List.getD y.1 (Int.toNat (bFind y.1 y.2.2.2.2.2.2.1)) (dflt shRel)).1)

def SrcR (y : CSem cpMk) (r : Raw) : Prop := ∃ (e : Int) (y' : CSem cpMk), r = (.int .i64 e, cpHeap cpMk y') ∧ y'.1 = y.1 ∧ y'.2.1 = y.2.1 ∧ y'.2.2.2.2 = y.2.2.2.2 ∧ (e = 0 → SrcOk y y')

theorem inB_find {l : List (Sem shRel)} {s : Str} (h : (0 : Int) ≤ bFind l s) : inB (bFind l s) (List.length l) = true := by
 rcases bFind_range l s with h1 | ⟨h1, h2⟩
 ·rw [h1] at h; omega
 ·simp only [inB, Bool.and_eq_true, decide_eq_true_eq]; exact ⟨h1, h2⟩

theorem src11 (y : CSem cpMk) (ns : List Str) (hl : List.length y.1 ≤ 1000000) (h1 : (0 : Int) ≤ bFind y.1 y.2.2.2.2.2.1) (h2 : y.2.2.2.2.2.2.1 = [] ∨ (0 : Int) ≤ bFind y.1 y.2.2.2.2.2.2.1) (h3 : LT.lt (α := Int) (bFind y.1 y.2.1.2.1) 0) (h4 : y.2.2.2.2.2.1 ≠ y.2.2.2.2.2.2.1) (n : Nat) (hn : 1 + List.length y.1 ≤ n) :
  ∃ r, iterT t36p n (.h11 y.1 (List.length y.1 : Int) 0 y ns) = some r ∧ SrcR y r := by
 refine iter_inv (t := t36p) (β := Unit) (List.length y.1) (fun _ i => .h11 y.1 (List.length y.1 : Int) (i : Int) y ns) (fun _ _ => True) (SrcR y) 1 ?_ ?_ (List.length y.1) 0 () n rfl (Nat.zero_le _) trivial hn
 ·intro b i hi _
  simp only [t36p, t36p_11, t36p_11z, Tr.val, lt_dec hi, inB_of hi, if_true]
  rw [wrap_add i (by unfold maxStr; omega)]
  by_cases c1 : (!hasStr ns (List.getD y.1 (Int.toNat (i : Int)) (dflt shRel)).1.1) = true
  ·simp only [c1, if_true]
   split
   ·exact Or.inr ⟨_, rfl, 10, y, rfl, rfl, rfl, rfl, fun h => by cases h⟩
   ·exact Or.inl ⟨(), trivial, rfl⟩
  ·simp only [c1]
   exact Or.inl ⟨(), trivial, rfl⟩
 ·intro b n _ hn
  obtain ⟨n, rfl⟩ : ∃ k, n = k + 1 := ⟨n - 1, by omega⟩
  rw [iterT_val]
  simp only [t36p, t36p_11, t36p_11z, Tr.val, lt_dec', inB_find h1, if_true]
  by_cases c1 : (!y.2.2.2.2.2.2.1 == []) = true
  ·have hne : y.2.2.2.2.2.2.1 ≠ [] := by simpa using c1
   have hb : (0 : Int) ≤ bFind y.1 y.2.2.2.2.2.2.1 := h2.resolve_left hne
   simp only [c1, if_true, inB_find hb]
   refine ⟨_, rfl, 0, _, rfl, rfl, rfl, rfl, fun _ => ⟨h1, h2, h3, h4, rfl, ?_⟩⟩
   simp [hne]
  ·have he : y.2.2.2.2.2.2.1 = [] := by simpa using c1
   simp only [c1]
   refine ⟨_, rfl, 0, _, rfl, rfl, rfl, rfl, fun _ => ⟨h1, h2, h3, h4, rfl, ?_⟩⟩
   simp [he]

theorem src3 (y : CSem cpMk) (ns : List Str) (hns : ns = if (y.2.2.2.2.2.2.1 == []) = true then [y.2.2.2.2.2.1] else [y.2.2.2.2.2.1, y.2.2.2.2.2.2.1]) (hl : List.length y.1 ≤ 1000000) (n : Nat) (hn : 2 + List.length y.1 + ns.length ≤ n) :
  ∃ r, iterT t36p n (.h3 ns (List.length ns : Int) 0 y ns) = some r ∧ SrcR y r := by
 have hnl : ns.length ≤ 2 := by rw [hns]; split <;> simp
 refine iter_inv (t := t36p) (β := Unit) ns.length (fun _ i => .h3 ns (List.length ns : Int) (i : Int) y ns) (fun _ i => ∀ j (hj : j < ns.length), j < i → (0 : Int) ≤ bFind y.1 ns[j]) (SrcR y) (2 + List.length y.1) ?_ ?_ ns.length 0 () n rfl (Nat.zero_le _) (fun j _ h => by omega) hn
 ·intro b i hi hI
  simp only [t36p, t36p_3, t36p_3z, Tr.val, lt_dec hi, inB_of hi, if_true, getD_at' ns _ hi]
  rw [wrap_add i (by unfold maxStr; omega)]
  by_cases c1 : (0 : Int) ≤ bFind y.1 ns[i]
  ·have : decide (LT.lt (α := Int) (bFind y.1 ns[i]) 0) = false := by simpa using c1
   simp only [this]
   refine Or.inl ⟨(), fun j hj hji => ?_, rfl⟩
   by_cases hji2 : j = i
   ·subst hji2; exact c1
   ·exact hI j hj (by omega)
  ·have : decide (LT.lt (α := Int) (bFind y.1 ns[i]) 0) = true := by simpa using c1
   simp only [this, if_true]
   exact Or.inr ⟨_, rfl, 6, y, rfl, rfl, rfl, rfl, fun h => by cases h⟩
 ·intro b n hI hn
  obtain ⟨n, rfl⟩ : ∃ k, n = k + 1 := ⟨n - 1, by omega⟩
  have h1 : (0 : Int) ≤ bFind y.1 y.2.2.2.2.2.1 := by
   have := hI 0 (by rw [hns]; split <;> simp) (by rw [hns]; split <;> simp)
   simp only [hns] at this
   revert this
   split <;> exact id
  have h2 : y.2.2.2.2.2.2.1 = [] ∨ (0 : Int) ≤ bFind y.1 y.2.2.2.2.2.2.1 := by
   by_cases hw : (y.2.2.2.2.2.2.1 == []) = true
   ·left; simpa using hw
   ·right
    have e : ns = [y.2.2.2.2.2.1, y.2.2.2.2.2.2.1] := by rw [hns, if_neg hw]
    have := hI 1 (by rw [e]; simp) (by rw [e]; simp)
    simpa [e] using this
  rw [iterT_val]
  simp only [t36p, t36p_3, t36p_3z, Tr.val, lt_dec']
  by_cases c1 : (bif decide (GE.ge (α := Int) (bFind y.1 y.2.1.2.1) 0) then true else y.2.2.2.2.2.1 == y.2.2.2.2.2.2.1) = true
  ·simp only [c1, if_true]
   exact ⟨_, rfl, 7, y, rfl, rfl, rfl, rfl, fun h => by cases h⟩
  ·simp only [c1]
   have hd : decide (GE.ge (α := Int) (bFind y.1 y.2.1.2.1) 0) = false := by
    cases hh : decide (GE.ge (α := Int) (bFind y.1 y.2.1.2.1) 0) with
    | false => rfl
    | true => rw [hh] at c1; simp at c1
   rw [hd] at c1
   exact src11 y ns hl h1 h2 (by simpa using hd) (by simpa using c1) n (by omega)

theorem mSources_ok (y : CSem cpMk) (hl : List.length y.1 ≤ 1000000) : ∃ (e : Int) (y' : CSem cpMk), mSourcesO y = some ((e, ()), y') ∧ y'.1 = y.1 ∧ y'.2.1 = y.2.1 ∧ y'.2.2.2.2 = y.2.2.2.2 ∧ (e = 0 → SrcOk y y') := by
 have hps : pSources (y.2.2.2.2.1, y.2.2.2.2.2.1, y.2.2.2.2.2.2.1, (y.2.2.2.2.2.2.2.1, [], y.2.2.2.2.2.2.2.2.1, [], [], etaE y.2.2.2.2.2.2.2.2.2.1), [], y.2.2.2.2.2.2.2.2.2.2.1) = if (y.2.2.2.2.2.2.1 == []) = true then [y.2.2.2.2.2.1] else [y.2.2.2.2.2.1, y.2.2.2.2.2.2.1] := rfl
 obtain ⟨r, h1, e, y', rfl, h2⟩ := src3 y _ hps hl 100000000 (by
  have : List.length (pSources (y.2.2.2.2.1, y.2.2.2.2.2.1, y.2.2.2.2.2.2.1, (y.2.2.2.2.2.2.2.1, [], y.2.2.2.2.2.2.2.2.1, [], [], etaE y.2.2.2.2.2.2.2.2.2.1), [], y.2.2.2.2.2.2.2.2.2.2.1)) ≤ 2 := by rw [hps]; split <;> simp
  omega)
 refine ⟨e, y', ?_, h2⟩
 unfold mSourcesO outB runT
 simp only [i36p, i36pz, Tr.val]
 rw [h1]
 exact boxRes_heap (outs := [shInt]) (r := .int .i64 e) (a := (e, ())) y' rfl
open Go Go.Proofs
set_option maxHeartbeats 4000000

theorem toNat_lt' {i n : Nat} (h : i < n) : decide ((i : Int).toNat < n) = true := by simpa using h

theorem mTarget_ok (y : CSem cpMk3) (hl : y.2.2.2.2.2.2.2.2.1.length ≤ 1000000) : ∃ e : Int, mTargetO y = some ((e, ()), y) := by
 have h := iter_inv (t := t37p) (β := Unit) y.2.2.2.2.2.2.2.2.1.length (fun _ i => .h2 (y.2.2.2.2.2.2.2.2.1.length : Int) (i : Int) y) (fun _ _ => True) (fun r => ∃ e : Int, r = (.int .i64 e, cpHeap cpMk3 y)) 1 (by
   intro b i hi _
   simp only [t37p, t37p_2, t37p_2z, Tr.val, lt_dec hi, inB_of hi, toNat_lt' hi, if_true]
   rw [wrap_add i (by unfold maxStr; omega)]
   split
   ·exact Or.inr ⟨_, rfl, 7, rfl⟩
   ·exact Or.inl ⟨(), trivial, rfl⟩) (by
   intro b n _ hn
   obtain ⟨n, rfl⟩ : ∃ k, n = k + 1 := ⟨n - 1, by omega⟩
   have hv : ∃ e : Int, (t37p (.h2 (y.2.2.2.2.2.2.2.2.1.length : Int) (y.2.2.2.2.2.2.2.2.1.length : Int) y)).val = some (.inr (.int .i64 e, cpHeap cpMk3 y)) := by
    simp only [t37p, t37p_2, t37p_2z, Tr.val, lt_dec']
    split
    ·simp_all
    ·split
     ·exact ⟨_, rfl⟩
     ·split <;> exact ⟨_, rfl⟩
   obtain ⟨e, hv⟩ := hv
   rw [iterT_val, hv]
   exact ⟨_, rfl, e, rfl⟩)
  y.2.2.2.2.2.2.2.2.1.length 0 () 100000000 rfl (Nat.zero_le _) trivial (by omega)
 obtain ⟨r, h1, e, rfl⟩ := h
 refine ⟨e, ?_⟩
 unfold mTargetO outB runT
 simp only [i37p, Tr.val]
 have h1' : iterT t37p 100000000 (.h2 (y.2.2.2.2.2.2.2.2.1.length : Int) 0 y) = some (.int .i64 e, cpHeap cpMk3 y) := h1
 rw [h1']
 exact boxRes_heap (outs := [shInt]) (r := .int .i64 e) (a := (e, ())) y rfl
open Go Go.Proofs
set_option maxHeartbeats 4000000

theorem tPlace_range (t : Sem shTable) (s : Str) : tPlace t s = (-1 : Int) ∨ ((0 : Int) ≤ tPlace t s ∧ LT.lt (α := Int) (tPlace t s) (List.length t.2.1)) := by
 have := ixFrom_range (fun c : Sem shCol => c.1 == s) t.2.1 0
 unfold tPlace
 simpa using this

theorem inB_place {t : Sem shTable} {s : Str} (h : ¬ LT.lt (α := Int) (tPlace t s) 0) : inB (tPlace t s) (List.length t.2.1) = true := by
 rcases tPlace_range t s with h1 | ⟨h1, h2⟩
 ·rw [h1] at h; simp at h
 ·simp only [inB, Bool.and_eq_true, decide_eq_true_eq]; exact ⟨h1, h2⟩

theorem take_succ' {α : Type} {l : List α} {i : Nat} (h : i < l.length) : l.take (i + 1) = l.take i ++ [l[i]] := by
 rw [List.take_add_one, List.getElem?_eq_getElem h]
 rfl

def NmKeep (y : CSem cpMk) (z : CSem cpMk2) : Prop := z.1 = y.1 ∧ z.2.1 = y.2.1 ∧ z.2.2.1 = y.2.2.1 ∧ z.2.2.2.1 = y.2.2.2.1 ∧ z.2.2.2.2.1 = y.2.2.2.2.1 ∧ z.2.2.2.2.2.1 = y.2.2.2.2.2.1 ∧ z.2.2.2.2.2.2.1 = y.2.2.2.2.2.2.1 ∧ z.2.2.2.2.2.2.2.1 = y.2.2.2.2.2.2.2.1 ∧
 z.2.2.2.2.2.2.2.2.2.1 = y.2.2.2.2.2.2.2.2.1 ∧ z.2.2.2.2.2.2.2.2.2.2.1 = y.2.2.2.2.2.2.2.2.2.1 ∧ z.2.2.2.2.2.2.2.2.2.2.2.2 = y.2.2.2.2.2.2.2.2.2.2

abbrev nmCols (z : CSem cpMk2) : List (Sem shCol) := z.2.2.2.2.2.2.2.2.1
abbrev nmIx (z : CSem cpMk2) : List (Sem shInt) := z.2.2.2.2.2.2.2.2.2.2.2.1

def NmI (y : CSem cpMk) (l : List Str) (z : CSem cpMk2) : Prop := NmKeep y z ∧ nmIx z = l.map (fun s => tPlace y.2.2.1 s) ∧ nmCols z = l.map (fun s => List.getD y.2.2.1.2.1 (Int.toNat (tPlace y.2.2.1 s)) (dflt shCol)) ∧ ∀ s ∈ l, ¬ LT.lt (α := Int) (tPlace y.2.2.1 s) 0

def NmR (y : CSem cpMk) (r : Raw) : Prop := ∃ (e : Int) (z : CSem cpMk2), r = (.int .i64 e, cpHeap cpMk3 z) ∧ NmKeep y z ∧ (e = 0 → NmI y y.2.1.2.2.2.1 z)

theorem nm12b (y : CSem cpMk) (z : CSem cpMk2) (hz : NmI y y.2.1.2.2.2.1 z) (hl : (nmIx z).length ≤ 1000000) (m : Nat) : ∀ (i n : Nat), (nmIx z).length - i = m → i ≤ (nmIx z).length → 1 + m ≤ n → ∃ r, iterT t66p n (.h12b ((nmIx z).length : Int) (i : Int) z) = some r ∧ NmR y r := by
 intro i n hm hi hn
 refine iter_inv (t := t66p) (β := Unit) (nmIx z).length (fun _ i => .h12b ((nmIx z).length : Int) (i : Int) z) (fun _ _ => True) (NmR y) 1 ?_ ?_ m i () n hm hi trivial hn
 ·intro b i hi _
  have hd : (decide (0 ≤ 0) && decide ((0 : Int) ≤ (i : Int)) && decide ((i : Int) ≤ ((nmIx z).length : Int))) = true := by simp; omega
  simp only [t66p, t66p_12b, t66p_12bz, Tr.val, lt_dec hi, inB_of hi, if_true, hd]
  rw [wrap_add i (by unfold maxStr; omega)]
  split
  ·exact Or.inr ⟨_, rfl, 7, z, rfl, hz.1, fun h => by cases h⟩
  ·exact Or.inl ⟨(), trivial, rfl⟩
 ·intro b n _ hn
  obtain ⟨n, rfl⟩ : ∃ k, n = k + 1 := ⟨n - 1, by omega⟩
  rw [iterT_val]
  simp only [t66p, t66p_12b, t66p_12bz, Tr.val, lt_dec']
  exact ⟨_, rfl, 0, z, rfl, hz.1, fun _ => hz⟩

theorem nm12 (y : CSem cpMk) (z : CSem cpMk2) (hz : NmI y y.2.1.2.2.2.1 z) (hl : (nmIx z).length ≤ 1000000) (n : Nat) (hn : 2 + (nmIx z).length ≤ n) : ∃ r, iterT t66p n (.h12 ((nmIx z).length : Int) 0 z) = some r ∧ NmR y r := by
 obtain ⟨n, rfl⟩ : ∃ k, n = k + 1 := ⟨n - 1, by omega⟩
 rw [iterT_val]
 by_cases h : 0 < (nmIx z).length
 ·have hd : (decide (0 ≤ 0) && decide ((0 : Int) ≤ ((0 : Nat) : Int)) && decide (((0 : Nat) : Int) ≤ ((nmIx z).length : Int))) = true := by simp
  have hv : (∃ r, (t66p (.h12 ((nmIx z).length : Int) ((0 : Nat) : Int) z)).val = some (.inr r) ∧ NmR y r) ∨ (t66p (.h12 ((nmIx z).length : Int) ((0 : Nat) : Int) z)).val = some (.inl (.h12b ((nmIx z).length : Int) ((1 : Nat) : Int) z)) := by
   simp only [t66p, t66p_12, t66p_12z, Tr.val, lt_dec h, inB_of h, toNat_lt' h, if_true, hd]
   rw [wrap_add 0 (by unfold maxStr; omega)]
   split
   ·exact Or.inl ⟨_, rfl, 7, z, rfl, hz.1, fun h => by cases h⟩
   ·exact Or.inr rfl
  rw [Int.ofNat_zero] at hv
  rcases hv with ⟨r, h1, h2⟩ | h1
  ·rw [h1]; exact ⟨r, rfl, h2⟩
  ·rw [h1]; exact nm12b y z hz hl _ 1 n rfl (by omega) (by omega)
 ·have h0 : (nmIx z).length = 0 := by omega
  have hv : (t66p (.h12 ((nmIx z).length : Int) 0 z)).val = some (.inr (.int .i64 0, cpHeap cpMk3 z)) := by
   rw [h0]
   simp [t66p, t66p_12, t66p_12z, Tr.val]
  rw [hv]
  exact ⟨_, rfl, 0, z, rfl, hz.1, fun _ => hz⟩

theorem nm3 (y : CSem cpMk) (z : CSem cpMk2) (hz : NmI y [] z) (hl : y.2.1.2.2.2.1.length ≤ 1000000) (n : Nat) (hn : 3 + y.2.1.2.2.2.1.length + y.2.1.2.2.2.1.length ≤ n) : ∃ r, iterT t66p n (.h3 y.2.1.2.2.2.1 (y.2.1.2.2.2.1.length : Int) 0 z) = some r ∧ NmR y r := by
  refine iter_inv (t := t66p) (β := CSem cpMk2) y.2.1.2.2.2.1.length (fun z i => .h3 y.2.1.2.2.2.1 (y.2.1.2.2.2.1.length : Int) (i : Int) z) (fun z i => NmI y (y.2.1.2.2.2.1.take i) z) (NmR y) (3 + y.2.1.2.2.2.1.length) ?_ ?_ y.2.1.2.2.2.1.length 0 z n rfl (Nat.zero_le _) (by simpa using hz) hn
  · intro z i hi hI
    obtain ⟨hk, hx, hc, hp⟩ := hI
    have hkl : (nmIx z).length ≤ 1000000 := by rw [hx, List.length_map, List.length_take]; omega
    have hcl : (nmCols z).length ≤ 1000000 := by rw [hc, List.length_map, List.length_take]; omega
    have e3 : z.2.2.1 = y.2.2.1 := hk.2.2.1
    simp only [t66p, t66p_3, t66p_3z, Tr.val, lt_dec hi, inB_of hi, if_true, getD_at' _ _ hi, etaE_eq, Prod.eta]
    rw [wrap_add i (by unfold maxStr; omega)]
    by_cases c1 : LT.lt (α := Int) (tPlace z.2.2.1 y.2.1.2.2.2.1[i]) 0
    · simp only [decide_eq_true c1, if_true]
      exact Or.inr ⟨_, rfl, 4, z, rfl, hk, fun h => by cases h⟩
    · simp only [decide_eq_false c1, inB_place c1]
      refine Or.inl ⟨(z.1, z.2.1, z.2.2.1, z.2.2.2.1, z.2.2.2.2.1, z.2.2.2.2.2.1, z.2.2.2.2.2.2.1, z.2.2.2.2.2.2.2.1, z.2.2.2.2.2.2.2.2.1 ++ [List.getD z.2.2.1.2.1 (Int.toNat (tPlace z.2.2.1 y.2.1.2.2.2.1[i])) (dflt shCol)], z.2.2.2.2.2.2.2.2.2.1, z.2.2.2.2.2.2.2.2.2.2.1, z.2.2.2.2.2.2.2.2.2.2.2.1 ++ [tPlace z.2.2.1 y.2.1.2.2.2.1[i]], z.2.2.2.2.2.2.2.2.2.2.2.2), ⟨hk, ?_, ?_, ?_⟩, ?_⟩
      rotate_left 3
      · rw [if_neg (by simp), if_pos (by have : z.2.2.2.2.2.2.2.2.2.2.2.1.length ≤ 1000000 := hkl; simp; omega), if_pos trivial, if_pos (by have : z.2.2.2.2.2.2.2.2.1.length ≤ 1000000 := hcl; simp; omega)]
      · show nmIx z ++ [tPlace z.2.2.1 y.2.1.2.2.2.1[i]] = _
        rw [hx, e3, take_succ' hi, List.map_append]
        rfl
      · show nmCols z ++ [List.getD z.2.2.1.2.1 (Int.toNat (tPlace z.2.2.1 y.2.1.2.2.2.1[i])) (dflt shCol)] = _
        rw [hc, e3, take_succ' hi, List.map_append]
        rfl
      · intro s hs
        rw [take_succ' hi, List.mem_append] at hs
        rcases hs with hs | hs
        · exact hp s hs
        · rw [List.mem_singleton] at hs
          rw [hs, ← e3]; exact c1
  · intro z n hI hn
    obtain ⟨n, rfl⟩ : ∃ k, n = k + 1 := ⟨n - 1, by omega⟩
    rw [List.take_length] at hI
    have hkl : (nmIx z).length = y.2.1.2.2.2.1.length := by rw [hI.2.1, List.length_map]
    rw [iterT_val]
    simp only [t66p, t66p_3, t66p_3z, Tr.val, lt_dec']
    exact nm12 y z hI (by omega) n (by have : 2 + (nmIx z).length ≤ n := by rw [hkl]; omega
                                       exact this)

theorem mNamed_ok (y : CSem cpMk) (hl : y.2.1.2.2.2.1.length ≤ 1000000) : ∃ (e : Int) (z : CSem cpMk2), mNamedO y = some ((e, ()), z) ∧ NmKeep y z ∧ (e = 0 → NmI y y.2.1.2.2.2.1 z) := by
 obtain ⟨r, h1, e, z, rfl, h2⟩ := nm3 y (y.1, y.2.1, y.2.2.1, y.2.2.2.1, y.2.2.2.2.1, y.2.2.2.2.2.1, y.2.2.2.2.2.2.1, y.2.2.2.2.2.2.2.1, [], y.2.2.2.2.2.2.2.2.1, y.2.2.2.2.2.2.2.2.2.1, [], y.2.2.2.2.2.2.2.2.2.2)
  ⟨⟨rfl, rfl, rfl, rfl, rfl, rfl, rfl, rfl, rfl, rfl, rfl⟩, rfl, rfl, by simp⟩ hl 100000000 (by omega)
 refine ⟨e, z, ?_, h2⟩
 unfold mNamedO outB runT
 simp only [i66p, Tr.val]
 rw [h1]
 exact boxRes_heap (outs := [shInt]) (r := .int .i64 e) (a := (e, ())) (ps := cpMk3) z rfl
open Go Go.Proofs
set_option maxHeartbeats 4000000

theorem etaMk (y : CSem cpMk) : etaM y = y := by
 unfold etaM
 rw [etaE_eq, etaE_eq, etaE_eq, etaE_eq, etaE_eq]

theorem ixInt_2_range (x : Int) : ∀ (l : List Int) (i : Int), ixInt_2 x l i = (-1 : Int) ∨ ∃ (j : Nat) (h : j < l.length), ixInt_2 x l i = i + (j : Int) ∧ l[j] = x
 | [], _ => .inl rfl
 | a :: r, i => by
  rw [ixInt_2]
  split
  ·rename_i h
   exact .inr ⟨0, by simp, by simp, by simpa using (eq_of_beq h).symm⟩
  ·rcases ixInt_2_range x r (i + 1) with h | ⟨j, hj, h3, h4⟩
   ·exact .inl h
   ·refine .inr ⟨j + 1, by simpa using hj, ?_, by simpa using h4⟩
    rw [h3]
    show i + 1 + (j : Int) = i + ((j + 1 : Nat) : Int)
    omega

theorem ixInt_range (l : List Int) (x : Int) : ixInt l x = (-1 : Int) ∨ ∃ (j : Nat) (h : j < l.length), ixInt l x = (j : Int) ∧ l[j] = x := by
 rcases ixInt_2_range x l 0 with h | ⟨j, hj, h3, h4⟩
 ·exact .inl h
 ·exact .inr ⟨j, hj, by rw [ixInt, h3]; exact Int.zero_add _, h4⟩

structure AskOk (y : CSem cpMk) (z : CSem cpMk3) : Prop where
 cols : ∀ c ∈ z.2.2.2.2.2.2.2.2.1, ∃ d, (d ∈ y.2.2.1.2.1 ∨ (y.2.1.1 = [106, 111, 105, 110] ∧ d ∈ y.2.2.2.1.2.1)) ∧ c.1 = d.1 ∧ c.2.1 = d.2.1
 key : ∃ (k : Nat) (h : k < z.2.2.2.2.2.2.2.2.1.length), z.2.2.2.2.2.2.2.2.2.1 = (k : Int) ∧ ∃ d ∈ y.2.2.1.2.1, (z.2.2.2.2.2.2.2.2.1[k]).1 = d.1
 few : z.2.2.2.2.2.2.2.2.1.length ≤ 1000000

def AkKeep (y : CSem cpMk) (z : CSem cpMk3) : Prop := z.1 = y.1 ∧ z.2.1 = y.2.1 ∧ z.2.2.1 = y.2.2.1 ∧ z.2.2.2.1 = y.2.2.2.1 ∧ z.2.2.2.2.1 = y.2.2.2.2.1 ∧ z.2.2.2.2.2.1 = y.2.2.2.2.2.1 ∧ z.2.2.2.2.2.2.1 = y.2.2.2.2.2.2.1 ∧ z.2.2.2.2.2.2.2.1 = y.2.2.2.2.2.2.2.1

theorem getD_mem {α : Type} (l : List α) (d : α) {i : Nat} (h : i < l.length) : l.getD i d ∈ l := by
 rw [List.getD_eq_getElem?_getD, List.getElem?_eq_getElem h, Option.getD_some]
 exact List.getElem_mem h

theorem place_lt {t : Sem shTable} {s : Str} (h : ¬ LT.lt (α := Int) (tPlace t s) 0) : Int.toNat (tPlace t s) < List.length t.2.1 := by
 have := inB_place h
 simp only [inB, Bool.and_eq_true, decide_eq_true_eq] at this
 omega

theorem nm_cols {y : CSem cpMk} {z : CSem cpMk2} {l : List Str} (h : NmI y l z) : ∀ c ∈ nmCols z, c ∈ y.2.2.1.2.1 := by
 intro c hc
 rw [h.2.2.1, List.mem_map] at hc
 obtain ⟨s, hs, rfl⟩ := hc
 exact getD_mem _ _ (place_lt (h.2.2.2 s hs))

theorem i30_eq (y : CSem cpMk) : i30p y = i30pz y y (mNamed y) (ixInt (mNamed y).2.2.2.2.2.2.2.2.2.2.2.2.1 (mNamed y).2.2.2.1.2.2.1) := by
 unfold i30p
 rw [etaMk]

theorem mCopy_ok (y : CSem cpMk) (hl : y.2.1.2.2.2.1.length ≤ 1000) : ∃ (e : Int) (z : CSem cpMk3), mCopyO y = some ((e, ()), z) ∧ AkKeep y z ∧ z.2.2.2.2.2.2.2.2.2.2.1 = y.2.2.2.2.2.2.2.2.2.1 ∧ (e = 0 → AskOk y z) := by
 obtain ⟨e, z, h1, hk, h2⟩ := mNamed_ok y (by omega)
 have hn : mNamed y = (e, z) := by unfold mNamed; rw [h1]; rfl
 have hc : mNamedC y = true := by unfold mNamedC; rw [h1]; rfl
 unfold mCopyO outB runT
 rw [i30_eq]
 simp only [i30pz, Tr.val, hn, hc, if_true]
 by_cases he : e = 0
 ·have hI := h2 he
  simp only [he, bne_self_eq_false, Bool.false_eq_true, if_false]
  by_cases hx : LT.lt (α := Int) (ixInt (nmIx z) z.2.2.1.2.2.1) 0
  ·simp only [decide_eq_true hx, if_true]
   refine ⟨1, _, boxRes_heap (outs := [shInt]) (r := .int .i64 1) (a := (1, ())) (ps := cpMk3) _ rfl, ⟨hk.1, hk.2.1, hk.2.2.1, hk.2.2.2.1, hk.2.2.2.2.1, hk.2.2.2.2.2.1, hk.2.2.2.2.2.2.1, hk.2.2.2.2.2.2.2.1⟩, hk.2.2.2.2.2.2.2.2.2.1, fun h => by cases h⟩
  ·simp only [decide_eq_false hx]
   refine ⟨0, _, boxRes_heap (outs := [shInt]) (r := .int .i64 0) (a := (0, ())) (ps := cpMk3) _ rfl, ⟨hk.1, hk.2.1, hk.2.2.1, hk.2.2.2.1, hk.2.2.2.2.1, hk.2.2.2.2.2.1, hk.2.2.2.2.2.2.1, hk.2.2.2.2.2.2.2.1⟩, hk.2.2.2.2.2.2.2.2.2.1, fun _ => ⟨?_, ?_, ?_⟩⟩
   ·intro c hc
    exact ⟨c, .inl (nm_cols hI c hc), rfl, rfl⟩
   ·rcases ixInt_range (nmIx z) z.2.2.1.2.2.1 with h | ⟨j, hj, h3, h4⟩
    ·exfalso
     apply hx
     rw [h]; decide
    ·have hj' : j < (nmCols z).length := by
      rw [hI.2.2.1, List.length_map]
      rw [hI.2.1, List.length_map] at hj
      exact hj
     exact ⟨j, hj', h3, _, nm_cols hI _ (List.getElem_mem hj'), rfl⟩
   ·show (nmCols z).length ≤ _
    rw [hI.2.2.1, List.length_map]; omega
 ·have hb : (e != 0) = true := by simpa using he
  simp only [hb, if_true]
  refine ⟨e, _, boxRes_heap (outs := [shInt]) (r := .int .i64 e) (a := (e, ())) (ps := cpMk3) z rfl, ⟨hk.1, hk.2.1, hk.2.2.1, hk.2.2.2.1, hk.2.2.2.2.1, hk.2.2.2.2.2.1, hk.2.2.2.2.2.2.1, hk.2.2.2.2.2.2.2.1⟩, hk.2.2.2.2.2.2.2.2.2.1, fun h => absurd h he⟩

theorem i32_eq (y : CSem cpMk) : i32p y = (let a1 := mNamed y
  let a2 := a1.2.2.2.2.2.2.2.2.2.1.getD (Int.toNat 1) (dflt shCol)
  let a3 := a1.2.2.2.2.2.2.2.2.2.1.getD (Int.toNat 0) (dflt shCol)
  let a4 := a1.2.2.2.2.2.2.2.2.2.1.set (Int.toNat 0) (a3.1, a3.2.1, true)
  let a5 := a4.getD (Int.toNat 1) (dflt shCol)
  i32pz y y a1 a2 a3 a4 a5) := by
 unfold i32p
 rw [etaMk]

theorem mGroup_ok (y : CSem cpMk) (hl : y.2.1.2.2.2.1.length = 2) (hk0 : y.2.2.2.2.2.2.2.2.1 = (0 : Int)) : ∃ (e : Int) (z : CSem cpMk3), mGroupO y = some ((e, ()), z) ∧ AkKeep y z ∧ z.2.2.2.2.2.2.2.2.2.2.1 = y.2.2.2.2.2.2.2.2.2.1 ∧ (e = 0 → AskOk y z) := by
 obtain ⟨e, z, h1, hk, h2⟩ := mNamed_ok y (by omega)
 have hn : mNamed y = (e, z) := by unfold mNamed; rw [h1]; rfl
 have hc : mNamedC y = true := by unfold mNamedC; rw [h1]; rfl
 have hkk : AkKeep y z := ⟨hk.1, hk.2.1, hk.2.2.1, hk.2.2.2.1, hk.2.2.2.2.1, hk.2.2.2.2.2.1, hk.2.2.2.2.2.2.1, hk.2.2.2.2.2.2.2.1⟩
 have hch : z.2.2.2.2.2.2.2.2.2.2.1 = y.2.2.2.2.2.2.2.2.2.1 := hk.2.2.2.2.2.2.2.2.2.1
 have hkey : z.2.2.2.2.2.2.2.2.2.1 = y.2.2.2.2.2.2.2.2.1 := hk.2.2.2.2.2.2.2.2.1
 unfold mGroupO outB runT
 rw [i32_eq]
 simp only [i32pz, hn]
 by_cases he : e = 0
 ·have hI := h2 he
  have hlen : (nmCols z).length = 2 := by rw [hI.2.2.1, List.length_map]; exact hl
  have hm := nm_cols hI
  obtain ⟨z0, z1, z2, z3, z4, z5, z6, z7, cols, z9⟩ := z
  obtain ⟨c0, c1, rfl⟩ : ∃ c0 c1, cols = [c0, c1] := by
   match cols, hlen with
   | [c0, c1], _ => exact ⟨c0, c1, rfl⟩
  simp only [Tr.val, hc, if_true, he, bne_self_eq_false, Bool.false_eq_true, if_false]
  have e1 : inB 1 (List.length [c0, c1]) = true := rfl
  have e0 : inB 0 (List.length [c0, c1]) = true := rfl
  by_cases hty : (c1.2.1 != 1) = true
  ·refine ⟨5, (z0, z1, z2, z3, z4, z5, z6, z7, [c0, c1], z9), ?_, hkk, hch, fun h => by cases h⟩
   simp [hty, List.getD]
   exact boxRes_heap (outs := [shInt]) (r := .int .i64 5) (a := (5, ())) (ps := cpMk3) (z0, z1, z2, z3, z4, z5, z6, z7, [c0, c1], z9) rfl
  ·refine ⟨0, (z0, z1, z2, z3, z4, z5, z6, z7, [(c0.1, c0.2.1, true), (c1.1, c1.2.1, false)], z9), ?_, hkk, hch, fun _ => ⟨?_, ?_, ?_⟩⟩
   ·simp at hty
    simp [hty, List.getD, inB]
    exact boxRes_heap (outs := [shInt]) (r := .int .i64 0) (a := (0, ())) (ps := cpMk3) (z0, z1, z2, z3, z4, z5, z6, z7, [(c0.1, c0.2.1, true), (c1.1, 1, false)], z9) rfl
   ·intro c hc
    simp only [List.mem_cons, List.not_mem_nil, or_false] at hc
    rcases hc with rfl | rfl
    ·exact ⟨c0, .inl (hm c0 (show c0 ∈ [c0, c1] by simp)), rfl, rfl⟩
    ·exact ⟨c1, .inl (hm c1 (show c1 ∈ [c0, c1] by simp)), rfl, rfl⟩
   ·exact ⟨0, by simp, hkey.trans hk0, c0, hm c0 (show c0 ∈ [c0, c1] by simp), rfl⟩
   ·simp
 ·have hb : (e != 0) = true := by simpa using he
  simp only [Tr.val, hc, hb, if_true]
  exact ⟨e, z, boxRes_heap (outs := [shInt]) (r := .int .i64 e) (a := (e, ())) (ps := cpMk3) z rfl, hkk, hch, fun h => absurd h he⟩

def JnI (y : CSem cpMk) (i : Nat) (z : CSem cpMk2) : Prop := AkKeep y z ∧ z.2.2.2.2.2.2.2.2.2.2.1 = y.2.2.2.2.2.2.2.2.2.1 ∧ z.2.2.2.2.2.2.2.2.2.1 = y.2.2.1.2.2.1 ∧ (nmIx z).length ≤ i ∧ ∃ l, nmCols z = y.2.2.1.2.1 ++ l ∧ l.length ≤ i ∧ ∀ c ∈ l, c ∈ y.2.2.2.1.2.1

def JnR (y : CSem cpMk) (r : Raw) : Prop := ∃ (e : Int) (z : CSem cpMk2), r = (.int .i64 e, cpHeap cpMk3 z) ∧ AkKeep y z ∧ z.2.2.2.2.2.2.2.2.2.2.1 = y.2.2.2.2.2.2.2.2.2.1 ∧ (e = 0 → JnI y (List.length y.2.2.2.1.2.1) z)

theorem jn11 (y : CSem cpMk) (z : CSem cpMk2) (hz : JnI y 0 z) (hf : List.length y.2.2.1.2.1 ≤ 1000) (hl : List.length y.2.2.2.1.2.1 ≤ 1000) (n : Nat) (hn : 1 + List.length y.2.2.2.1.2.1 ≤ n) : ∃ r, iterT t31p n (.h11 y.2.2.2.1.2.1 (List.length y.2.2.2.1.2.1 : Int) 0 z) = some r ∧ JnR y r := by
 refine iter_inv (t := t31p) (β := CSem cpMk2) (List.length y.2.2.2.1.2.1) (fun z i => .h11 y.2.2.2.1.2.1 (List.length y.2.2.2.1.2.1 : Int) (i : Int) z) (fun z i => JnI y i z) (JnR y) 1 ?_ ?_ (List.length y.2.2.2.1.2.1) 0 z n rfl (Nat.zero_le _) hz hn
 ·intro z i hi hI
  obtain ⟨hk, hch, hkey, hx, l, hc, hll, hm⟩ := hI
  have hcl : (nmCols z).length ≤ 2000 := by rw [hc, List.length_append]; omega
  simp only [t31p, t31p_11, t31p_11z, Tr.val, lt_dec hi, inB_of hi, if_true, getD_at' _ _ hi]
  rw [wrap_add i (by unfold maxStr; omega)]
  refine Or.inl ?_
  split
  ·refine ⟨(z.1, z.2.1, z.2.2.1, z.2.2.2.1, z.2.2.2.2.1, z.2.2.2.2.2.1, z.2.2.2.2.2.2.1, z.2.2.2.2.2.2.2.1, z.2.2.2.2.2.2.2.2.1 ++ [y.2.2.2.1.2.1[i]], z.2.2.2.2.2.2.2.2.2.1, z.2.2.2.2.2.2.2.2.2.2.1, z.2.2.2.2.2.2.2.2.2.2.2.1 ++ [(i : Int)], z.2.2.2.2.2.2.2.2.2.2.2.2), ⟨hk, hch, hkey, ?_, l ++ [y.2.2.2.1.2.1[i]], ?_, ?_, ?_⟩, ?_⟩
   rotate_left 4
   ·rw [if_pos (by have : z.2.2.2.2.2.2.2.2.2.2.2.1.length ≤ 2000 := (by omega : (nmIx z).length ≤ 2000); simp; omega), if_pos (by have : z.2.2.2.2.2.2.2.2.1.length ≤ 2000 := hcl; simp; omega)]
   ·show (nmIx z ++ [(i : Int)]).length ≤ i + 1
    simp; omega
   ·show nmCols z ++ [y.2.2.2.1.2.1[i]] = _
    rw [hc, List.append_assoc]
   ·simp; omega
   ·intro c hc
    rcases List.mem_append.1 hc with hc | hc
    ·exact hm c hc
    ·rw [List.mem_singleton] at hc
     rw [hc]; exact List.getElem_mem hi
  ·exact ⟨z, ⟨hk, hch, hkey, by omega, l, hc, by omega, hm⟩, rfl⟩
 ·intro z n hI hn
  obtain ⟨n, rfl⟩ : ∃ k, n = k + 1 := ⟨n - 1, by omega⟩
  rw [iterT_val]
  simp only [t31p, t31p_11, t31p_11z, Tr.val, lt_dec']
  exact ⟨_, rfl, 0, z, rfl, hI.1, hI.2.1, fun _ => hI⟩

theorem mJoin_ok (y : CSem cpMk) (ho : y.2.1.1 = [106, 111, 105, 110]) (hf : List.length y.2.2.1.2.1 ≤ 1000) (hl : List.length y.2.2.2.1.2.1 ≤ 1000) (hkf : inC y.2.2.1.2.2.1 (List.length y.2.2.1.2.1)) : ∃ (e : Int) (z : CSem cpMk3), mJoinO y = some ((e, ()), z) ∧ AkKeep y z ∧ z.2.2.2.2.2.2.2.2.2.2.1 = y.2.2.2.2.2.2.2.2.2.1 ∧ (e = 0 → AskOk y z) := by
 have hk : ∀ (a : List (Sem shCol)) (b : Int) (c : ExprT) (d : List Int) (e : Int), AkKeep y (y.1, y.2.1, y.2.2.1, y.2.2.2.1, y.2.2.2.2.1, y.2.2.2.2.2.1, y.2.2.2.2.2.2.1, y.2.2.2.2.2.2.2.1, a, b, c, d, e, ()) := fun _ _ _ _ _ => ⟨rfl, rfl, rfl, rfl, rfl, rfl, rfl, rfl⟩
 have hv : (∃ r, (i31p y).val = some (.inr r) ∧ JnR y r) ∨ ∃ a0 : Int, (i31p y).val = some (.inl (.h11 y.2.2.2.1.2.1 (List.length y.2.2.2.1.2.1 : Int) 0 (y.1, y.2.1, y.2.2.1, y.2.2.2.1, y.2.2.2.2.1, y.2.2.2.2.2.1, y.2.2.2.2.2.2.1, y.2.2.2.2.2.2.2.1, y.2.2.1.2.1, y.2.2.1.2.2.1, y.2.2.2.2.2.2.2.2.2.1, [], a0, ()))) := by
  simp only [i31p, i31pz, Tr.val]
  split
  ·exact Or.inl ⟨_, rfl, 4, _, rfl, hk _ _ _ _ _, rfl, fun h => by cases h⟩
  ·split
   ·exact Or.inl ⟨_, rfl, 10, _, rfl, hk _ _ _ _ _, rfl, fun h => by cases h⟩
   ·split
    ·exact Or.inl ⟨_, rfl, 13, _, rfl, hk _ _ _ _ _, rfl, fun h => by cases h⟩
    ·rw [if_pos (by simp; omega)]
     exact Or.inr ⟨_, rfl⟩
 have hR : ∃ r, runT t31p 100000000 (i31p y) = some r ∧ JnR y r := by
  unfold runT
  rcases hv with ⟨r, h1, h2⟩ | ⟨a0, h1⟩
  ·rw [h1]; exact ⟨r, rfl, h2⟩
  ·rw [h1]
   exact jn11 y _ ⟨hk _ _ _ _ _, rfl, rfl, Nat.le_refl _, [], (List.append_nil _).symm, Nat.le_refl _, by simp⟩ hf hl 100000000 (by omega)
 obtain ⟨r, h1, e, z, rfl, hk, hch, h2⟩ := hR
 unfold mJoinO outB
 rw [h1]
 refine ⟨e, z, boxRes_heap (outs := [shInt]) (r := .int .i64 e) (a := (e, ())) (ps := cpMk3) z rfl, hk, hch, fun he => ?_⟩
 obtain ⟨_, _, hkey, _, l, hc, hll, hm⟩ := h2 he
 refine ⟨?_, ?_, ?_⟩
 ·intro c hcm
  rw [show z.2.2.2.2.2.2.2.2.1 = nmCols z from rfl, hc] at hcm
  rcases List.mem_append.1 hcm with h | h
  ·exact ⟨c, .inl h, rfl, rfl⟩
  ·exact ⟨c, .inr ⟨ho, hm c h⟩, rfl, rfl⟩
 ·obtain ⟨k1, k2⟩ := hkf
  obtain ⟨k, hkn⟩ : ∃ k : Nat, y.2.2.1.2.2.1 = (k : Int) := ⟨Int.toNat y.2.2.1.2.2.1, (Int.toNat_of_nonneg k1).symm⟩
  rw [hkn] at k2
  have hk' : k < List.length y.2.2.1.2.1 := by omega
  have hk2 : k < (nmCols z).length := by rw [hc, List.length_append]; omega
  refine ⟨k, hk2, by rw [hkey, hkn], _, List.getElem_mem hk', ?_⟩
  show ((nmCols z)[k]).1 = _
  simp only [hc, List.getElem_append_left hk']
 ·show (nmCols z).length ≤ _
  rw [hc, List.length_append]; omega
open Go Go.Proofs
set_option maxHeartbeats 4000000

theorem tFew_7_short {a0 a1 a2 a3 a4 a5 a6 a7 a8 a9 b0 b1 b2 b3 b4 b5 b6 d0 d1 d2 d3 d4 d5 d6 d7 d8 d9} : ∀ (l : List (Sem shFor)) (i : Int) (acc : List (Sem shFor)), (acc.length : Int) ≤ i → acc.length ≤ 10 →
  (tFew_7 a0 a1 a2 a3 a4 a5 a6 a7 a8 a9 b0 b1 b2 b3 b4 b5 b6 d0 d1 d2 d3 d4 d5 d6 d7 d8 d9 l i acc).2.2.2.1 = d9 ∧ List.length (tFew_7 a0 a1 a2 a3 a4 a5 a6 a7 a8 a9 b0 b1 b2 b3 b4 b5 b6 d0 d1 d2 d3 d4 d5 d6 d7 d8 d9 l i acc).2.2.2.2.1 ≤ 10
 | [], _, _, _, ha => ⟨rfl, ha⟩
 | x :: r, i, acc, h, ha => by
  rw [tFew_7]
  split
  ·rename_i hi
   simp only [decide_eq_true_eq] at hi
   exact tFew_7_short r (i + 1) _ (by simp; omega) (by simp; omega)
  ·exact ⟨rfl, ha⟩
theorem tFew_3_short {a0 a1 a2 a3 a4 a5 a6 a7 a8 a9 b0 b1 b2 b3 b4 b5 b6 d0 d1 d2 d3 d4 d5 d6 d7 d8 d9} : ∀ (l : List (Sem shInt)) (i : Int) (acc : List (Sem shInt)), (acc.length : Int) ≤ i → acc.length ≤ 10 →
  List.length (tFew_3 a0 a1 a2 a3 a4 a5 a6 a7 a8 a9 b0 b1 b2 b3 b4 b5 b6 d0 d1 d2 d3 d4 d5 d6 d7 d8 d9 l i acc).2.2.2.1 ≤ 10 ∧ List.length (tFew_3 a0 a1 a2 a3 a4 a5 a6 a7 a8 a9 b0 b1 b2 b3 b4 b5 b6 d0 d1 d2 d3 d4 d5 d6 d7 d8 d9 l i acc).2.2.2.2.1 ≤ 10
 | [], i, acc, h, ha => by
  rw [tFew_3]
  obtain ⟨h1, h2⟩ := tFew_7_short (a0 := a0) (a1 := a1) (a2 := a2) (a3 := d9) (a4 := a4) (a5 := a5) (a6 := a6) (a7 := a7) (a8 := a8) (a9 := a9) (b0 := b0) (b1 := b1) (b2 := b2) (b3 := b3) (b4 := b4) (b5 := b5) (b6 := b6) (d0 := d0) (d1 := d1) (d2 := d2) (d3 := d3) (d4 := d4) (d5 := d5) (d6 := d6) (d7 := d7) (d8 := d8) (d9 := acc) a3 0 [] (by simp) (by simp)
  rw [h1]
  exact ⟨ha, h2⟩
 | x :: r, i, acc, h, ha => by
  rw [tFew_3]
  split
  ·rename_i hi
   simp only [decide_eq_true_eq] at hi
   exact tFew_3_short r (i + 1) _ (by simp; omega) (by simp; omega)
  ·obtain ⟨h1, h2⟩ := tFew_7_short (a0 := a0) (a1 := a1) (a2 := a2) (a3 := d9) (a4 := a4) (a5 := a5) (a6 := a6) (a7 := a7) (a8 := a8) (a9 := a9) (b0 := b0) (b1 := b1) (b2 := b2) (b3 := b3) (b4 := b4) (b5 := b5) (b6 := b6) (d0 := d0) (d1 := d1) (d2 := d2) (d3 := d3) (d4 := d4) (d5 := d5) (d6 := d6) (d7 := d7) (d8 := d8) (d9 := acc) a3 0 [] (by simp) (by simp)
   rw [h1]
   exact ⟨ha, h2⟩
theorem tFew_short (t : Sem shTable) : List.length (tFew t).2.2.2.1 ≤ 10 ∧ List.length (tFew t).2.2.2.2.1 ≤ 10 := by
 unfold tFew
 exact tFew_3_short _ _ _ (by simp) (by simp)

theorem few6 (n : Nat) (i4 : Int) (hi4 : i4 ≤ 201) (h0 : 0 ≤ i4) (z0 : CSem cpR) (z1 : CSem cpRz) (t : Sem shTable) (hn : 300 ≤ n) : ∃ rows : List (Sem (.sl shVal)), rows.length ≤ 201 ∧ ∃ r, iterT t21p n (.h6 i4 0 z0 z1 (t, [], ())) = some r ∧ resOf r.2 [shRel] r.1 = some (((t, rows) : Sem shRel), ()) := by
 obtain ⟨N, hN⟩ : ∃ N : Nat, i4 = (N : Int) := ⟨Int.toNat i4, by omega⟩
 have h := iter_inv (t := t21p) (β := List (Sem (.sl shVal))) (min N (List.length z0.1.2)) (fun b i => .h6 i4 (i : Int) z0 z1 (t, b, ())) (fun b i => b.length = i) (fun r => ∃ rows : List (Sem (.sl shVal)), rows.length ≤ 201 ∧ resOf r.2 [shRel] r.1 = some (((t, rows) : Sem shRel), ())) 1 (by
   intro b i hi hb
   have h1 : (i : Int) < (List.length z0.1.2 : Int) := by omega
   have h2 : (i : Int) < i4 := by omega
   have h3 : inB (i : Int) (List.length z0.1.2) = true := inB_of (by omega)
   refine Or.inl ⟨b ++ [lFew2 (List.getD z0.1.2 (i : Int).toNat (dflt shVal.sl))], by simp [hb], ?_⟩
   simp only [t21p, t21p_6, t21p_6z, Tr.val, decide_eq_true h1, decide_eq_true h2, cond_true, if_true, h3]
   rw [wrap_add i (by unfold maxStr; omega), if_pos (by simp; omega)]) (by
   intro b n hb hn
   obtain ⟨n, rfl⟩ : ∃ k, n = k + 1 := ⟨n - 1, by omega⟩
   rw [iterT_val]
   have hf : (bif decide (((min N (List.length z0.1.2) : Nat) : Int) < (List.length z0.1.2 : Int)) then decide (((min N (List.length z0.1.2) : Nat) : Int) < i4) else false) = false := by
    by_cases h : N ≤ List.length z0.1.2
    ·rw [Nat.min_eq_left h, hN]
     simp
    ·rw [Nat.min_eq_right (by omega)]
     simp
   simp only [t21p, t21p_6, t21p_6z, Tr.val, hf]
   refine ⟨_, rfl, b, by omega, ?_⟩
   obtain ⟨t0, t1, t2, t3, t4, t5⟩ := t
   cases t5
   rfl) (min N (List.length z0.1.2)) 0 [] n rfl (Nat.zero_le _) rfl (by omega)
 obtain ⟨r, h1, rows, h2, h3⟩ := h
 exact ⟨rows, h2, r, h1, h3⟩

theorem l7Few_ok (x : Sem shRel) : ∃ rows : List (Sem (.sl shVal)), rows.length ≤ 201 ∧ l7FewO x = some (((tFew x.1, rows) : Sem shRel), ()) := by
 have e : tFew (x.1.1, x.1.2.1, x.1.2.2.1, x.1.2.2.2.1, x.1.2.2.2.2.1, etaE x.1.2.2.2.2.2) = tFew x.1 := by rw [etaE_eq]
 have hv : ∃ k : Int, 0 ≤ k ∧ k ≤ 201 ∧ (i21p x).val = some (.inl (.h6 k 0 (x, ()) ([], 0, [], 0, 0, [], [], ()) (tFew x.1, [], ()))) := by
  simp only [i21p, i21pz, Tr.val, e]
  split
  ·exact ⟨201, by omega, by omega, rfl⟩
  ·exact ⟨40, by omega, by omega, rfl⟩
 obtain ⟨k, k1, k2, hv⟩ := hv
 obtain ⟨rows, h1, r, h2, h3⟩ := few6 100000000 k k2 k1 (x, ()) ([], 0, [], 0, 0, [], [], ()) (tFew x.1) (by omega)
 refine ⟨rows, h1, ?_⟩
 unfold l7FewO outT runT
 rw [hv]
 show (iterT t21p 100000000 _).bind _ = _
 rw [h2]
 exact h3

theorem l7Few_short (x : Sem shRel) : ShortR (l7Few x) := by
 obtain ⟨rows, h1, h2⟩ := l7Few_ok x
 have h3 : l7Few x = (tFew x.1, rows) := by unfold l7Few; rw [h2]; rfl
 rw [h3]
 obtain ⟨k1, k2⟩ := tFew_short x.1
 exact ⟨by show List.length (tFew x.1).2.2.2.1 ≤ _; omega, by show List.length (tFew x.1).2.2.2.2.1 ≤ _; omega, by show rows.length ≤ _; omega⟩
theorem l7FewC_true (x : Sem shRel) : l7FewC x = true := by
 obtain ⟨rows, h1, h2⟩ := l7Few_ok x
 unfold l7FewC
 rw [h2]; rfl

theorem l5TextC_true (s : Str) : l5TextC s = true := by
 unfold l5TextC
 split
 ·rename_i h
  have : 20 < s.length := by simp at h; omega
  rw [if_pos (by simp; omega)]
 ·rfl
theorem l5Text_len (s : Str) : (l5Text s).length ≤ 20 := by
 unfold l5Text
 split
 ·simp; omega
 ·rename_i h
  have : ¬ 20 < s.length := by simp at h; omega
  omega
theorem l5NamesC_3_true : ∀ (l : List Str) (i : Int) (acc : List Str), (acc.length : Int) ≤ i → l5NamesC_3 l i acc = true
 | [], _, _, _ => rfl
 | x :: r, i, acc, h => by
  rw [l5NamesC_3]
  split
  ·rename_i hi
   simp only [decide_eq_true_eq] at hi
   rw [if_pos (l5TextC_true x), if_pos (by simp; omega)]
   exact l5NamesC_3_true r (i + 1) _ (by simp; omega)
  ·rfl
theorem l5NamesC_true (l : List Str) : l5NamesC l = true := l5NamesC_3_true l 0 [] (by simp)
theorem l5Names_3_len : ∀ (l : List Str) (i : Int) (acc : List Str), (acc.length : Int) ≤ i → acc.length ≤ 10 → (∀ x ∈ acc, List.length x ≤ 20) → List.length (l5Names_3 l i acc) ≤ 10 ∧ ∀ x ∈ l5Names_3 l i acc, List.length x ≤ 20
 | [], _, acc, _, h, ha => ⟨h, ha⟩
 | x :: r, i, acc, h, hl, ha => by
  rw [l5Names_3]
  split
  ·rename_i hi
   simp only [decide_eq_true_eq] at hi
   refine l5Names_3_len r (i + 1) _ (by simp; omega) (by simp; omega) (fun y hy => ?_)
   rcases List.mem_append.1 hy with hy | hy
   ·exact ha y hy
   ·rw [List.mem_singleton] at hy
    rw [hy]; exact l5Text_len x
  ·exact ⟨hl, ha⟩
theorem l5Names_len (l : List Str) : List.length (l5Names l) ≤ 10 ∧ ∀ x ∈ l5Names l, List.length x ≤ 20 := l5Names_3_len l 0 [] (by simp) (by simp) (by simp)
theorem lCols_3_len : ∀ (l : List (Sem shCol)) (i : Int) (acc : List (Sem shCol)), (acc.length : Int) ≤ i → acc.length ≤ 10 → (∀ x ∈ acc, List.length x.1 ≤ 20) → List.length (lCols_3 l i acc) ≤ 10 ∧ ∀ x ∈ lCols_3 l i acc, List.length x.1 ≤ 20
 | [], _, acc, _, h, ha => ⟨h, ha⟩
 | x :: r, i, acc, h, hl, ha => by
  rw [lCols_3]
  split
  ·rename_i hi
   simp only [decide_eq_true_eq] at hi
   split
   ·refine lCols_3_len r (i + 1) _ (by simp; omega) (by simp; omega) (fun y hy => ?_)
    rcases List.mem_append.1 hy with hy | hy
    ·exact ha y hy
    ·rw [List.mem_singleton] at hy
     rw [hy]; simp; omega
   ·rename_i hx
    have hx : ¬ 20 < List.length x.1 := by simp at hx; omega
    refine lCols_3_len r (i + 1) _ (by simp; omega) (by simp; omega) (fun y hy => ?_)
    rcases List.mem_append.1 hy with hy | hy
    ·exact ha y hy
    ·rw [List.mem_singleton] at hy
     rw [hy]; omega
  ·exact ⟨hl, ha⟩
theorem lCols_len (l : List (Sem shCol)) : List.length (lCols l) ≤ 10 ∧ ∀ x ∈ lCols l, List.length x.1 ≤ 20 := lCols_3_len l 0 [] (by simp) (by simp) (by simp)
theorem lFew2_3_len : ∀ (l : List (Sem shVal)) (i : Int) (acc : List (Sem shVal)), (acc.length : Int) ≤ i → acc.length ≤ 14 → List.length (lFew2_3 l i acc) ≤ 14
 | [], _, acc, _, h => h
 | x :: r, i, acc, h, hl => by
  rw [lFew2_3]
  split
  ·rename_i hi
   simp only [decide_eq_true_eq] at hi
   exact lFew2_3_len r (i + 1) _ (by simp; omega) (by simp; omega)
  ·exact hl
theorem lFew2_len (l : List (Sem shVal)) : List.length (lFew2 l) ≤ 14 := lFew2_3_len l 0 [] (by simp) (by simp)

theorem fewL_cp {g : Sem Sh.expr → Sem shInt → Sem shInt → Sem Sh.expr × Sem shInt} {c : Sem Sh.expr → Sem shInt → Sem shInt → Bool} {i1 : Int} {N : Nat} (h : ∀ x n, 0 < i1 → cpC N (g x (IntKind.i64.wrap (i1 - 1)) n).1 = true) {a0 a1 a2 a3 a4 b0 b1 b2 b3 b4 d0 d1 d2 d3 d4} :
  ∀ (l : List (Sem Sh.expr)) (i n : Int) (acc : List (Sem Sh.expr)), (acc.length : Int) ≤ i → acc.length ≤ 3 → (∀ x ∈ acc, cpC N x = true) → cpC (N + 1) (fewS_10 g c i1 a0 a1 a2 a3 a4 b0 b1 b2 b3 b4 d0 d1 d2 d3 d4 l i n acc).1 = true
 | [], _, _, acc, _, hl, ha => by
  rw [fewS_10]
  show (decide (acc.length ≤ 1073741824) && acc.all (cpC N)) = true
  rw [List.all_eq_true.2 ha]
  simp; omega
 | x :: r, i, n, acc, hi, hl, ha => by
  rw [fewS_10]
  split
  ·rename_i hk
   have h3 : i < 3 ∧ i1 > 0 := by
    cases h1 : decide (i < 3) <;> cases h2 : decide (i1 > 0) <;> simp_all
   refine fewL_cp h r (i + 1) _ _ (by simp; omega) (by simp; omega) (fun y hy => ?_)
   rcases List.mem_append.1 hy with hy | hy
   ·exact ha y hy
   ·rw [List.mem_singleton] at hy
    rw [hy]; exact h x n h3.2
  ·show (decide (acc.length ≤ 1073741824) && acc.all (cpC N)) = true
   rw [List.all_eq_true.2 ha]
   simp; omega
theorem fewS_cp {g : Sem Sh.expr → Sem shInt → Sem shInt → Sem Sh.expr × Sem shInt} {c : Sem Sh.expr → Sem shInt → Sem shInt → Bool} {i1 : Int} {N : Nat} (h : ∀ x n, 0 < i1 → cpC N (g x (IntKind.i64.wrap (i1 - 1)) n).1 = true) (e : ExprT) (n : Int) : cpC (N + 1) (fewS g c e i1 n).1 = true := by
 unfold fewS
 repeat' split
 all_goals exact fewL_cp h _ _ _ _ (by simp) (by simp) (by simp)
theorem fewN_cp : ∀ (N : Nat) (e : ExprT) (d n : Int), 0 ≤ d → d < N → N ≤ 100 → cpC N (fewN N e d n).1 = true
 | 0, _, _, _, h1, h2, _ => by omega
 | N + 1, e, d, n, h1, h2, h3 => by
  rw [fewN]
  refine fewS_cp (fun x m hd => ?_) e n
  rw [wrap_small _ (by omega) (by omega)]
  exact fewN_cp N x (d - 1) m (by omega) (by omega) (by omega)
theorem eFew_cp (e : ExprT) : cpC 16 (eFew e) = true := by
 have h := fewN_cp 16 e 14 80 (by omega) (by omega) (by omega)
 unfold eFew
 rw [ExprT.eta]
 exact h

structure FewS (s : Sem shStmt) : Prop where
 sh : ShortS s
 cp : cpC 16 s.2.2.2.2.2.2.2.2.1 = true

def F3I (i : Nat) (z : CSem cpS3) : Prop := z.1.length ≤ 20 ∧ z.2.1.length ≤ 20 ∧ z.2.2.1.length ≤ 20 ∧ (List.length z.2.2.2.1 ≤ 10 ∧ ∀ x ∈ z.2.2.2.1, List.length x ≤ 20) ∧ (List.length z.2.2.2.2.1 ≤ 10 ∧ ∀ x ∈ z.2.2.2.2.1, List.length x.1 ≤ 20) ∧ z.2.2.2.2.2.1.length ≤ 20 ∧
 (List.length z.2.2.2.2.2.2.1 ≤ 10 ∧ ∀ x ∈ z.2.2.2.2.2.2.1, List.length x ≤ 20) ∧ (List.length z.2.2.2.2.2.2.2.1 = i ∧ ∀ x ∈ z.2.2.2.2.2.2.2.1, List.length x.1 ≤ 20 ∧ List.length x.2 ≤ 20) ∧ cpC 16 z.2.2.2.2.2.2.2.2.1 = true ∧ List.length z.2.2.2.2.2.2.2.2.2.1 ≤ 14 ∧ z.2.2.2.2.2.2.2.2.2.2.2.1.length ≤ 20

def F7I (i : Nat) (z : CSem cpS7) : Prop := z.1.length ≤ 20 ∧ z.2.1.length ≤ 20 ∧ z.2.2.1.length ≤ 20 ∧ (List.length z.2.2.2.1 ≤ 10 ∧ ∀ x ∈ z.2.2.2.1, List.length x ≤ 20) ∧ (List.length z.2.2.2.2.1 ≤ 10 ∧ ∀ x ∈ z.2.2.2.2.1, List.length x.1 ≤ 20) ∧ z.2.2.2.2.2.1.length ≤ 20 ∧
 (List.length z.2.2.2.2.2.2.1 ≤ 10 ∧ ∀ x ∈ z.2.2.2.2.2.2.1, List.length x ≤ 20) ∧ (List.length z.2.2.2.2.2.2.2.1 ≤ 10 ∧ ∀ x ∈ z.2.2.2.2.2.2.2.1, List.length x.1 ≤ 20 ∧ List.length x.2 ≤ 20) ∧ cpC 16 z.2.2.2.2.2.2.2.2.1 = true ∧ List.length z.2.2.2.2.2.2.2.2.2.1 ≤ 14 ∧
 (List.length z.2.2.2.2.2.2.2.2.2.2.1 = i ∧ ∀ x ∈ z.2.2.2.2.2.2.2.2.2.2.1, List.length x.1 ≤ 20) ∧ z.2.2.2.2.2.2.2.2.2.2.2.2.1.length ≤ 20

def FewR (r : Raw) : Prop := ∃ s : Sem shStmt, resOf r.2 [shStmt] r.1 = some (s, ()) ∧ FewS s

theorem fs7 (z0 : CSem cpS) (z1 : CSem cpSz) (z : CSem cpS7) (hz : F7I 0 z) (n : Nat) (hn : 20 ≤ n) : ∃ r, iterT t8p n (.h7 0 z0 z1 z) = some r ∧ FewR r := by
 refine iter_inv (t := t8p) (β := CSem cpS7) (min 10 (List.length z0.1.2.2.2.2.2.2.2.2.2.2.1)) (fun z i => .h7 (i : Int) z0 z1 z) (fun z i => F7I i z) FewR 1 ?_ ?_ (min 10 (List.length z0.1.2.2.2.2.2.2.2.2.2.2.1)) 0 z n rfl (Nat.zero_le _) hz (by omega)
 ·intro z i hi hb
  obtain ⟨h0, h1, h2, h3, h4, h5, h6, h7, h8, h9, h10, h11⟩ := hb
  have k1 : (i : Int) < (List.length z0.1.2.2.2.2.2.2.2.2.2.2.1 : Int) := by omega
  have k2 : (i : Int) < 10 := by omega
  have k3 : inB (i : Int) (List.length z0.1.2.2.2.2.2.2.2.2.2.2.1) = true := inB_of (by omega)
  refine Or.inl ⟨(z.1, z.2.1, z.2.2.1, z.2.2.2.1, z.2.2.2.2.1, z.2.2.2.2.2.1, z.2.2.2.2.2.2.1, z.2.2.2.2.2.2.2.1, z.2.2.2.2.2.2.2.2.1, z.2.2.2.2.2.2.2.2.2.1, z.2.2.2.2.2.2.2.2.2.2.1 ++ [(l5Text (List.getD z0.1.2.2.2.2.2.2.2.2.2.2.1 (i : Int).toNat (dflt shSet)).1, etaE (eFew (etaE (List.getD z0.1.2.2.2.2.2.2.2.2.2.2.1 (i : Int).toNat (dflt shSet)).2)))], z.2.2.2.2.2.2.2.2.2.2.2), ⟨h0, h1, h2, h3, h4, h5, h6, h7, h8, h9, ?_, h11⟩, ?_⟩
  rotate_left 1
  ·simp only [t8p, t8p_7, t8p_7z, Tr.val, decide_eq_true k1, decide_eq_true k2, cond_true, if_true, k3, l5TextC_true]
   rw [wrap_add i (by unfold maxStr; omega), if_pos (by have := h10.1; simp; omega)]
  ·refine ⟨?_, fun x hx => ?_⟩
   ·simp [h10.1]
   ·rcases List.mem_append.1 hx with hx | hx
    ·exact h10.2 x hx
    ·rw [List.mem_singleton] at hx
     rw [hx]; exact l5Text_len _
 ·intro z n hb hn
  obtain ⟨n, rfl⟩ : ∃ k, n = k + 1 := ⟨n - 1, by omega⟩
  obtain ⟨h0, h1, h2, h3, h4, h5, h6, h7, h8, h9, h10, h11⟩ := hb
  rw [iterT_val]
  have hf : (bif decide (((min 10 (List.length z0.1.2.2.2.2.2.2.2.2.2.2.1) : Nat) : Int) < (List.length z0.1.2.2.2.2.2.2.2.2.2.2.1 : Int)) then decide (((min 10 (List.length z0.1.2.2.2.2.2.2.2.2.2.2.1) : Nat) : Int) < 10) else false) = false := by
   by_cases h : 10 ≤ List.length z0.1.2.2.2.2.2.2.2.2.2.2.1
   ·rw [Nat.min_eq_left h]
    simp
   ·rw [Nat.min_eq_right (by omega)]
    simp
  simp only [t8p, t8p_7, t8p_7z, Tr.val, hf]
  refine ⟨_, rfl, (z.1, z.2.1, z.2.2.1, z.2.2.2.1, z.2.2.2.2.1, z.2.2.2.2.2.1, z.2.2.2.2.2.2.1, z.2.2.2.2.2.2.2.1, z.2.2.2.2.2.2.2.2.1, z.2.2.2.2.2.2.2.2.2.1, z.2.2.2.2.2.2.2.2.2.2.1, z.2.2.2.2.2.2.2.2.2.2.2.1, z.2.2.2.2.2.2.2.2.2.2.2.2.1), ?_, ⟨?_, h8⟩⟩
  ·obtain ⟨z0, z1, z2, z3, z4, z5, z6, z7, z8, z9, z10, z11, z12, z13⟩ := z
   cases z8
   cases z11
   rfl
  ·refine ⟨by show z.1.length ≤ _; omega, by show z.2.1.length ≤ _; omega, by show z.2.2.1.length ≤ _; omega, ⟨by have := h3.1; show List.length z.2.2.2.1 ≤ _; omega, fun x hx => by have := h3.2 x hx; omega⟩, ⟨by have := h4.1; show List.length z.2.2.2.2.1 ≤ _; omega, fun x hx => by have := h4.2 x hx; omega⟩, by show z.2.2.2.2.2.1.length ≤ _; omega, ⟨by have := h6.1; show List.length z.2.2.2.2.2.2.1 ≤ _; omega, fun x hx => by have := h6.2 x hx; omega⟩, ⟨by have := h7.1; show List.length z.2.2.2.2.2.2.2.1 ≤ _; omega, fun x hx => by have := h7.2 x hx; omega⟩, by show List.length z.2.2.2.2.2.2.2.2.2.1 ≤ _; omega, ⟨by have := h10.1; show List.length z.2.2.2.2.2.2.2.2.2.2.1 ≤ _; omega, fun x hx => by have := h10.2 x hx; omega⟩, by show z.2.2.2.2.2.2.2.2.2.2.2.2.1.length ≤ _; omega⟩

theorem fs3 (z0 : CSem cpS) (z1 : CSem cpSz) (z : CSem cpS3) (hz : F3I 0 z) (n : Nat) (hn : 40 ≤ n) : ∃ r, iterT t8p n (.h3 0 z0 z1 z) = some r ∧ FewR r := by
 refine iter_inv (t := t8p) (β := CSem cpS3) (min 10 (List.length z0.1.2.2.2.2.2.2.2.1)) (fun z i => .h3 (i : Int) z0 z1 z) (fun z i => F3I i z) FewR 21 ?_ ?_ (min 10 (List.length z0.1.2.2.2.2.2.2.2.1)) 0 z n rfl (Nat.zero_le _) hz (by omega)
 ·intro z i hi hb
  obtain ⟨h0, h1, h2, h3, h4, h5, h6, h7, h8⟩ := hb
  have k1 : (i : Int) < (List.length z0.1.2.2.2.2.2.2.2.1 : Int) := by omega
  have k2 : (i : Int) < 10 := by omega
  have k3 : inB (i : Int) (List.length z0.1.2.2.2.2.2.2.2.1) = true := inB_of (by omega)
  refine Or.inl ⟨(z.1, z.2.1, z.2.2.1, z.2.2.2.1, z.2.2.2.2.1, z.2.2.2.2.2.1, z.2.2.2.2.2.2.1, z.2.2.2.2.2.2.2.1 ++ [(l5Text (List.getD z0.1.2.2.2.2.2.2.2.1 (i : Int).toNat (dflt shRef)).1, l5Text (List.getD z0.1.2.2.2.2.2.2.2.1 (i : Int).toNat (dflt shRef)).2)], z.2.2.2.2.2.2.2.2), ⟨h0, h1, h2, h3, h4, h5, h6, ?_, h8⟩, ?_⟩
  rotate_left 1
  ·simp only [t8p, t8p_3, t8p_3z, Tr.val, decide_eq_true k1, decide_eq_true k2, cond_true, if_true, k3, l5TextC_true]
   rw [wrap_add i (by unfold maxStr; omega), if_pos (by have := h7.1; simp; omega)]
  ·refine ⟨?_, fun x hx => ?_⟩
   ·simp [h7.1]
   ·rcases List.mem_append.1 hx with hx | hx
    ·exact h7.2 x hx
    ·rw [List.mem_singleton] at hx
     rw [hx]; exact ⟨l5Text_len _, l5Text_len _⟩
 ·intro z n hb hn
  obtain ⟨n, rfl⟩ : ∃ k, n = k + 1 := ⟨n - 1, by omega⟩
  obtain ⟨h0, h1, h2, h3, h4, h5, h6, h7, h8, h9, h10⟩ := hb
  rw [iterT_val]
  have hf : (bif decide (((min 10 (List.length z0.1.2.2.2.2.2.2.2.1) : Nat) : Int) < (List.length z0.1.2.2.2.2.2.2.2.1 : Int)) then decide (((min 10 (List.length z0.1.2.2.2.2.2.2.2.1) : Nat) : Int) < 10) else false) = false := by
   by_cases h : 10 ≤ List.length z0.1.2.2.2.2.2.2.2.1
   ·rw [Nat.min_eq_left h]
    simp
   ·rw [Nat.min_eq_right (by omega)]
    simp
  simp only [t8p, t8p_3, t8p_3z, Tr.val, hf]
  exact fs7 z0 z1 _ ⟨h0, h1, h2, h3, h4, h5, h6, ⟨by have := h7.1; show List.length z.2.2.2.2.2.2.2.1 ≤ _; omega, h7.2⟩, h8, h9, ⟨rfl, by simp⟩, h10⟩ n (by omega)

theorem l5Few_ok (s : Sem shStmt) : ∃ s' : Sem shStmt, l5FewO s = some (s', ()) ∧ FewS s' := by
 unfold l5FewO outT runT
 simp only [i8p, Tr.val, l5TextC_true, l5NamesC_true, if_true]
 obtain ⟨r, h1, s', h2, h3⟩ := fs3 (s, ()) ([], [], [], [], [], 0, 0, [], [], [], 0, 0, [], [], [], ()) (l5Text s.1, l5Text s.2.1, l5Text s.2.2.1, l5Names s.2.2.2.1, lCols s.2.2.2.2.1,
  l5Text s.2.2.2.2.2.1, l5Names s.2.2.2.2.2.2.1, [], eFew (etaE s.2.2.2.2.2.2.2.2.1), lFew2 s.2.2.2.2.2.2.2.2.2.1, eFew (etaE s.2.2.2.2.2.2.2.2.2.2.2.1), l5Text s.2.2.2.2.2.2.2.2.2.2.2.2, ())
  ⟨l5Text_len _, l5Text_len _, l5Text_len _, l5Names_len _, lCols_len _, l5Text_len _, l5Names_len _, ⟨rfl, by simp⟩, eFew_cp _, lFew2_len _, l5Text_len _⟩ 100000000 (by omega)
 refine ⟨s', ?_, h3⟩
 rw [h1]
 exact h2
open Go Go.Proofs
set_option maxHeartbeats 4000000

abbrev y11 (x0 : Sem shRel.sl) (x1 : Sem shStmt) : CSem cpMk := (x0, x1, ([], [], 0, [], [], ExprT.mk [] (0, 0, []) [] []), ([], [], 0, [], [], ExprT.mk [] (0, 0, []) [] []), x1.1, x1.2.2.1, x1.2.2.2.2.2.2.2.2.2.2.2.2, x1.2.1, 0, x1.2.2.2.2.2.2.2.2.1, 0, ())

theorem i11_eq (x0 : Sem shRel.sl) (x1 : Sem shStmt) : i11p x0 x1 = (let a8 := mSources (y11 x0 x1)
  let a11 := mCopy a8.2
  let a14 := mJoin a8.2
  let a17 := mGroup a8.2
  i11pz x0 x1 x1.2.2.2.2.2.2.2.2.1 x1 (!stMay x1) (stMayC x1 && bif !stMay x1 then true else bCheckC x0) (bif !stMay x1 then true else bCheck x0 != 0) (cpC 16 x1.2.2.2.2.2.2.2.2.1) (y11 x0 x1) (mSourcesC (y11 x0 x1)) a8 (a8.1 == 0) a8.2 a11 a11.2 (mTarget a11.2) a14 a14.2 (mTarget a14.2) a17 a17.2 (mTarget a17.2)) := by
 unfold i11p
 simp only [etaM, etaM3, etaE_eq]

abbrev plOf (z : CSem cpMk3) : Sem shPlan := (z.2.2.2.2.1, z.2.2.2.2.2.1, z.2.2.2.2.2.2.1, (z.2.2.2.2.2.2.2.1, z.2.2.2.2.2.2.2.2.1, z.2.2.2.2.2.2.2.2.2.1, [], [], z.2.2.2.2.2.2.2.2.2.2.1), z.2.2.2.2.2.2.2.2.2.2.2.1, z.2.2.2.2.2.2.2.2.2.2.2.2.1)
abbrev plNil : Sem shPlan := ([], [], [], ([], [], 0, [], [], ExprT.mk [] (0, 0, []) [] []), [], 0)

structure PlanOk (x0 : Sem shRel.sl) (x1 : Sem shStmt) (p : Sem shPlan) : Prop where
 ok : bCheck x0 = (0 : Int)
 parts : sParts x1 = true
 ex : ∃ (y : CSem cpMk) (z : CSem cpMk3), SrcOk (y11 x0 x1) y ∧ y.1 = x0 ∧ y.2.1 = x1 ∧ y.2.2.2.2 = (y11 x0 x1).2.2.2.2 ∧ AkKeep y z ∧ z.2.2.2.2.2.2.2.2.2.2.1 = x1.2.2.2.2.2.2.2.2.1 ∧ AskOk y z ∧ p = plOf z

abbrev isMig (op : Str) : Prop := op = [99, 111, 112, 121] ∨ op = [106, 111, 105, 110] ∨ op = [103, 114, 111, 117, 112]

theorem stMay_parts {s : Sem shStmt} (h : stMay s = true) : sParts s = true := by
 unfold stMay stText at h
 by_cases hp : sParts s = true
 ·exact hp
 ·exfalso
  simp only [Bool.not_eq_true] at hp
  simp [hp] at h

theorem find_mem {db : List (Sem shRel)} {s : Str} (h : (0 : Int) ≤ bFind db s) : db.getD (Int.toNat (bFind db s)) (dflt shRel) ∈ db := by
 have := inB_find h
 simp only [inB, Bool.and_eq_true, decide_eq_true_eq] at this
 exact getD_mem _ _ (by omega)

theorem bCheck_9_may {l0 : List (Sem shRel)} (db : List (Sem shRel)) (hl : db.length ≤ 12) : ∀ (n i : Nat), i ≤ db.length → db.length + 1 ≤ n + i → bCheck_9 n l0 db (db.length : Int) (i : Int) = (0 : Int) → ∀ (j : Nat) x, i ≤ j → db[j]? = some x → rCheck x = (0 : Int)
 | 0, i, h1, h2, _ => by omega
 | n + 1, i, h1, h2, h3 => by
  rw [bCheck_9] at h3
  intro j x hj hx
  have hjl : j < db.length := (List.getElem?_eq_some_iff.1 hx).1
  have h : i < db.length := by omega
  rw [if_pos (lt_dec h), getD_at db _ h, wrapN1 i (by omega)] at h3
  split at h3
  ·rename_i h4
   rw [h3] at h4
   simp at h4
  ·rename_i h4
   by_cases hji : i = j
   ·subst hji
    rw [List.getElem?_eq_getElem h] at hx
    cases hx
    simpa using h4
   ·exact bCheck_9_may db hl n (i + 1) (by omega) (by omega) h3 j x (by omega) hx

theorem bCheck_4_may (db : List (Sem shRel)) (hl : db.length ≤ 12) : ∀ (n i : Nat), 1 ≤ i → i ≤ db.length + 1 → db.length + db.length + 4 ≤ n + i → bCheck_4 n db (i : Int) = (0 : Int) → ∀ x ∈ db, rCheck x = (0 : Int)
 | 0, i, _, h1, h2, _ => by omega
 | n + 1, i, h0, h1, h2, h3 => by
  rw [bCheck_4] at h3
  by_cases h : i < db.length
  ·rw [if_pos (lt_dec h)] at h3
   split at h3
   ·cases h3
   ·rw [wrapN1 i (by omega)] at h3
    exact bCheck_4_may db hl n (i + 1) (by omega) (by omega) (by omega) h3
  ·rw [if_neg (by simp; omega)] at h3
   intro x hx
   obtain ⟨j, hj, rfl⟩ := List.getElem_of_mem hx
   exact bCheck_9_may db hl n 0 (by omega) (by omega) h3 j _ (by omega) (List.getElem?_eq_getElem hj)

theorem bCheck_rels {db : List (Sem shRel)} (h : bCheck db = (0 : Int)) : db.length ≤ 12 ∧ ∀ x ∈ db, rCheck x = (0 : Int) := by
 unfold bCheck at h
 split at h
 ·cases h
 ·rename_i hl
  have hl : db.length ≤ 12 := by simp at hl; omega
  exact ⟨hl, bCheck_4_may db hl 100000000 1 (by omega) (by omega) (by omega) h⟩

theorem group_names {s : Sem shStmt} (h : sParts s = true) (ho : s.1 = [103, 114, 111, 117, 112]) : s.2.2.2.1.length = 2 := by
 rcases upd_ops h with ⟨h1, _⟩ | ⟨_, h2⟩ | h1
 ·rw [ho] at h1; simp at h1
 ·exact h2
 ·rw [ho] at h1; simp at h1

theorem join_role {s : Sem shStmt} (h : sParts s = true) (ho : s.1 = [106, 111, 105, 110]) : s.2.2.2.2.2.2.2.2.2.2.2.2 ≠ [] := by
 intro hr
 have hn : sName ([] : Str) = false := by kernel_rfl
 have q0 : (s.1 == [99, 114, 101, 97, 116, 101]) = false := by rw [ho]; rfl
 have q1 : (s.1 == [100, 114, 111, 112]) = false := by rw [ho]; rfl
 have q2 : (s.1 == [105, 110, 115, 101, 114, 116]) = false := by rw [ho]; rfl
 have q3 : (s.1 == [117, 112, 100, 97, 116, 101]) = false := by rw [ho]; rfl
 have q4 : (s.1 == [100, 101, 108, 101, 116, 101]) = false := by rw [ho]; rfl
 have q5 : (s.1 == [115, 101, 108, 101, 99, 116]) = false := by rw [ho]; rfl
 have q6 : (s.1 == [114, 101, 97, 100]) = false := by rw [ho]; rfl
 have q7 : (s.1 == [119, 114, 105, 116, 101]) = false := by rw [ho]; rfl
 have q8 : (s.1 == [117, 110, 114, 101, 97, 100]) = false := by rw [ho]; rfl
 have q9 : (s.1 == [117, 110, 119, 114, 105, 116, 101]) = false := by rw [ho]; rfl
 have q10 : (s.1 == [99, 111, 112, 121]) = false := by rw [ho]; rfl
 have q11 : (s.1 == [106, 111, 105, 110]) = true := by rw [ho]; rfl
 obtain ⟨_, hp⟩ := sParts_of (s := s) (g := _) (b := _) (by simp only [i118p, i118pz, Tr.val, q0, q1, q2, q3, q4, q5, q6, q7, q8, q9, q10, q11, if_true, if_false, Bool.false_eq_true, etaE_eq]; exact rfl)
 rw [hp, hr, hn] at h
 simp at h

theorem res0 (e : Int) : resOf [] [shPlan, shInt] (AV.tup [AV.agg [AV.str [], AV.str [], AV.str [], AV.str [], AV.nils, AV.int .i64 0, AV.nils, AV.nils, AV.str [], AV.int .i64 0, AV.int .i64 0, AV.str [], AV.str [], AV.nils, AV.nils, AV.int .i64 0], AV.int .i64 e]) = some (plNil, e, ()) := rfl

theorem res1 (z : CSem cpMk3) : resOf [AO.vec shCol z.2.2.2.2.2.2.2.2.1] [shPlan, shInt] (AV.tup [AV.agg [AV.str z.2.2.2.2.1, AV.str z.2.2.2.2.2.1, AV.str z.2.2.2.2.2.2.1, AV.str z.2.2.2.2.2.2.2.1, AV.vec 0,
  AV.int .i64 z.2.2.2.2.2.2.2.2.2.1, AV.nils, AV.nils, AV.str (ExprT.op z.2.2.2.2.2.2.2.2.2.2.1), AV.int .i64 (ExprT.v z.2.2.2.2.2.2.2.2.2.2.1).1, AV.int .i64 (ExprT.v z.2.2.2.2.2.2.2.2.2.2.1).2.1, AV.str (ExprT.v z.2.2.2.2.2.2.2.2.2.2.1).2.2, AV.str (ExprT.s z.2.2.2.2.2.2.2.2.2.2.1), AV.sl Sh.expr (ExprT.l z.2.2.2.2.2.2.2.2.2.2.1),
  AV.sl shInt z.2.2.2.2.2.2.2.2.2.2.2.1, AV.int .i64 z.2.2.2.2.2.2.2.2.2.2.2.2.1], AV.int .i64 0]) = some (plOf z, 0, ()) := by
 obtain ⟨z0, z1, z2, z3, z4, z5, z6, z7, z8, z9, z10, z11, z12, z13⟩ := z
 cases z10
 rfl

def PfR (x0 : Sem shRel.sl) (x1 : Sem shStmt) (o : Option (HArgs (List.map some [shPlan, shInt]))) : Prop := ∃ (p : Sem shPlan) (e : Int), o = some (p, e, ()) ∧ (¬ isMig x1.1 → e = 1 ∧ p = plNil) ∧ (e ≠ 0 → p = plNil) ∧ (e = 0 → PlanOk x0 x1 p)

theorem pfr0 {x0 : Sem shRel.sl} {x1 : Sem shStmt} {o : Option (HArgs (List.map some [shPlan, shInt]))} (e : Int) (h : o = some (plNil, e, ())) (he : e ≠ 0) (hm : ¬ isMig x1.1 → e = 1) : PfR x0 x1 o :=
 ⟨plNil, e, h, fun h => ⟨hm h, rfl⟩, fun _ => rfl, fun h => absurd h he⟩

theorem pOf_bad {x0 : Sem shRel.sl} {x1 : Sem shStmt} (hM : stMayC x1 = true) (hB : bCheckC x0 = true) (hmay : (bif !stMay x1 then true else bCheck x0 != 0) = true) : PfR x0 x1 (pOfO x0 x1) := by
 have h3 : (stMayC x1 && bif !stMay x1 then true else bCheckC x0) = true := by rw [hM, hB]; cases stMay x1 <;> rfl
 refine pfr0 1 ?_ (by decide) (fun _ => rfl)
 unfold pOfO outT runT
 rw [i11_eq]
 simp only [i11pz, Tr.val, h3, hmay, if_true]
 by_cases o1 : (x1.1 == [99, 111, 112, 121]) = true
 ·simp only [o1, if_true]; rfl
 ·by_cases o2 : (x1.1 == [106, 111, 105, 110]) = true
  ·simp only [o1, o2, if_true]; rfl
  ·by_cases o3 : (x1.1 == [103, 114, 111, 117, 112]) = true
   ·simp only [o1, o2, o3, if_true]; rfl
   ·simp only [o1, o2, o3]; rfl

theorem pOf_ok {x0 : Sem shRel.sl} {x1 : Sem shStmt} (hdb : ∀ x ∈ x0, ShortR x) (hl : List.length x0 ≤ 13) (hs : FewS x1) : PfR x0 x1 (pOfO x0 x1) := by
 have hM := stMayC_true hs.sh
 have hB := bCheckC_true hdb
 by_cases hmay : (bif !stMay x1 then true else bCheck x0 != 0) = true
 ·exact pOf_bad hM hB hmay
 have h3 : (stMayC x1 && bif !stMay x1 then true else bCheckC x0) = true := by rw [hM, hB]; cases stMay x1 <;> rfl
 have hm1 : stMay x1 = true := by
  cases h : stMay x1
  ·rw [h] at hmay; simp at hmay
  ·rfl
 have hb1 : bCheck x0 = (0 : Int) := by
  rw [hm1] at hmay; simpa using hmay
 have hparts := stMay_parts hm1
 obtain ⟨_, hrels⟩ := bCheck_rels hb1
 obtain ⟨e8, y8, h8, k1, k2, k3, k4⟩ := mSources_ok (y11 x0 x1) (by show List.length x0 ≤ _; omega)
 have s8 : mSources (y11 x0 x1) = (e8, y8) := by unfold mSources; rw [h8]; rfl
 have c8 : mSourcesC (y11 x0 x1) = true := by unfold mSourcesC; rw [h8]; rfl
 unfold pOfO outT runT
 rw [i11_eq]
 simp only [i11pz, Tr.val, h3, hmay, hs.cp, s8, c8, if_true]
 by_cases e80 : e8 = 0
 ·have hsrc := k4 e80
  have n2 : y8.2.1 = x1 := k2
  have n1 : y8.1 = x0 := k1
  have nk : y8.2.2.2.2.2.2.2.2.1 = (0 : Int) := by rw [k3]
  have nch : y8.2.2.2.2.2.2.2.2.2.1 = x1.2.2.2.2.2.2.2.2.1 := by rw [k3]
  have hfrom : y8.2.2.1 = (List.getD x0 (Int.toNat (bFind x0 x1.2.2.1)) (dflt shRel)).1 := hsrc.2.2.2.2.1
  have hwith : y8.2.2.2.1 = (if x1.2.2.2.2.2.2.2.2.2.2.2.2 = [] then ([], [], 0, [], [], ExprT.mk [] (0, 0, []) [] []) else (List.getD x0 (Int.toNat (bFind x0 x1.2.2.2.2.2.2.2.2.2.2.2.2)) (dflt shRel)).1) := hsrc.2.2.2.2.2
  have mayf := may_facts (rCheck_ok (hrels _ (find_mem (db := x0) (s := x1.2.2.1) hsrc.1))).may
  rw [← hfrom] at mayf
  have hwl : List.length y8.2.2.2.1.2.1 ≤ 1000 := by
   rw [hwith]
   split
   ·simp
   ·rename_i hw
    have := (may_facts (rCheck_ok (hrels _ (find_mem (db := x0) (s := x1.2.2.2.2.2.2.2.2.2.2.2.2) (hsrc.2.1.resolve_left hw)))).may).2.2.2.1
    omega
  have e8b : (e8 == 0) = true := by simpa using e80
  simp only [e8b, if_true]
  by_cases o1 : (x1.1 == [99, 111, 112, 121]) = true
  ·have hx : x1.1 = [99, 111, 112, 121] := eq_of_beq o1
   have hmg : isMig x1.1 := Or.inl hx
   obtain ⟨e11, z, h11, hk, hch, hok⟩ := mCopy_ok y8 (by rw [n2]; have := hs.sh.names.1; omega)
   have s11 : mCopy y8 = (e11, z) := by unfold mCopy; rw [h11]; rfl
   have c11 : mCopyC y8 = true := by unfold mCopyC; rw [h11]; rfl
   simp only [o1, s11, c11, if_true]
   by_cases e0 : e11 = 0
   ·have hA := hok e0
    obtain ⟨e13, h13⟩ := mTarget_ok z hA.few
    have s13 : mTarget z = (e13, z) := by unfold mTarget; rw [h13]; rfl
    have c13 : mTargetC z = true := by unfold mTargetC; rw [h13]; rfl
    have e0b : (e11 == 0) = true := by simpa using e0
    simp only [e0b, s13, c13, if_true]
    by_cases f0 : e13 = 0
    ·have f0c : (e13 != 0) = false := by simp [f0]
     simp only [f0c]
     exact ⟨plOf z, 0, res1 z, fun h => absurd hmg h, fun h => absurd rfl h, fun _ => ⟨hb1, hparts, y8, z, hsrc, n1, n2, k3, hk, hch.trans nch, hA, rfl⟩⟩
    ·have f0c : (e13 != 0) = true := by simpa using f0
     simp only [f0c, if_true]
     exact pfr0 e13 (res0 e13) f0 (fun h => absurd hmg h)
   ·have e0b : (e11 == 0) = false := by simpa using e0
    have e0c : (e11 != 0) = true := by simpa using e0
    simp only [e0b, e0c, if_true]
    exact pfr0 e11 (res0 e11) e0 (fun h => absurd hmg h)
  ·by_cases o2 : (x1.1 == [106, 111, 105, 110]) = true
   ·have hx : x1.1 = [106, 111, 105, 110] := eq_of_beq o2
    have hmg : isMig x1.1 := Or.inr (Or.inl hx)
    obtain ⟨e11, z, h11, hk, hch, hok⟩ := mJoin_ok y8 (by rw [n2]; exact hx) (by have := mayf.2.2.2.1; omega) hwl mayf.1
    have s11 : mJoin y8 = (e11, z) := by unfold mJoin; rw [h11]; rfl
    have c11 : mJoinC y8 = true := by unfold mJoinC; rw [h11]; rfl
    simp only [o1, o2, s11, c11, if_true]
    by_cases e0 : e11 = 0
    ·have hA := hok e0
     obtain ⟨e13, h13⟩ := mTarget_ok z hA.few
     have s13 : mTarget z = (e13, z) := by unfold mTarget; rw [h13]; rfl
     have c13 : mTargetC z = true := by unfold mTargetC; rw [h13]; rfl
     have e0b : (e11 == 0) = true := by simpa using e0
     simp only [e0b, s13, c13, if_true]
     by_cases f0 : e13 = 0
     ·have f0c : (e13 != 0) = false := by simp [f0]
      simp only [f0c]
      exact ⟨plOf z, 0, res1 z, fun h => absurd hmg h, fun h => absurd rfl h, fun _ => ⟨hb1, hparts, y8, z, hsrc, n1, n2, k3, hk, hch.trans nch, hA, rfl⟩⟩
     ·have f0c : (e13 != 0) = true := by simpa using f0
      simp only [f0c, if_true]
      exact pfr0 e13 (res0 e13) f0 (fun h => absurd hmg h)
    ·have e0b : (e11 == 0) = false := by simpa using e0
     have e0c : (e11 != 0) = true := by simpa using e0
     simp only [e0b, e0c, if_true]
     exact pfr0 e11 (res0 e11) e0 (fun h => absurd hmg h)
   ·by_cases o3 : (x1.1 == [103, 114, 111, 117, 112]) = true
    ·have hx : x1.1 = [103, 114, 111, 117, 112] := eq_of_beq o3
     have hmg : isMig x1.1 := Or.inr (Or.inr hx)
     obtain ⟨e11, z, h11, hk, hch, hok⟩ := mGroup_ok y8 (by rw [n2]; exact group_names hparts hx) nk
     have s11 : mGroup y8 = (e11, z) := by unfold mGroup; rw [h11]; rfl
     have c11 : mGroupC y8 = true := by unfold mGroupC; rw [h11]; rfl
     simp only [o1, o2, o3, s11, c11, if_true]
     by_cases e0 : e11 = 0
     ·have hA := hok e0
      obtain ⟨e13, h13⟩ := mTarget_ok z hA.few
      have s13 : mTarget z = (e13, z) := by unfold mTarget; rw [h13]; rfl
      have c13 : mTargetC z = true := by unfold mTargetC; rw [h13]; rfl
      have e0b : (e11 == 0) = true := by simpa using e0
      simp only [e0b, s13, c13, if_true]
      by_cases f0 : e13 = 0
      ·have f0c : (e13 != 0) = false := by simp [f0]
       simp only [f0c]
       exact ⟨plOf z, 0, res1 z, fun h => absurd hmg h, fun h => absurd rfl h, fun _ => ⟨hb1, hparts, y8, z, hsrc, n1, n2, k3, hk, hch.trans nch, hA, rfl⟩⟩
      ·have f0c : (e13 != 0) = true := by simpa using f0
       simp only [f0c, if_true]
       exact pfr0 e13 (res0 e13) f0 (fun h => absurd hmg h)
     ·have e0b : (e11 == 0) = false := by simpa using e0
      have e0c : (e11 != 0) = true := by simpa using e0
      simp only [e0b, e0c, if_true]
      exact pfr0 e11 (res0 e11) e0 (fun h => absurd hmg h)
    ·simp only [o1, o2, o3]
     exact pfr0 1 (res0 1) (by decide) (fun _ => rfl)
 ·have e8b : (e8 == 0) = false := by simpa using e80
  have e8c : (e8 != 0) = true := by simpa using e80
  simp only [e8b, e8c, if_true]
  by_cases o1 : (x1.1 == [99, 111, 112, 121]) = true
  ·simp only [o1, if_true]
   exact pfr0 e8 (res0 e8) e80 (fun h => absurd (Or.inl (eq_of_beq o1)) h)
  ·by_cases o2 : (x1.1 == [106, 111, 105, 110]) = true
   ·simp only [o1, o2, if_true]
    exact pfr0 e8 (res0 e8) e80 (fun h => absurd (Or.inr (Or.inl (eq_of_beq o2))) h)
   ·by_cases o3 : (x1.1 == [103, 114, 111, 117, 112]) = true
    ·simp only [o1, o2, o3, if_true]
     exact pfr0 e8 (res0 e8) e80 (fun h => absurd (Or.inr (Or.inr (eq_of_beq o3))) h)
    ·simp only [o1, o2, o3]
     exact pfr0 1 (res0 1) (by decide) (fun _ => rfl)
open Go Go.Proofs
set_option maxHeartbeats 4000000

theorem may4_places {a0 a1 a2 a3 a4 a5 a6 a7 a8 a9 b0} : ∀ (l : List (Sem shCol)) (i : Int), tMay_4 a0 a1 a2 a3 a4 a5 a6 a7 a8 a9 b0 l i = true → ∀ (j : Nat) c, l[j]? = some c → tPlace (a0, a1, a2, a3, a4, ExprT.mk a5 (a6, a7, a8) a9 b0) c.1 = i + (j : Int)
 | [], i, _, j, c, hj => by simp at hj
 | x :: r, i, h, j, c, hj => by
  rw [tMay_4] at h
  split at h
  ·cases h
  ·rename_i h1
   cases j with
   | zero =>
    simp only [List.getElem?_cons_zero, Option.some.injEq] at hj
    subst hj
    cases h2 : (tPlace (a0, a1, a2, a3, a4, ExprT.mk a5 (a6, a7, a8) a9 b0) x.1 != i)
    ·have h3 : tPlace (a0, a1, a2, a3, a4, ExprT.mk a5 (a6, a7, a8) a9 b0) x.1 = i := by simpa using h2
     rw [h3]; simp
    ·exfalso
     apply h1
     rw [h2]
     cases !nameOk x.1 <;> cases decide (x.2.1 < 1) <;> cases decide (x.2.1 > 3) <;> rfl
   | succ j =>
    have := may4_places r (i + 1) h j c (by simpa using hj)
    rw [this]
    show i + 1 + (j : Int) = i + ((j + 1 : Nat) : Int)
    omega

theorem may_places {t : Sem shTable} (h : tMay t = true) {i : Nat} (hi : i < List.length t.2.1) : tPlace t (t.2.1[i]).1 = (i : Int) := by
 unfold tMay at h
 split at h
 ·cases h
 ·have := may4_places _ _ h i t.2.1[i] (List.getElem?_eq_getElem hi)
  obtain ⟨t0, t1, t2, t3, t4, t5⟩ := t
  cases t5
  rw [Int.zero_add] at this
  exact this

theorem mem_place {t : Sem shTable} (h : tMay t = true) {d : Sem shCol} (hd : d ∈ t.2.1) : ∃ (j : Nat) (hj : j < List.length t.2.1), tPlace t d.1 = (j : Int) ∧ t.2.1[j] = d := by
 obtain ⟨j, hj, rfl⟩ := List.getElem_of_mem hd
 exact ⟨j, hj, may_places h hj, rfl⟩
open Go Go.Proofs
set_option maxHeartbeats 4000000

theorem tFew_7_chk {a0 a1 a2 a3 a4 a5 a6 a7 a8 a9 b0 b1 b2 b3 b4 b5 b6 d0 d1 d2 d3 d4 d5 d6 d7 d8 d9} : ∀ (l : List (Sem shFor)) (i : Int) (acc : List (Sem shFor)),
  (tFew_7 a0 a1 a2 a3 a4 a5 a6 a7 a8 a9 b0 b1 b2 b3 b4 b5 b6 d0 d1 d2 d3 d4 d5 d6 d7 d8 d9 l i acc).2.2.2.2.2 = ExprT.mk d3 (d4, d5, d6) d7 d8
 | [], _, _ => rfl
 | x :: r, i, acc => by
  rw [tFew_7]
  split
  ·exact tFew_7_chk r (i + 1) _
  ·rfl
theorem tFew_3_chk {a0 a1 a2 a3 a4 a5 a6 a7 a8 a9 b0 b1 b2 b3 b4 b5 b6 d0 d1 d2 d3 d4 d5 d6 d7 d8 d9} : ∀ (l : List (Sem shInt)) (i : Int) (acc : List (Sem shInt)),
  (tFew_3 a0 a1 a2 a3 a4 a5 a6 a7 a8 a9 b0 b1 b2 b3 b4 b5 b6 d0 d1 d2 d3 d4 d5 d6 d7 d8 d9 l i acc).2.2.2.2.2 = ExprT.mk d3 (d4, d5, d6) d7 d8
 | [], i, acc => by
  rw [tFew_3]
  exact tFew_7_chk _ _ _
 | x :: r, i, acc => by
  rw [tFew_3]
  split
  ·exact tFew_3_chk r (i + 1) _
  ·exact tFew_7_chk _ _ _
theorem tFew_cp (t : Sem shTable) : cpC 16 (tFew t).2.2.2.2.2 = true := by
 have h : (tFew t).2.2.2.2.2 = eFew t.2.2.2.2.2 := by
  unfold tFew
  rw [tFew_3_chk]
  exact ExprT.eta _
 rw [h]
 exact eFew_cp _

structure ShortC (x : Sem shRel) : Prop where
 sh : ShortR x
 cp : cpC 16 x.1.2.2.2.2.2 = true

theorem l7Few_shortC (x : Sem shRel) : ShortC (l7Few x) := by
 refine ⟨l7Few_short x, ?_⟩
 obtain ⟨rows, h1, h2⟩ := l7Few_ok x
 have h3 : l7Few x = (tFew x.1, rows) := by unfold l7Few; rw [h2]; rfl
 rw [h3]
 exact tFew_cp x.1

theorem l8Few_okC (db : List (Sem shRel)) : ∃ db' : List (Sem shRel), l8FewO db = some (db', ()) ∧ db'.length ≤ 13 ∧ ∀ x ∈ db', ShortC x := by
 have h := iter_inv (t := t7p) (β := List (Sem shRel)) (min 13 db.length) (fun b i => .h3 db (i : Int) b) (fun b i => b.length = i ∧ ∀ x ∈ b, ShortC x) (fun r => ∃ db' : List (Sem shRel), resOf r.2 [shRel.sl] r.1 = some (db', ()) ∧ db'.length ≤ 13 ∧ ∀ x ∈ db', ShortC x) 1 (by
   intro b i hi hb
   have h1 : (i : Int) < (db.length : Int) := by omega
   have h2 : (i : Int) < 13 := by omega
   have h3 : inB (i : Int) db.length = true := inB_of (by omega)
   refine Or.inl ⟨b ++ [l7Few (db.getD (i : Int).toNat (dflt shRel))], ⟨by simp [hb.1], ?_⟩, ?_⟩
   ·intro x hx
    rcases List.mem_append.1 hx with hx | hx
    ·exact hb.2 x hx
    ·rw [List.mem_singleton] at hx
     rw [hx]; exact l7Few_shortC _
   ·simp only [t7p, t7p_3, t7p_3z, Tr.val, decide_eq_true h1, decide_eq_true h2, cond_true, if_true, h3, etaE_eq, Prod.eta, l7FewC_true]
    rw [wrap_add i (by unfold maxStr; omega), if_pos (by simp; omega)]) (by
   intro b n hb hn
   obtain ⟨n, rfl⟩ : ∃ k, n = k + 1 := ⟨n - 1, by omega⟩
   rw [iterT_val]
   have hf : (bif decide (((min 13 db.length : Nat) : Int) < (db.length : Int)) then decide (((min 13 db.length : Nat) : Int) < 13) else false) = false := by
    by_cases h : 13 ≤ db.length
    ·rw [Nat.min_eq_left h]
     simp
    ·rw [Nat.min_eq_right (by omega)]
     simp
   simp only [t7p, t7p_3, t7p_3z, Tr.val, hf]
   exact ⟨_, rfl, b, rfl, by omega, hb.2⟩) (min 13 db.length) 0 [] 100000000 rfl (Nat.zero_le _) ⟨rfl, by simp⟩ (by omega)
 obtain ⟨r, h1, db', h2, h3, h4⟩ := h
 refine ⟨db', ?_, h3, h4⟩
 unfold l8FewO outT runT
 simp only [i7p, Tr.val]
 have h1' : iterT t7p 100000000 (.h3 db 0 []) = some r := h1
 rw [h1']
 exact h2
open Go Go.Proofs
set_option maxHeartbeats 4000000

noncomputable abbrev cl93c (l : List (Sem shInt)) : Tr Leaf := run env63 0 kpC (Func.results Tryz.f93).toList 300 (bodyOf Tryz.f93) (initSt (Func.ntmps Tryz.f93) [.sl shInt l] [])
theorem ok93c : fnChk env63.P 93 Tryz.f93 1 := by refine ⟨?_, ?_, ?_, ?_⟩ <;> kernel_rfl
theorem go93c (l : List (Sem shInt)) : cl93c l = .ok (.fork l.isEmpty (forkOf (cl93c l)).1 (forkOf (cl93c l)).2.1 (forkOf (cl93c l)).2.2) := by kernel_rfl
theorem on93ca (l : List (Sem shInt)) : run env63 0 kpC (Func.results Tryz.f93).toList 300 (forkOf (cl93c l)).1 (forkOf (cl93c l)).2.2 = .ok (.ret .nils []) := by kernel_rfl
theorem on93cb (l : List (Sem shInt)) : run env63 0 kpC (Func.results Tryz.f93).toList 300 (forkOf (cl93c l)).2.1 (forkOf (cl93c l)).2.2 = .chk (decide (l.length ≤ 1073741824)) (.ok (.ret (.vec 0) [.vec shInt l])) := by kernel_rfl
def G93c : GSem [some (.sl shInt)] := fun x h => match h with
 | [] => .chk (decide (List.length x.1 ≤ 1073741824)) (.ok (.vec 0, [.vec shInt x.1]))
 | _ => .err
def F93c : FSem := liftF [some (.sl shInt)] G93c
theorem FOk93c : FOk env63.P env63.gl 93 F93c := by
 refine FOk_of ok93c fun x h0 res hx C hC => ?_
 unfold G93c at hx
 split at hx
 ·simp only [Tr.val] at hx
  split at hx
  ·rename_i hl
   simp only [Option.some.injEq] at hx
   subst hx
   obtain ⟨l, u⟩ := x
   refine reach_ok (n0 := 0) env63_all env63_mix ok93c hC (go93c l) ?_
   refine ⟨fun he => ?_, ?_⟩
   ·have hn : l = [] := List.isEmpty_iff.1 he
    refine Reach.weaken (Q := fun r h => (r, h) = (.vec 0, [.vec shInt []])) (Reach.promNil shInt (fun id => hC id (by simp)) (reach_ok (n0 := 0) env63_all env63_mix ok93c hC (on93ca l) rfl)) ?_
    intro r h hq
    cases hq
    refine ⟨_, ?_, fun _ _ _ _ h => h⟩
    show (AV.vec 0, [AO.vec shInt []]) = (AV.vec 0, [AO.vec shInt l])
    rw [hn]
   ·exact reach_ok (n0 := 0) env63_all env63_mix ok93c hC (on93cb l) (OptOk_chk hl rfl)
  ·cases hx
 ·simp at hx

noncomputable abbrev cl94c (l : List (Sem shFor)) : Tr Leaf := run env63 0 kpC (Func.results Tryz.f94).toList 300 (bodyOf Tryz.f94) (initSt (Func.ntmps Tryz.f94) [.sl shFor l] [])
theorem ok94c : fnChk env63.P 94 Tryz.f94 1 := by refine ⟨?_, ?_, ?_, ?_⟩ <;> kernel_rfl
theorem go94c (l : List (Sem shFor)) : cl94c l = .ok (.fork l.isEmpty (forkOf (cl94c l)).1 (forkOf (cl94c l)).2.1 (forkOf (cl94c l)).2.2) := by kernel_rfl
theorem on94ca (l : List (Sem shFor)) : run env63 0 kpC (Func.results Tryz.f94).toList 300 (forkOf (cl94c l)).1 (forkOf (cl94c l)).2.2 = .ok (.ret .nils []) := by kernel_rfl
theorem on94cb (l : List (Sem shFor)) : run env63 0 kpC (Func.results Tryz.f94).toList 300 (forkOf (cl94c l)).2.1 (forkOf (cl94c l)).2.2 = .chk (decide (l.length ≤ 1073741824)) (.ok (.ret (.vec 0) [.vec shFor l])) := by kernel_rfl
def G94c : GSem [some (.sl shFor)] := fun x h => match h with
 | [] => .chk (decide (List.length x.1 ≤ 1073741824)) (.ok (.vec 0, [.vec shFor x.1]))
 | _ => .err
def F94c : FSem := liftF [some (.sl shFor)] G94c
theorem FOk94c : FOk env63.P env63.gl 94 F94c := by
 refine FOk_of ok94c fun x h0 res hx C hC => ?_
 unfold G94c at hx
 split at hx
 ·simp only [Tr.val] at hx
  split at hx
  ·rename_i hl
   simp only [Option.some.injEq] at hx
   subst hx
   obtain ⟨l, u⟩ := x
   refine reach_ok (n0 := 0) env63_all env63_mix ok94c hC (go94c l) ?_
   refine ⟨fun he => ?_, ?_⟩
   ·have hn : l = [] := List.isEmpty_iff.1 he
    refine Reach.weaken (Q := fun r h => (r, h) = (.vec 0, [.vec shFor []])) (Reach.promNil shFor (fun id => hC id (by simp)) (reach_ok (n0 := 0) env63_all env63_mix ok94c hC (on94ca l) rfl)) ?_
    intro r h hq
    cases hq
    refine ⟨_, ?_, fun _ _ _ _ h => h⟩
    show (AV.vec 0, [AO.vec shFor []]) = (AV.vec 0, [AO.vec shFor l])
    rw [hn]
   ·exact reach_ok (n0 := 0) env63_all env63_mix ok94c hC (on94cb l) (OptOk_chk hl rfl)
  ·cases hx
 ·simp at hx

noncomputable abbrev cl96c (l : List (Sem (.sl shVal))) : Tr Leaf := run env63 0 kpC (Func.results Tryz.f96).toList 300 (bodyOf Tryz.f96) (initSt (Func.ntmps Tryz.f96) [.sl (.sl shVal) l] [])
theorem ok96c : fnChk env63.P 96 Tryz.f96 1 := by refine ⟨?_, ?_, ?_, ?_⟩ <;> kernel_rfl
theorem go96c (l : List (Sem (.sl shVal))) : cl96c l = .ok (.fork l.isEmpty (forkOf (cl96c l)).1 (forkOf (cl96c l)).2.1 (forkOf (cl96c l)).2.2) := by kernel_rfl
theorem on96ca (l : List (Sem (.sl shVal))) : run env63 0 kpC (Func.results Tryz.f96).toList 300 (forkOf (cl96c l)).1 (forkOf (cl96c l)).2.2 = .ok (.ret .nils []) := by kernel_rfl
theorem on96cb (l : List (Sem (.sl shVal))) : run env63 0 kpC (Func.results Tryz.f96).toList 300 (forkOf (cl96c l)).2.1 (forkOf (cl96c l)).2.2 = .chk (decide (l.length ≤ 1073741824)) (.ok (.ret (.vec 0) [.vec (.sl shVal) l])) := by kernel_rfl
def G96c : GSem [some (.sl (.sl shVal))] := fun x h => match h with
 | [] => .chk (decide (List.length x.1 ≤ 1073741824)) (.ok (.vec 0, [.vec (.sl shVal) x.1]))
 | _ => .err
def F96c : FSem := liftF [some (.sl (.sl shVal))] G96c
theorem FOk96c : FOk env63.P env63.gl 96 F96c := by
 refine FOk_of ok96c fun x h0 res hx C hC => ?_
 unfold G96c at hx
 split at hx
 ·simp only [Tr.val] at hx
  split at hx
  ·rename_i hl
   simp only [Option.some.injEq] at hx
   subst hx
   obtain ⟨l, u⟩ := x
   refine reach_ok (n0 := 0) env63_all env63_mix ok96c hC (go96c l) ?_
   refine ⟨fun he => ?_, ?_⟩
   ·have hn : l = [] := List.isEmpty_iff.1 he
    refine Reach.weaken (Q := fun r h => (r, h) = (.vec 0, [.vec (.sl shVal) []])) (Reach.promNil (.sl shVal) (fun id => hC id (by simp)) (reach_ok (n0 := 0) env63_all env63_mix ok96c hC (on96ca l) rfl)) ?_
    intro r h hq
    cases hq
    refine ⟨_, ?_, fun _ _ _ _ h => h⟩
    show (AV.vec 0, [AO.vec (Sh.sl shVal) []]) = (AV.vec 0, [AO.vec (Sh.sl shVal) l])
    rw [hn]
   ·exact reach_ok (n0 := 0) env63_all env63_mix ok96c hC (on96cb l) (OptOk_chk hl rfl)
  ·cases hx
 ·simp at hx

noncomputable abbrev cl97c (l : List (Sem shVal)) : Tr Leaf := run env63 0 kpC (Func.results Tryz.f97).toList 300 (bodyOf Tryz.f97) (initSt (Func.ntmps Tryz.f97) [.sl shVal l] [])
theorem ok97c : fnChk env63.P 97 Tryz.f97 1 := by refine ⟨?_, ?_, ?_, ?_⟩ <;> kernel_rfl
theorem go97c (l : List (Sem shVal)) : cl97c l = .ok (.fork l.isEmpty (forkOf (cl97c l)).1 (forkOf (cl97c l)).2.1 (forkOf (cl97c l)).2.2) := by kernel_rfl
theorem on97ca (l : List (Sem shVal)) : run env63 0 kpC (Func.results Tryz.f97).toList 300 (forkOf (cl97c l)).1 (forkOf (cl97c l)).2.2 = .ok (.ret .nils []) := by kernel_rfl
theorem on97cb (l : List (Sem shVal)) : run env63 0 kpC (Func.results Tryz.f97).toList 300 (forkOf (cl97c l)).2.1 (forkOf (cl97c l)).2.2 = .chk (decide (l.length ≤ 1073741824)) (.ok (.ret (.vec 0) [.vec shVal l])) := by kernel_rfl
def G97c : GSem [some (.sl shVal)] := fun x h => match h with
 | [] => .chk (decide (List.length x.1 ≤ 1073741824)) (.ok (.vec 0, [.vec shVal x.1]))
 | _ => .err
def F97c : FSem := liftF [some (.sl shVal)] G97c
theorem FOk97c : FOk env63.P env63.gl 97 F97c := by
 refine FOk_of ok97c fun x h0 res hx C hC => ?_
 unfold G97c at hx
 split at hx
 ·simp only [Tr.val] at hx
  split at hx
  ·rename_i hl
   simp only [Option.some.injEq] at hx
   subst hx
   obtain ⟨l, u⟩ := x
   refine reach_ok (n0 := 0) env63_all env63_mix ok97c hC (go97c l) ?_
   refine ⟨fun he => ?_, ?_⟩
   ·have hn : l = [] := List.isEmpty_iff.1 he
    refine Reach.weaken (Q := fun r h => (r, h) = (.vec 0, [.vec shVal []])) (Reach.promNil shVal (fun id => hC id (by simp)) (reach_ok (n0 := 0) env63_all env63_mix ok97c hC (on97ca l) rfl)) ?_
    intro r h hq
    cases hq
    refine ⟨_, ?_, fun _ _ _ _ h => h⟩
    show (AV.vec 0, [AO.vec shVal []]) = (AV.vec 0, [AO.vec shVal l])
    rw [hn]
   ·exact reach_ok (n0 := 0) env63_all env63_mix ok97c hC (on97cb l) (OptOk_chk hl rfl)
  ·cases hx
 ·simp at hx

noncomputable def envD : Env := ((((env63.add 93 F93c).add 94 F94c).add 96 F96c).add 97 F97c)
theorem envD_all : EnvAll envD := (EnvAll.addS (EnvAll.addS (EnvAll.addS (EnvAll.addS env63_all (SameE.refl env63) FOk93c) ((SameE.refl env63).add _ _) FOk94c) (((SameE.refl env63).add _ _).add _ _) FOk96c) ((((SameE.refl env63).add _ _).add _ _).add _ _) FOk97c)
theorem envD_mix : envD.P.follows .mixedOrders = true := (mix_add (mix_add (mix_add (mix_add env63_mix _ _) _ _) _ _) _ _)
def F95rc (c : ExprT → Bool) : FSem := plainC [.expr] [.expr] (fun x => c x.1) fun x => (x.1, ())
noncomputable def en95r (c : ExprT → Bool) : Env := envD.add 95 (F95rc c)
theorem en95r_all {c : ExprT → Bool} (hg : FOk envD.P envD.gl 95 (F95rc c)) : EnvAll (en95r c) := envD_all.add hg
theorem en95r_mix {c : ExprT → Bool} : (en95r c).P.follows .mixedOrders = true := mix_add envD_mix _ _
abbrev kp95r : Nat → Keep := fun j => if j = 3 then { slots := [1, 2, 10, 11] } else { }
abbrev s95r_3 (i10 : Int) (i11 : Int) (ja0 : Str) (ja1 : Int) (ja2 : Int) (ja3 : Str) (ja4 : Str) (lh_2 : List (Sem Sh.expr)) : St := {
 tmps :=
  [AV.any, AV.ptr 0 0, AV.ptr 1 0, AV.any, AV.any, AV.any, AV.any, AV.any, AV.any, AV.any, AV.int .i64 i10, AV.int .i64 i11, AV.any, AV.any,
   AV.any, AV.any, AV.any, AV.any, AV.any, AV.any, AV.any, AV.any, AV.any, AV.any, AV.any, AV.any],
 heap :=
  [AO.box [AV.str ja0, AV.int .i64 ja1, AV.int .i64 ja2, AV.str ja3, AV.str ja4, AV.vec 2],
   AO.box [AV.str [], AV.int .i64 0, AV.int .i64 0, AV.str [], AV.str [], AV.nils], AO.vec Sh.expr lh_2] }
theorem ok95r (c : ExprT → Bool) : fnChk (en95r c).P 95 Tryz.f95 1 := by refine ⟨?_, ?_, ?_, ?_⟩ <;> kernel_rfl
theorem go95r (c : ExprT → Bool) (op : Str) (v : V) (s : Str) (l : List ExprT) : run (en95r c) 0 kp95r (Func.results Tryz.f95).toList 400 (bodyOf Tryz.f95) (initSt (Func.ntmps Tryz.f95) [datum Sh.expr (ExprT.mk op v s l)] []) =
 Tr.chk (decide (l.length ≤ 1073741824)) (Tr.ok (Leaf.head 3 (headK Tryz.f95 3) (s95r_3 (↑l.length : Int) 0 op v.1 v.2.1 v.2.2 s l))) := by kernel_rfl
theorem on95r_3 (c : ExprT → Bool) (i10 : Int) (i11 : Int) (ja0 : Str) (ja1 : Int) (ja2 : Int) (ja3 : Str) (ja4 : Str) (lh_2 : List (Sem Sh.expr)) : run (en95r c) 0 kp95r (Func.results Tryz.f95).toList 400 (headK Tryz.f95 3) (s95r_3 i10 i11 ja0 ja1 ja2 ja3 ja4 lh_2) =
 Tr.br (decide (i11 < i10))
 (Tr.chk (inB i11 lh_2.length)
  (Tr.chk (decide (i11.toNat < lh_2.length))
   (Tr.chk (c (etaE (lh_2.getD i11.toNat (dflt Sh.expr))))
    (Tr.chk (inB i11 lh_2.length)
     (Tr.chk (decide (i11.toNat < lh_2.length))
      (Tr.ok
       (Leaf.head 3 (headK Tryz.f95 3)
        (s95r_3 i10 (IntKind.i64.wrap (i11 + 1)) ja0 ja1 ja2 ja3 ja4
         (lh_2.set i11.toNat
          (etaE (lh_2.getD i11.toNat (dflt Sh.expr))))))))))))
 (Tr.ok
  (Leaf.ret (AV.agg [AV.str ja0, AV.int .i64 ja1, AV.int .i64 ja2, AV.str ja3, AV.str ja4, AV.vec 0]) [AO.vec Sh.expr lh_2])) := by kernel_rfl

theorem at95r {c : ExprT → Bool} (hg : FOk envD.P envD.gl 95 (F95rc c)) {C : Ctx} (hC : ∀ id, C.ρ0 id = none) (op : Str) (v : V) (s : Str) (l : List ExprT) (hl : l.length ≤ 1073741824) (hcl : l.all c = true) :
  ∀ (k i : Nat), l.length - i = k → i ≤ l.length → Reach (en95r c) C 95 (headK Tryz.f95 3) (s95r_3 l.length i op v.1 v.2.1 v.2.2 s l) (fun r h => resOf h [.expr] r = some (ExprT.mk op v s l, ())) := by
 intro k
 induction k with
 | zero =>
  intro i hk hi
  obtain rfl : i = l.length := by omega
  refine reach_ok (n0 := 0) (en95r_all hg) en95r_mix (ok95r c) (fun id _ => hC id) (on95r_3 c _ _ _ _ _ _ _ _) ?_
  simp only [lt_dec', Tr.val_brF]
  rfl
 | succ k IH =>
  intro i hk hi
  have hlt : i < l.length := by omega
  refine reach_ok (n0 := 0) (en95r_all hg) en95r_mix (ok95r c) (fun id _ => hC id) (on95r_3 c _ _ _ _ _ _ _ _) ?_
  have h1 : c l[i] = true := List.all_eq_true.1 hcl _ (List.getElem_mem hlt)
  have h2 : decide ((i : Int).toNat < l.length) = true := by simpa using hlt
  have h3 : l.set (i : Int).toNat l[i] = l := by simp
  simp only [lt_dec hlt, inB_of hlt, getD_at l _ hlt, ExprT.eta, Tr.val_brT, Tr.val_chkT, h1, h2, h3, wrap_add i (by unfold maxStr; omega)]
  exact IH (i + 1) (by omega) (by omega)

theorem k95r : fnChk envD.P 95 Tryz.f95 1 := by refine ⟨?_, ?_, ?_, ?_⟩ <;> kernel_rfl
theorem sd95 (c : ExprT → Bool) : SameE (en95r c) envD := (SameE.refl envD).add _ _
theorem FOk95rN : ∀ n, FOk envD.P envD.gl 95 (F95rc (cpC n))
 | 0 => FOk_none ⟨Tryz.f95, k95r.1, k95r.2.1, k95r.2.2.1⟩ (fun _ => rfl)
 | n + 1 => by
  have h : FOk (en95r (cpC n)).P (en95r (cpC n)).gl 95 (F95rc (cpC (n + 1))) := by
   refine FOk_plainC (E := en95r (cpC n)) (ok95r _) fun x hc C hC => ?_
   obtain ⟨⟨op, v, s, l⟩, u⟩ := x
   have hc : (decide (l.length ≤ 1073741824) && l.all (cpC n)) = true := hc
   simp only [Bool.and_eq_true, decide_eq_true_eq] at hc
   refine reach_ok (n0 := 0) (en95r_all (FOk95rN n)) en95r_mix (ok95r _) (fun id _ => hC id) (go95r _ op v s l) ?_
   refine OptOk_chk (by simpa using hc.1) ?_
   exact at95r (FOk95rN n) hC op v s l hc.1 hc.2 _ 0 rfl (Nat.zero_le _)
  rwa [(sd95 _).p, (sd95 _).g] at h
def F95r : FSem := F95rc (cpC 16)
theorem FOk95r : FOk envD.P envD.gl 95 F95r := FOk95rN 16
noncomputable def env90 : Env := envD.add 95 F95r
theorem env90_all : EnvAll env90 := (EnvAll.addS envD_all (SameE.refl envD) FOk95r)
theorem env90_mix : env90.P.follows .mixedOrders = true := (mix_add envD_mix _ _)
open Go Go.Proofs
noncomputable section
set_option maxHeartbeats 4000000

abbrev kp52p : Nat → Keep := fun j => if j = 7 then { slots := [1, 2, 34, 35] } else { }
inductive H52p where
 | h7 (i34 : Int) (i35 : Int) (ja0 : Sem Sh.str) (ja2 : Sem shInt) (ja5 : Str) (ja6 : Int) (ja7 : Int) (ja8 : Str) (ja9 : Str) (ja10 : List (Sem Sh.expr)) (jb0 : List UInt8) (jb2 : Int) (jb5 : List UInt8) (jb6 : Int) (jb7 : Int) (jb8 : List UInt8) (jb9 : List UInt8) (lh_2 : List (Sem shCol)) (lh_3 : List (Sem shInt)) (lh_4 : List (Sem shFor)) (lh_5 : List (Sem shVal.sl))
abbrev e52p : H52p → Nat × St
 | .h7 i34 i35 ja0 ja2 ja5 ja6 ja7 ja8 ja9 ja10 jb0 jb2 jb5 jb6 jb7 jb8 jb9 lh_2 lh_3 lh_4 lh_5 => (7, ⟨tm 50 [(1, AV.ptr 0 0), (2, AV.ptr 1 0), (34, AV.int .i64 i34), (35, AV.int .i64 i35)], [AO.box [AV.str ja0, AV.vec 2, AV.int .i64 ja2, AV.vec 3, AV.vec 4, AV.str ja5, AV.int .i64 ja6, AV.int .i64 ja7, AV.str ja8, AV.str ja9, AV.sl Sh.expr ja10, AV.vec 5], AO.box [AV.str jb0, AV.nils, AV.int .i64 jb2, AV.nils, AV.nils, AV.str jb5, AV.int .i64 jb6, AV.int .i64 jb7, AV.str jb8, AV.str jb9, AV.nils, AV.nils], AO.vec shCol lh_2, AO.vec shInt lh_3, AO.vec shFor lh_4, AO.vec shVal.sl lh_5]⟩)
theorem ok52p : fnChk env90.P 52 Tryz.f52 1 := by refine ⟨?_, ?_, ?_, ?_⟩ <;> kernel_rfl
def i52p (x0 : Sem shRel) : Tr (H52p ⊕ Raw) :=
 Tr.chk (decide (List.length x0.1.2.1 ≤ 1073741824))
 (Tr.chk (decide (List.length x0.1.2.2.2.1 ≤ 1073741824))
  (Tr.chk (decide (List.length x0.1.2.2.2.2.1 ≤ 1073741824)) (Tr.chk (cpC 16 (etaE x0.1.2.2.2.2.2)) (Tr.chk (decide (List.length x0.2 ≤ 1073741824)) (Tr.to (H52p.h7 (↑(List.length x0.2) : Int) 0 x0.1.1 x0.1.2.2.1 (ExprT.op x0.1.2.2.2.2.2) (ExprT.v x0.1.2.2.2.2.2).1 (ExprT.v x0.1.2.2.2.2.2).2.1 (ExprT.v x0.1.2.2.2.2.2).2.2
  (ExprT.s x0.1.2.2.2.2.2) (ExprT.l x0.1.2.2.2.2.2) [] 0 [] 0 0 [] [] x0.1.2.1 x0.1.2.2.2.1 x0.1.2.2.2.2.1 x0.2))))))
def t52p_7z (i34 : Int) (i35 : Int) (ja0 : Sem Sh.str) (ja2 : Sem shInt) (ja5 : Str) (ja6 : Int) (ja7 : Int) (ja8 : Str) (ja9 : Str) (ja10 : List (Sem Sh.expr)) (jb0 : List UInt8) (jb2 : Int) (jb5 : List UInt8) (jb6 : Int) (jb7 : Int) (jb8 : List UInt8) (jb9 : List UInt8) (lh_2 : List (Sem shCol)) (lh_3 : List (Sem shInt)) (lh_4 : List (Sem shFor)) (lh_5 : List (Sem shVal.sl)) (a0 : Bool) (a1 : Sem shVal.sl) : Tr (H52p ⊕ Raw) :=
 Tr.br (decide (i35 < i34))
 (Tr.chk (inB i35 lh_5.length)
  (Tr.chk a0 (Tr.chk (decide (List.length a1 ≤ 1073741824)) (Tr.chk (inB i35 lh_5.length) (Tr.chk a0 (Tr.to (H52p.h7 i34 (IntKind.i64.wrap (i35 + 1)) ja0 ja2 ja5 ja6 ja7 ja8 ja9 ja10 jb0 jb2 jb5 jb6 jb7 jb8 jb9 lh_2 lh_3 lh_4 (lh_5.set i35.toNat a1))))))))
 (Tr.re
  (AV.agg [AV.str ja0, AV.vec 0, AV.int .i64 ja2, AV.vec 1, AV.vec 2, AV.str ja5, AV.int .i64 ja6, AV.int .i64 ja7, AV.str ja8, AV.str ja9, AV.sl Sh.expr ja10, AV.vec 3])
  [AO.vec shCol lh_2, AO.vec shInt lh_3, AO.vec shFor lh_4, AO.vec shVal.sl lh_5])
def t52p_7 (i34 : Int) (i35 : Int) (ja0 : Sem Sh.str) (ja2 : Sem shInt) (ja5 : Str) (ja6 : Int) (ja7 : Int) (ja8 : Str) (ja9 : Str) (ja10 : List (Sem Sh.expr)) (jb0 : List UInt8) (jb2 : Int) (jb5 : List UInt8) (jb6 : Int) (jb7 : Int) (jb8 : List UInt8) (jb9 : List UInt8) (lh_2 : List (Sem shCol)) (lh_3 : List (Sem shInt)) (lh_4 : List (Sem shFor)) (lh_5 : List (Sem shVal.sl)) : Tr (H52p ⊕ Raw) :=
 let a0 := decide (i35.toNat < lh_5.length)
 let a1 := lh_5.getD i35.toNat (dflt shVal.sl)
 t52p_7z i34 i35 ja0 ja2 ja5 ja6 ja7 ja8 ja9 ja10 jb0 jb2 jb5 jb6 jb7 jb8 jb9 lh_2 lh_3 lh_4 lh_5 a0 a1
theorem go52p (x0 : Sem shRel) : run env90 0 kp52p (Func.results Tryz.f52).toList 400 (bodyOf Tryz.f52) (initSt (Func.ntmps Tryz.f52) [datum shRel x0] []) = (i52p x0).map (lf Tryz.f52 e52p) := by kernel_rfl
def t52p : H52p → Tr (H52p ⊕ Raw)
 | .h7 i34 i35 ja0 ja2 ja5 ja6 ja7 ja8 ja9 ja10 jb0 jb2 jb5 jb6 jb7 jb8 jb9 lh_2 lh_3 lh_4 lh_5 => t52p_7 i34 i35 ja0 ja2 ja5 ja6 ja7 ja8 ja9 ja10 jb0 jb2 jb5 jb6 jb7 jb8 jb9 lh_2 lh_3 lh_4 lh_5
theorem on52p : ∀ s, run env90 0 kp52p (Func.results Tryz.f52).toList 400 (headK Tryz.f52 (e52p s).1) (e52p s).2 = (t52p s).map (lf Tryz.f52 e52p)
 | .h7 i34 i35 ja0 ja2 ja5 ja6 ja7 ja8 ja9 ja10 jb0 jb2 jb5 jb6 jb7 jb8 jb9 lh_2 lh_3 lh_4 lh_5 => by kernel_rfl
def rCopyO (x0 : Sem shRel) : Option (HArgs (List.map some [shRel])) := outT [shRel] t52p 100000000 (i52p x0)
def rCopyC (x0 : Sem shRel) : Bool := (rCopyO x0).isSome
def rCopy (x0 : Sem shRel) : Sem shRel := (fun r : HArgs (List.map some [shRel]) => r.1) ((rCopyO x0).getD (dfltH [shRel]))
def F52p : FSem := plainC [shRel] [shRel] (fun x => rCopyC x.1) fun x => (rCopy x.1, ())
def env91 : Env := (env90.add 52 F52p)
end
open Go Go.Proofs
set_option maxHeartbeats 4000000

def rawG (ks : List Sh) (c : HArgs (ks.map some) → Bool) (g : HArgs (ks.map some) → Raw) : GSem (ks.map some) := fun x h => match h with
 | [] => .chk (c x) (.ok (g x))
 | _ => .err

theorem FOk_R1 {σ : Type} {E : Env} {k : FuncId} {f : Func} {ks : List Sh} {keep : Nat → Keep} {gas n : Nat} {e : σ → Nat × St} {t : σ → Tr (σ ⊕ Raw)} {i : HArgs (ks.map some) → Tr (σ ⊕ Raw)} {c : HArgs (ks.map some) → Bool} {g : HArgs (ks.map some) → Raw}
  (hE : EnvAll E) (hm : E.P.follows .mixedOrders = true) (hf : fnChk E.P k f ks.length) (hgo : ∀ x, run E 0 keep f.results.toList gas (bodyOf f) (initSt f.ntmps (avs (ks.map some) x) []) = (i x).map (lf f e))
  (hon : ∀ s, run E 0 keep f.results.toList gas (headK f (e s).1) (e s).2 = (t s).map (lf f e))
  (hg : ∀ x, c x = true → runT t n (i x) = some (g x)) : FOk E.P E.gl k (liftF (ks.map some) (rawG ks c g)) := by
 refine FOk_of (by simpa using hf) fun x h0 res hx C hC => ?_
 unfold rawG at hx
 split at hx
 ·simp only [Tr.val] at hx
  split at hx
  ·rename_i hc
   simp only [Option.some.injEq] at hx
   subst hx
   exact iterR_ok (n0 := 0) hE hm (by simpa using hf) (fun id _ => hC id (Nat.zero_le _)) (n + 1) _ _ _ (by rw [iterR_runT hon (hgo x)]; exact hg x hc) rfl
  ·cases hx
 ·simp at hx

def cpyRaw (x : Sem shRel) : Raw := (AV.agg [AV.str x.1.1, AV.vec 0, AV.int .i64 x.1.2.2.1, AV.vec 1, AV.vec 2, AV.str (ExprT.op x.1.2.2.2.2.2), AV.int .i64 (ExprT.v x.1.2.2.2.2.2).1, AV.int .i64 (ExprT.v x.1.2.2.2.2.2).2.1, AV.str (ExprT.v x.1.2.2.2.2.2).2.2, AV.str (ExprT.s x.1.2.2.2.2.2), AV.sl Sh.expr (ExprT.l x.1.2.2.2.2.2), AV.vec 3],
 [AO.vec shCol x.1.2.1, AO.vec shInt x.1.2.2.2.1, AO.vec shFor x.1.2.2.2.2.1, AO.vec shVal.sl x.2])

def cpyC (x : Sem shRel) : Bool := decide (List.length x.1.2.1 ≤ 1000000) && decide (List.length x.1.2.2.2.1 ≤ 1000000) && decide (List.length x.1.2.2.2.2.1 ≤ 1000000) && cpC 16 x.1.2.2.2.2.2 && decide (List.length x.2 ≤ 1000000) && List.all x.2 (fun r => decide (List.length r ≤ 1000000))

theorem set_self {α : Type} (l : List α) (d : α) (i : Nat) (h : i < l.length) : l.set i (l.getD i d) = l := by
 rw [List.getD_eq_getElem?_getD, List.getElem?_eq_getElem h, Option.getD_some]
 exact List.set_getElem_self h

theorem cpy_run (x : Sem shRel) (hc : cpyC x = true) : runT t52p 100000000 (i52p x) = some (cpyRaw x) := by
 unfold cpyC at hc
 simp only [Bool.and_eq_true, decide_eq_true_eq, List.all_eq_true] at hc
 obtain ⟨⟨⟨⟨⟨h1, h2⟩, h3⟩, h4⟩, h5⟩, h6⟩ := hc
 have hl := iter_inv (t := t52p) (β := Unit) (List.length x.2) (fun _ i => .h7 (List.length x.2 : Int) (i : Int) x.1.1 x.1.2.2.1 (ExprT.op x.1.2.2.2.2.2) (ExprT.v x.1.2.2.2.2.2).1 (ExprT.v x.1.2.2.2.2.2).2.1 (ExprT.v x.1.2.2.2.2.2).2.2
   (ExprT.s x.1.2.2.2.2.2) (ExprT.l x.1.2.2.2.2.2) [] 0 [] 0 0 [] [] x.1.2.1 x.1.2.2.2.1 x.1.2.2.2.2.1 x.2) (fun _ _ => True) (fun r => r = cpyRaw x) 1 (by
   intro b i hi _
   have hrow : List.length (List.getD x.2 i (dflt shVal.sl)) ≤ 1000000 := h6 _ (by rw [List.getD_eq_getElem?_getD, List.getElem?_eq_getElem hi, Option.getD_some]; exact List.getElem_mem hi)
   simp only [t52p, t52p_7, t52p_7z, Tr.val, lt_dec hi, inB_of hi, if_true, Int.toNat_natCast, decide_eq_true hi, set_self _ _ _ hi]
   rw [wrap_add i (by unfold maxStr; omega), if_pos (decide_eq_true (by omega))]
   exact Or.inl ⟨(), trivial, rfl⟩) (by
   intro b n _ hn
   obtain ⟨n, rfl⟩ : ∃ k, n = k + 1 := ⟨n - 1, by omega⟩
   rw [iterT_val]
   simp only [t52p, t52p_7, t52p_7z, Tr.val, lt_dec']
   exact ⟨_, rfl, rfl⟩) (List.length x.2) 0 () 100000000 rfl (Nat.zero_le _) trivial (by omega)
 obtain ⟨r, hr, rfl⟩ := hl
 unfold runT
 have e1 : decide (List.length x.1.2.1 ≤ 1073741824) = true := decide_eq_true (by omega)
 have e2 : decide (List.length x.1.2.2.2.1 ≤ 1073741824) = true := decide_eq_true (by omega)
 have e3 : decide (List.length x.1.2.2.2.2.1 ≤ 1073741824) = true := decide_eq_true (by omega)
 have e5 : decide (List.length x.2 ≤ 1073741824) = true := decide_eq_true (by omega)
 simp only [i52p, Tr.val, e1, e2, e3, e5, etaE_eq, h4, if_true]
 exact hr

noncomputable def F52r : FSem := liftF ([shRel].map some) (rawG [shRel] (fun x => cpyC x.1) (fun x => cpyRaw x.1))
theorem FOk52r : FOk env90.P env90.gl 52 F52r := FOk_R1 (ks := [shRel]) (keep := kp52p) (gas := 400) (n := 100000000) (e := e52p) (t := t52p) (i := fun x => i52p x.1) env90_all env90_mix ok52p (fun x => go52p x.1) on52p (fun x hc => cpy_run x.1 hc)
noncomputable def env92 : Env := (env90.add 52 F52r)
theorem env92_all : EnvAll env92 := (EnvAll.addS env90_all (SameE.refl env90) FOk52r)
theorem env92_mix : env92.P.follows .mixedOrders = true := (mix_add env90_mix _ _)
open Go Go.Proofs
set_option maxHeartbeats 4000000

noncomputable def F49p : FSem := liftF (List.replicate 2 none) (autoG env92 Tryz.f49 (List.replicate 2 none))
theorem FOk49p : FOk env92.P env92.gl 49 F49p := FOk_auto _ env92_all env92_mix (by refine ⟨?_, ?_, ?_, ?_⟩ <;> kernel_rfl)

noncomputable def env93 : Env := (env92.add 49 F49p)
theorem env93_all : EnvAll env93 := (EnvAll.addS env92_all (SameE.refl env92) FOk49p)
theorem env93_mix : env93.P.follows .mixedOrders = true := (mix_add env92_mix _ _)
open Go Go.Proofs
set_option maxHeartbeats 4000000

abbrev kp98v : Nat → Keep := fun j => if j = 2 then { slots := [0, 1, 7, 8] } else { }
abbrev s98v_2 (i7 : Int) (i8 : Int) (lh_0 : List (Sem shFor)) (jb0 : List (Sem Sh.str)) : St := {
 tmps :=
  [AV.vec 0, AV.clo (Fn.func 49) [] [AV.ptr 1 0], AV.any, AV.any, AV.any, AV.any, AV.any, AV.int .i64 i7, AV.int .i64 i8, AV.any, AV.any,
   AV.any, AV.any, AV.any, AV.any, AV.any, AV.any, AV.any, AV.any],
 heap := [AO.vec shFor lh_0, AO.box [AV.sl Sh.str jb0]] }
theorem ok98v : fnChk env93.P 98 Tryz.f98 2 := by refine ⟨?_, ?_, ?_, ?_⟩ <;> kernel_rfl
theorem go98v (l : List (Sem shFor)) (s : List Str) : run env93 2 kp98v (Func.results Tryz.f98).toList 400 (bodyOf Tryz.f98) (initSt (Func.ntmps Tryz.f98) [AV.vec 0, AV.clo (Fn.func 49) [] [AV.ptr 1 0]] [AO.vec shFor l, AO.box [AV.sl Sh.str s]]) =
 Tr.ok (Leaf.head 2 (headK Tryz.f98 2) (s98v_2 (↑l.length : Int) 0 l s)) := by kernel_rfl
theorem on98v_2 (i7 : Int) (i8 : Int) (lh_0 : List (Sem shFor)) (jb0 : List (Sem Sh.str)) : run env93 2 kp98v (Func.results Tryz.f98).toList 400 (headK Tryz.f98 2) (s98v_2 i7 i8 lh_0 jb0) =
 Tr.br (decide (i8 < i7))
 (Tr.chk (inB i8 lh_0.length)
  (Tr.chk (decide (i8.toNat < lh_0.length))
   (Tr.br (!hasStr jb0 (lh_0.getD i8.toNat (dflt shFor)).2)
    (Tr.ok (Leaf.ret (AV.int .i64 i8) [AO.vec shFor lh_0, AO.box [AV.sl Sh.str jb0]]))
    (Tr.ok (Leaf.head 2 (headK Tryz.f98 2) (s98v_2 i7 (IntKind.i64.wrap (i8 + 1)) lh_0 jb0))))))
 (Tr.ok (Leaf.ret (AV.int .i64 (-1)) [AO.vec shFor lh_0, AO.box [AV.sl Sh.str jb0]])) := by kernel_rfl

theorem at98v {C : Ctx} (hC : ∀ id, 2 ≤ id → C.ρ0 id = none) (l : List (Sem shFor)) (s : List Str) (hl : l.length ≤ 1000000) : ∀ (m i : Nat), l.length - i = m → i ≤ l.length →
  Reach env93 C 98 (headK Tryz.f98 2) (s98v_2 (l.length : Int) (i : Int) l s) (fun r h => (r, h) = (.int .i64 (ixFrom (fun x => !hasStr s x.2) (l.drop i) i), [AO.vec shFor l, AO.box [AV.sl Sh.str s]])) := by
 intro m
 induction m with
 | zero =>
  intro i hm' hi
  obtain rfl : i = l.length := by omega
  refine reach_ok env93_all env93_mix ok98v hC (on98v_2 _ _ _ _) ?_
  simp only [Tr.val, lt_dec', List.drop_length]
  rfl
 | succ m IH =>
  intro i hm' hi
  have hlt : i < l.length := by omega
  have h2 : decide ((i : Int).toNat < l.length) = true := by simpa using hlt
  refine reach_ok env93_all env93_mix ok98v hC (on98v_2 _ _ _ _) ?_
  rw [List.drop_eq_getElem_cons hlt]
  simp only [Tr.val, lt_dec hlt, inB_of hlt, h2, getD_at l _ hlt, wrap_add i (by unfold maxStr; omega), if_true, ixFrom]
  split
  ·rfl
  ·exact IH (i + 1) (by omega) (by omega)

def G98v : GSem [none, none] := fun x h => match x, h with
 | (.vec 0, .clo (.func 49) [] [.ptr 1 0], _), [.vec (.pr (.int .i64) .str) l, .box [.sl .str s]] => .chk (decide (List.length l ≤ 1000000)) (.ok (.int .i64 (ixFrom (fun x => !hasStr s x.2) l 0), [.vec shFor l, .box [.sl .str s]]))
 | _, _ => .err
def F98v : FSem := liftF [none, none] G98v
theorem FOk98v : FOk env93.P env93.gl 98 F98v := by
 refine FOk_of ok98v fun x h0 res hx C hC => ?_
 unfold G98v at hx
 split at hx
 ·rename_i u l s
  simp only [Tr.val] at hx
  split at hx
  ·rename_i hl
   simp only [Option.some.injEq] at hx
   subst hx
   simp only [decide_eq_true_eq] at hl
   refine reach_ok (n0 := 2) env93_all env93_mix ok98v hC (go98v l s) ?_
   exact at98v hC l s hl _ 0 rfl (Nat.zero_le _)
  ·cases hx
 ·simp at hx

noncomputable def env95 : Env := (env93.add 98 F98v)
theorem env95_all : EnvAll env95 := (EnvAll.addS env93_all (SameE.refl env93) FOk98v)
theorem env95_mix : env95.P.follows .mixedOrders = true := (mix_add env93_mix _ _)
end Cad
