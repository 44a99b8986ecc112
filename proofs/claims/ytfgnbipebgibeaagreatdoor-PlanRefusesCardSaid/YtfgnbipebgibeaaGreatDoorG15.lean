/- Few of anything: always an answer, and a short one. Plans: the whole: always an answer, and what one that is made has. The document's reader: letters, words. The document's reader: parts, passing. The document's reader: names. The document's reader: tokens. The document's reader: cut; names. -/
import Derived.Test.YtfgnbipebgibeaaGreatDoorG14
namespace Cad
open Go Go.Proofs
set_option maxHeartbeats 4000000

theorem tFew_7_short {a0 a1 a2 a3 a4 a5 a6 a7 a8 a9 b0 b1 b2 b3 b4 b5 b6 d0 d1 d2 d3 d4 d5 d6 d7 d8 d9} : ∀ (l : List (Sem shFor)) (i : Int) (acc : List (Sem shFor)), (acc.length : Int) ≤ i → acc.length ≤ 10 →
    (tFew_7 a0 a1 a2 a3 a4 a5 a6 a7 a8 a9 b0 b1 b2 b3 b4 b5 b6 d0 d1 d2 d3 d4 d5 d6 d7 d8 d9 l i acc).2.2.2.1 = d9 ∧ List.length (tFew_7 a0 a1 a2 a3 a4 a5 a6 a7 a8 a9 b0 b1 b2 b3 b4 b5 b6 d0 d1 d2 d3 d4 d5 d6 d7 d8 d9 l i acc).2.2.2.2.1 ≤ 10
  | [], _, _, _, ha => ⟨rfl, ha⟩
  | x :: r, i, acc, h, ha => by
    rw [tFew_7]
    split
    · rename_i hi
      simp only [decide_eq_true_eq] at hi
      exact tFew_7_short r (i + 1) _ (by simp; omega) (by simp; omega)
    · exact ⟨rfl, ha⟩
theorem tFew_3_short {a0 a1 a2 a3 a4 a5 a6 a7 a8 a9 b0 b1 b2 b3 b4 b5 b6 d0 d1 d2 d3 d4 d5 d6 d7 d8 d9} : ∀ (l : List (Sem shInt)) (i : Int) (acc : List (Sem shInt)), (acc.length : Int) ≤ i → acc.length ≤ 10 →
    List.length (tFew_3 a0 a1 a2 a3 a4 a5 a6 a7 a8 a9 b0 b1 b2 b3 b4 b5 b6 d0 d1 d2 d3 d4 d5 d6 d7 d8 d9 l i acc).2.2.2.1 ≤ 10 ∧ List.length (tFew_3 a0 a1 a2 a3 a4 a5 a6 a7 a8 a9 b0 b1 b2 b3 b4 b5 b6 d0 d1 d2 d3 d4 d5 d6 d7 d8 d9 l i acc).2.2.2.2.1 ≤ 10
  | [], i, acc, h, ha => by
    rw [tFew_3]
    obtain ⟨h1, h2⟩ := tFew_7_short (a0 := a0) (a1 := a1) (a2 := a2) (a3 := d9) (a4 := a4) (a5 := a5) (a6 := a6) (a7 := a7) (a8 := a8) (a9 := a9) (b0 := b0) (b1 := b1) (b2 := b2) (b3 := b3) (b4 := b4) (b5 := b5) (b6 := b6) (d0 := d0) (d1 := d1) (d2 := d2) (d3 := d3) (d4 := d4) (d5 := d5) (d6 := d6) (d7 := d7) (d8 := d8) (d9 := acc) a3 0 [] (by simp) (by simp)
    rw [h1]
    exact ⟨ha, h2⟩
  | x :: r, i, acc, h, ha => by
    rw [tFew_3]
    split
    · rename_i hi
      simp only [decide_eq_true_eq] at hi
      exact tFew_3_short r (i + 1) _ (by simp; omega) (by simp; omega)
    · obtain ⟨h1, h2⟩ := tFew_7_short (a0 := a0) (a1 := a1) (a2 := a2) (a3 := d9) (a4 := a4) (a5 := a5) (a6 := a6) (a7 := a7) (a8 := a8) (a9 := a9) (b0 := b0) (b1 := b1) (b2 := b2) (b3 := b3) (b4 := b4) (b5 := b5) (b6 := b6) (d0 := d0) (d1 := d1) (d2 := d2) (d3 := d3) (d4 := d4) (d5 := d5) (d6 := d6) (d7 := d7) (d8 := d8) (d9 := acc) a3 0 [] (by simp) (by simp)
      rw [h1]
      exact ⟨ha, h2⟩
theorem tFew_short (t : Sem shTable) : List.length (tFew t).2.2.2.1 ≤ 10 ∧ List.length (tFew t).2.2.2.2.1 ≤ 10 := by
  unfold tFew
  exact tFew_3_short _ _ _ (by simp) (by simp)

theorem few6 (n : Nat) (i4 : Int) (hi4 : i4 ≤ 201) (h0 : 0 ≤ i4) (z0 : CSem cpR) (z1 : CSem cpRz) (t : Sem shTable) (hn : 300 ≤ n) : ∃ rows : List (Sem (.sl shVal)), rows.length ≤ 201 ∧ ∃ r, iterT t21p n (.h6 i4 0 z0 z1 (t, [], ())) = some r ∧ resOf r.2 [shRel] r.1 = some (((t, rows) : Sem shRel), ()) := by
  obtain ⟨N, hN⟩ : ∃ N : Nat, i4 = (N : Int) := ⟨Int.toNat i4, by omega⟩
  have h := iter_inv (t := t21p) (β := List (Sem (.sl shVal))) (min N (List.length z0.1.2)) (fun b i => .h6 i4 (i : Int) z0 z1 (t, b, ())) (fun b i => b.length = i) (fun r => ∃ rows : List (Sem (.sl shVal)), rows.length ≤ 201 ∧ resOf r.2 [shRel] r.1 = some (((t, rows) : Sem shRel), ())) 1 (by
      intro b i hi hb
      have h1 : (i : Int) < (List.length z0.1.2 : Int) := by omega
      have h2 : (i : Int) < i4 := by omega
      have h3 : inB (i : Int) (List.length z0.1.2) = true := inB_of (by omega)
      refine Or.inl ⟨b ++ [lFew2 (List.getD z0.1.2 (i : Int).toNat (dflt shVal.sl))], by simp [hb], ?_⟩
      simp only [t21p, t21p_6, t21p_6z, Tr.val, decide_eq_true h1, decide_eq_true h2, cond_true, if_true, h3]
      rw [wrap_add i (by unfold maxStr; omega), if_pos (by simp; omega)]) (by
      intro b n hb hn
      obtain ⟨n, rfl⟩ : ∃ k, n = k + 1 := ⟨n - 1, by omega⟩
      rw [iterT_val]
      have hf : (bif decide (((min N (List.length z0.1.2) : Nat) : Int) < (List.length z0.1.2 : Int)) then decide (((min N (List.length z0.1.2) : Nat) : Int) < i4) else false) = false := by
        by_cases h : N ≤ List.length z0.1.2
        · rw [Nat.min_eq_left h, hN]
          simp
        · rw [Nat.min_eq_right (by omega)]
          simp
      simp only [t21p, t21p_6, t21p_6z, Tr.val, hf]
      refine ⟨_, rfl, b, by omega, ?_⟩
      obtain ⟨t0, t1, t2, t3, t4, t5⟩ := t
      cases t5
      rfl) (min N (List.length z0.1.2)) 0 [] n rfl (Nat.zero_le _) rfl (by omega)
  obtain ⟨r, h1, rows, h2, h3⟩ := h
  exact ⟨rows, h2, r, h1, h3⟩

theorem l7Few_ok (x : Sem shRel) : ∃ rows : List (Sem (.sl shVal)), rows.length ≤ 201 ∧ l7FewO x = some (((tFew x.1, rows) : Sem shRel), ()) := by
  have e : tFew (x.1.1, x.1.2.1, x.1.2.2.1, x.1.2.2.2.1, x.1.2.2.2.2.1, etaE x.1.2.2.2.2.2) = tFew x.1 := by rw [etaE_eq]
  have hv : ∃ k : Int, 0 ≤ k ∧ k ≤ 201 ∧ (i21p x).val = some (.inl (.h6 k 0 (x, ()) ([], 0, [], 0, 0, [], [], ()) (tFew x.1, [], ()))) := by
    simp only [i21p, i21pz, Tr.val, e]
    split
    · exact ⟨201, by omega, by omega, rfl⟩
    · exact ⟨40, by omega, by omega, rfl⟩
  obtain ⟨k, k1, k2, hv⟩ := hv
  obtain ⟨rows, h1, r, h2, h3⟩ := few6 100000000 k k2 k1 (x, ()) ([], 0, [], 0, 0, [], [], ()) (tFew x.1) (by omega)
  refine ⟨rows, h1, ?_⟩
  unfold l7FewO outT runT
  rw [hv]
  show (iterT t21p 100000000 _).bind _ = _
  rw [h2]
  exact h3

theorem l7Few_short (x : Sem shRel) : ShortR (l7Few x) := by
  obtain ⟨rows, h1, h2⟩ := l7Few_ok x
  have h3 : l7Few x = (tFew x.1, rows) := by unfold l7Few; rw [h2]; rfl
  rw [h3]
  obtain ⟨k1, k2⟩ := tFew_short x.1
  exact ⟨by show List.length (tFew x.1).2.2.2.1 ≤ _; omega, by show List.length (tFew x.1).2.2.2.2.1 ≤ _; omega, by show rows.length ≤ _; omega⟩
theorem l7FewC_true (x : Sem shRel) : l7FewC x = true := by
  obtain ⟨rows, h1, h2⟩ := l7Few_ok x
  unfold l7FewC
  rw [h2]; rfl

theorem l8Few_ok (db : List (Sem shRel)) : ∃ db' : List (Sem shRel), l8FewO db = some (db', ()) ∧ db'.length ≤ 13 ∧ ∀ x ∈ db', ShortR x := by
  have h := iter_inv (t := t7p) (β := List (Sem shRel)) (min 13 db.length) (fun b i => .h3 db (i : Int) b) (fun b i => b.length = i ∧ ∀ x ∈ b, ShortR x) (fun r => ∃ db' : List (Sem shRel), resOf r.2 [shRel.sl] r.1 = some (db', ()) ∧ db'.length ≤ 13 ∧ ∀ x ∈ db', ShortR x) 1 (by
      intro b i hi hb
      have h1 : (i : Int) < (db.length : Int) := by omega
      have h2 : (i : Int) < 13 := by omega
      have h3 : inB (i : Int) db.length = true := inB_of (by omega)
      refine Or.inl ⟨b ++ [l7Few (db.getD (i : Int).toNat (dflt shRel))], ⟨by simp [hb.1], ?_⟩, ?_⟩
      · intro x hx
        rcases List.mem_append.1 hx with hx | hx
        · exact hb.2 x hx
        · rw [List.mem_singleton] at hx
          rw [hx]; exact l7Few_short _
      · simp only [t7p, t7p_3, t7p_3z, Tr.val, decide_eq_true h1, decide_eq_true h2, cond_true, if_true, h3, etaE_eq, Prod.eta, l7FewC_true]
        rw [wrap_add i (by unfold maxStr; omega), if_pos (by simp; omega)]) (by
      intro b n hb hn
      obtain ⟨n, rfl⟩ : ∃ k, n = k + 1 := ⟨n - 1, by omega⟩
      rw [iterT_val]
      have hf : (bif decide (((min 13 db.length : Nat) : Int) < (db.length : Int)) then decide (((min 13 db.length : Nat) : Int) < 13) else false) = false := by
        by_cases h : 13 ≤ db.length
        · rw [Nat.min_eq_left h]
          simp
        · rw [Nat.min_eq_right (by omega)]
          simp
      simp only [t7p, t7p_3, t7p_3z, Tr.val, hf]
      exact ⟨_, rfl, b, rfl, by omega, hb.2⟩) (min 13 db.length) 0 [] 100000000 rfl (Nat.zero_le _) ⟨rfl, by simp⟩ (by omega)
  obtain ⟨r, h1, db', h2, h3, h4⟩ := h
  refine ⟨db', ?_, h3, h4⟩
  unfold l8FewO outT runT
  simp only [i7p, Tr.val]
  have h1' : iterT t7p 100000000 (.h3 db 0 []) = some r := h1
  rw [h1']
  exact h2

theorem l5TextC_true (s : Str) : l5TextC s = true := by
  unfold l5TextC
  split
  · rename_i h
    have : 20 < s.length := by simp at h; omega
    rw [if_pos (by simp; omega)]
  · rfl
theorem l5Text_len (s : Str) : (l5Text s).length ≤ 20 := by
  unfold l5Text
  split
  · simp; omega
  · rename_i h
    have : ¬ 20 < s.length := by simp at h; omega
    omega
theorem l5NamesC_3_true : ∀ (l : List Str) (i : Int) (acc : List Str), (acc.length : Int) ≤ i → l5NamesC_3 l i acc = true
  | [], _, _, _ => rfl
  | x :: r, i, acc, h => by
    rw [l5NamesC_3]
    split
    · rename_i hi
      simp only [decide_eq_true_eq] at hi
      rw [if_pos (l5TextC_true x), if_pos (by simp; omega)]
      exact l5NamesC_3_true r (i + 1) _ (by simp; omega)
    · rfl
theorem l5NamesC_true (l : List Str) : l5NamesC l = true := l5NamesC_3_true l 0 [] (by simp)
theorem l5Names_3_len : ∀ (l : List Str) (i : Int) (acc : List Str), (acc.length : Int) ≤ i → acc.length ≤ 10 → (∀ x ∈ acc, List.length x ≤ 20) → List.length (l5Names_3 l i acc) ≤ 10 ∧ ∀ x ∈ l5Names_3 l i acc, List.length x ≤ 20
  | [], _, acc, _, h, ha => ⟨h, ha⟩
  | x :: r, i, acc, h, hl, ha => by
    rw [l5Names_3]
    split
    · rename_i hi
      simp only [decide_eq_true_eq] at hi
      refine l5Names_3_len r (i + 1) _ (by simp; omega) (by simp; omega) (fun y hy => ?_)
      rcases List.mem_append.1 hy with hy | hy
      · exact ha y hy
      · rw [List.mem_singleton] at hy
        rw [hy]; exact l5Text_len x
    · exact ⟨hl, ha⟩
theorem l5Names_len (l : List Str) : List.length (l5Names l) ≤ 10 ∧ ∀ x ∈ l5Names l, List.length x ≤ 20 := l5Names_3_len l 0 [] (by simp) (by simp) (by simp)
theorem lCols_3_len : ∀ (l : List (Sem shCol)) (i : Int) (acc : List (Sem shCol)), (acc.length : Int) ≤ i → acc.length ≤ 10 → (∀ x ∈ acc, List.length x.1 ≤ 20) → List.length (lCols_3 l i acc) ≤ 10 ∧ ∀ x ∈ lCols_3 l i acc, List.length x.1 ≤ 20
  | [], _, acc, _, h, ha => ⟨h, ha⟩
  | x :: r, i, acc, h, hl, ha => by
    rw [lCols_3]
    split
    · rename_i hi
      simp only [decide_eq_true_eq] at hi
      split
      · refine lCols_3_len r (i + 1) _ (by simp; omega) (by simp; omega) (fun y hy => ?_)
        rcases List.mem_append.1 hy with hy | hy
        · exact ha y hy
        · rw [List.mem_singleton] at hy
          rw [hy]; simp; omega
      · rename_i hx
        have hx : ¬ 20 < List.length x.1 := by simp at hx; omega
        refine lCols_3_len r (i + 1) _ (by simp; omega) (by simp; omega) (fun y hy => ?_)
        rcases List.mem_append.1 hy with hy | hy
        · exact ha y hy
        · rw [List.mem_singleton] at hy
          rw [hy]; omega
    · exact ⟨hl, ha⟩
theorem lCols_len (l : List (Sem shCol)) : List.length (lCols l) ≤ 10 ∧ ∀ x ∈ lCols l, List.length x.1 ≤ 20 := lCols_3_len l 0 [] (by simp) (by simp) (by simp)
theorem lFew2_3_len : ∀ (l : List (Sem shVal)) (i : Int) (acc : List (Sem shVal)), (acc.length : Int) ≤ i → acc.length ≤ 14 → List.length (lFew2_3 l i acc) ≤ 14
  | [], _, acc, _, h => h
  | x :: r, i, acc, h, hl => by
    rw [lFew2_3]
    split
    · rename_i hi
      simp only [decide_eq_true_eq] at hi
      exact lFew2_3_len r (i + 1) _ (by simp; omega) (by simp; omega)
    · exact hl
theorem lFew2_len (l : List (Sem shVal)) : List.length (lFew2 l) ≤ 14 := lFew2_3_len l 0 [] (by simp) (by simp)

theorem fewL_cp {g : Sem Sh.expr → Sem shInt → Sem shInt → Sem Sh.expr × Sem shInt} {c : Sem Sh.expr → Sem shInt → Sem shInt → Bool} {i1 : Int} {N : Nat} (h : ∀ x n, 0 < i1 → cpC N (g x (IntKind.i64.wrap (i1 - 1)) n).1 = true) {a0 a1 a2 a3 a4 b0 b1 b2 b3 b4 d0 d1 d2 d3 d4} :
    ∀ (l : List (Sem Sh.expr)) (i n : Int) (acc : List (Sem Sh.expr)), (acc.length : Int) ≤ i → acc.length ≤ 3 → (∀ x ∈ acc, cpC N x = true) → cpC (N + 1) (fewS_10 g c i1 a0 a1 a2 a3 a4 b0 b1 b2 b3 b4 d0 d1 d2 d3 d4 l i n acc).1 = true
  | [], _, _, acc, _, hl, ha => by
    rw [fewS_10]
    show (decide (acc.length ≤ 1073741824) && acc.all (cpC N)) = true
    rw [List.all_eq_true.2 ha]
    simp; omega
  | x :: r, i, n, acc, hi, hl, ha => by
    rw [fewS_10]
    split
    · rename_i hk
      have h3 : i < 3 ∧ i1 > 0 := by
        cases h1 : decide (i < 3) <;> cases h2 : decide (i1 > 0) <;> simp_all
      refine fewL_cp h r (i + 1) _ _ (by simp; omega) (by simp; omega) (fun y hy => ?_)
      rcases List.mem_append.1 hy with hy | hy
      · exact ha y hy
      · rw [List.mem_singleton] at hy
        rw [hy]; exact h x n h3.2
    · show (decide (acc.length ≤ 1073741824) && acc.all (cpC N)) = true
      rw [List.all_eq_true.2 ha]
      simp; omega
theorem fewS_cp {g : Sem Sh.expr → Sem shInt → Sem shInt → Sem Sh.expr × Sem shInt} {c : Sem Sh.expr → Sem shInt → Sem shInt → Bool} {i1 : Int} {N : Nat} (h : ∀ x n, 0 < i1 → cpC N (g x (IntKind.i64.wrap (i1 - 1)) n).1 = true) (e : ExprT) (n : Int) : cpC (N + 1) (fewS g c e i1 n).1 = true := by
  unfold fewS
  repeat' split
  all_goals exact fewL_cp h _ _ _ _ (by simp) (by simp) (by simp)
theorem fewN_cp : ∀ (N : Nat) (e : ExprT) (d n : Int), 0 ≤ d → d < N → N ≤ 100 → cpC N (fewN N e d n).1 = true
  | 0, _, _, _, h1, h2, _ => by omega
  | N + 1, e, d, n, h1, h2, h3 => by
    rw [fewN]
    refine fewS_cp (fun x m hd => ?_) e n
    rw [wrap_small _ (by omega) (by omega)]
    exact fewN_cp N x (d - 1) m (by omega) (by omega) (by omega)
theorem eFew_cp (e : ExprT) : cpC 16 (eFew e) = true := by
  have h := fewN_cp 16 e 14 80 (by omega) (by omega) (by omega)
  unfold eFew
  rw [ExprT.eta]
  exact h

structure FewS (s : Sem shStmt) : Prop where
  sh : ShortS s
  cp : cpC 16 s.2.2.2.2.2.2.2.2.1 = true

def F3I (i : Nat) (z : CSem cpS3) : Prop := z.1.length ≤ 20 ∧ z.2.1.length ≤ 20 ∧ z.2.2.1.length ≤ 20 ∧ (List.length z.2.2.2.1 ≤ 10 ∧ ∀ x ∈ z.2.2.2.1, List.length x ≤ 20) ∧ (List.length z.2.2.2.2.1 ≤ 10 ∧ ∀ x ∈ z.2.2.2.2.1, List.length x.1 ≤ 20) ∧ z.2.2.2.2.2.1.length ≤ 20 ∧
  (List.length z.2.2.2.2.2.2.1 ≤ 10 ∧ ∀ x ∈ z.2.2.2.2.2.2.1, List.length x ≤ 20) ∧ (List.length z.2.2.2.2.2.2.2.1 = i ∧ ∀ x ∈ z.2.2.2.2.2.2.2.1, List.length x.1 ≤ 20 ∧ List.length x.2 ≤ 20) ∧ cpC 16 z.2.2.2.2.2.2.2.2.1 = true ∧ List.length z.2.2.2.2.2.2.2.2.2.1 ≤ 14 ∧ z.2.2.2.2.2.2.2.2.2.2.2.1.length ≤ 20

def F7I (i : Nat) (z : CSem cpS7) : Prop := z.1.length ≤ 20 ∧ z.2.1.length ≤ 20 ∧ z.2.2.1.length ≤ 20 ∧ (List.length z.2.2.2.1 ≤ 10 ∧ ∀ x ∈ z.2.2.2.1, List.length x ≤ 20) ∧ (List.length z.2.2.2.2.1 ≤ 10 ∧ ∀ x ∈ z.2.2.2.2.1, List.length x.1 ≤ 20) ∧ z.2.2.2.2.2.1.length ≤ 20 ∧
  (List.length z.2.2.2.2.2.2.1 ≤ 10 ∧ ∀ x ∈ z.2.2.2.2.2.2.1, List.length x ≤ 20) ∧ (List.length z.2.2.2.2.2.2.2.1 ≤ 10 ∧ ∀ x ∈ z.2.2.2.2.2.2.2.1, List.length x.1 ≤ 20 ∧ List.length x.2 ≤ 20) ∧ cpC 16 z.2.2.2.2.2.2.2.2.1 = true ∧ List.length z.2.2.2.2.2.2.2.2.2.1 ≤ 14 ∧
  (List.length z.2.2.2.2.2.2.2.2.2.2.1 = i ∧ ∀ x ∈ z.2.2.2.2.2.2.2.2.2.2.1, List.length x.1 ≤ 20) ∧ z.2.2.2.2.2.2.2.2.2.2.2.2.1.length ≤ 20

def FewR (r : Raw) : Prop := ∃ s : Sem shStmt, resOf r.2 [shStmt] r.1 = some (s, ()) ∧ FewS s

theorem fs7 (z0 : CSem cpS) (z1 : CSem cpSz) (z : CSem cpS7) (hz : F7I 0 z) (n : Nat) (hn : 20 ≤ n) : ∃ r, iterT t8p n (.h7 0 z0 z1 z) = some r ∧ FewR r := by
  refine iter_inv (t := t8p) (β := CSem cpS7) (min 10 (List.length z0.1.2.2.2.2.2.2.2.2.2.2.1)) (fun z i => .h7 (i : Int) z0 z1 z) (fun z i => F7I i z) FewR 1 ?_ ?_ (min 10 (List.length z0.1.2.2.2.2.2.2.2.2.2.2.1)) 0 z n rfl (Nat.zero_le _) hz (by omega)
  · intro z i hi hb
    obtain ⟨h0, h1, h2, h3, h4, h5, h6, h7, h8, h9, h10, h11⟩ := hb
    have k1 : (i : Int) < (List.length z0.1.2.2.2.2.2.2.2.2.2.2.1 : Int) := by omega
    have k2 : (i : Int) < 10 := by omega
    have k3 : inB (i : Int) (List.length z0.1.2.2.2.2.2.2.2.2.2.2.1) = true := inB_of (by omega)
    refine Or.inl ⟨(z.1, z.2.1, z.2.2.1, z.2.2.2.1, z.2.2.2.2.1, z.2.2.2.2.2.1, z.2.2.2.2.2.2.1, z.2.2.2.2.2.2.2.1, z.2.2.2.2.2.2.2.2.1, z.2.2.2.2.2.2.2.2.2.1, z.2.2.2.2.2.2.2.2.2.2.1 ++ [(l5Text (List.getD z0.1.2.2.2.2.2.2.2.2.2.2.1 (i : Int).toNat (dflt shSet)).1, etaE (eFew (etaE (List.getD z0.1.2.2.2.2.2.2.2.2.2.2.1 (i : Int).toNat (dflt shSet)).2)))], z.2.2.2.2.2.2.2.2.2.2.2), ⟨h0, h1, h2, h3, h4, h5, h6, h7, h8, h9, ?_, h11⟩, ?_⟩
    rotate_left 1
    · simp only [t8p, t8p_7, t8p_7z, Tr.val, decide_eq_true k1, decide_eq_true k2, cond_true, if_true, k3, l5TextC_true]
      rw [wrap_add i (by unfold maxStr; omega), if_pos (by have := h10.1; simp; omega)]
    · refine ⟨?_, fun x hx => ?_⟩
      · simp [h10.1]
      · rcases List.mem_append.1 hx with hx | hx
        · exact h10.2 x hx
        · rw [List.mem_singleton] at hx
          rw [hx]; exact l5Text_len _
  · intro z n hb hn
    obtain ⟨n, rfl⟩ : ∃ k, n = k + 1 := ⟨n - 1, by omega⟩
    obtain ⟨h0, h1, h2, h3, h4, h5, h6, h7, h8, h9, h10, h11⟩ := hb
    rw [iterT_val]
    have hf : (bif decide (((min 10 (List.length z0.1.2.2.2.2.2.2.2.2.2.2.1) : Nat) : Int) < (List.length z0.1.2.2.2.2.2.2.2.2.2.2.1 : Int)) then decide (((min 10 (List.length z0.1.2.2.2.2.2.2.2.2.2.2.1) : Nat) : Int) < 10) else false) = false := by
      by_cases h : 10 ≤ List.length z0.1.2.2.2.2.2.2.2.2.2.2.1
      · rw [Nat.min_eq_left h]
        simp
      · rw [Nat.min_eq_right (by omega)]
        simp
    simp only [t8p, t8p_7, t8p_7z, Tr.val, hf]
    refine ⟨_, rfl, (z.1, z.2.1, z.2.2.1, z.2.2.2.1, z.2.2.2.2.1, z.2.2.2.2.2.1, z.2.2.2.2.2.2.1, z.2.2.2.2.2.2.2.1, z.2.2.2.2.2.2.2.2.1, z.2.2.2.2.2.2.2.2.2.1, z.2.2.2.2.2.2.2.2.2.2.1, z.2.2.2.2.2.2.2.2.2.2.2.1, z.2.2.2.2.2.2.2.2.2.2.2.2.1), ?_, ⟨?_, h8⟩⟩
    · obtain ⟨z0, z1, z2, z3, z4, z5, z6, z7, z8, z9, z10, z11, z12, z13⟩ := z
      cases z8
      cases z11
      rfl
    · refine ⟨by show z.1.length ≤ _; omega, by show z.2.1.length ≤ _; omega, by show z.2.2.1.length ≤ _; omega, ⟨by have := h3.1; show List.length z.2.2.2.1 ≤ _; omega, fun x hx => by have := h3.2 x hx; omega⟩, ⟨by have := h4.1; show List.length z.2.2.2.2.1 ≤ _; omega, fun x hx => by have := h4.2 x hx; omega⟩, by show z.2.2.2.2.2.1.length ≤ _; omega, ⟨by have := h6.1; show List.length z.2.2.2.2.2.2.1 ≤ _; omega, fun x hx => by have := h6.2 x hx; omega⟩, ⟨by have := h7.1; show List.length z.2.2.2.2.2.2.2.1 ≤ _; omega, fun x hx => by have := h7.2 x hx; omega⟩, by show List.length z.2.2.2.2.2.2.2.2.2.1 ≤ _; omega, ⟨by have := h10.1; show List.length z.2.2.2.2.2.2.2.2.2.2.1 ≤ _; omega, fun x hx => by have := h10.2 x hx; omega⟩, by show z.2.2.2.2.2.2.2.2.2.2.2.2.1.length ≤ _; omega⟩

theorem fs3 (z0 : CSem cpS) (z1 : CSem cpSz) (z : CSem cpS3) (hz : F3I 0 z) (n : Nat) (hn : 40 ≤ n) : ∃ r, iterT t8p n (.h3 0 z0 z1 z) = some r ∧ FewR r := by
  refine iter_inv (t := t8p) (β := CSem cpS3) (min 10 (List.length z0.1.2.2.2.2.2.2.2.1)) (fun z i => .h3 (i : Int) z0 z1 z) (fun z i => F3I i z) FewR 21 ?_ ?_ (min 10 (List.length z0.1.2.2.2.2.2.2.2.1)) 0 z n rfl (Nat.zero_le _) hz (by omega)
  · intro z i hi hb
    obtain ⟨h0, h1, h2, h3, h4, h5, h6, h7, h8⟩ := hb
    have k1 : (i : Int) < (List.length z0.1.2.2.2.2.2.2.2.1 : Int) := by omega
    have k2 : (i : Int) < 10 := by omega
    have k3 : inB (i : Int) (List.length z0.1.2.2.2.2.2.2.2.1) = true := inB_of (by omega)
    refine Or.inl ⟨(z.1, z.2.1, z.2.2.1, z.2.2.2.1, z.2.2.2.2.1, z.2.2.2.2.2.1, z.2.2.2.2.2.2.1, z.2.2.2.2.2.2.2.1 ++ [(l5Text (List.getD z0.1.2.2.2.2.2.2.2.1 (i : Int).toNat (dflt shRef)).1, l5Text (List.getD z0.1.2.2.2.2.2.2.2.1 (i : Int).toNat (dflt shRef)).2)], z.2.2.2.2.2.2.2.2), ⟨h0, h1, h2, h3, h4, h5, h6, ?_, h8⟩, ?_⟩
    rotate_left 1
    · simp only [t8p, t8p_3, t8p_3z, Tr.val, decide_eq_true k1, decide_eq_true k2, cond_true, if_true, k3, l5TextC_true]
      rw [wrap_add i (by unfold maxStr; omega), if_pos (by have := h7.1; simp; omega)]
    · refine ⟨?_, fun x hx => ?_⟩
      · simp [h7.1]
      · rcases List.mem_append.1 hx with hx | hx
        · exact h7.2 x hx
        · rw [List.mem_singleton] at hx
          rw [hx]; exact ⟨l5Text_len _, l5Text_len _⟩
  · intro z n hb hn
    obtain ⟨n, rfl⟩ : ∃ k, n = k + 1 := ⟨n - 1, by omega⟩
    obtain ⟨h0, h1, h2, h3, h4, h5, h6, h7, h8, h9, h10⟩ := hb
    rw [iterT_val]
    have hf : (bif decide (((min 10 (List.length z0.1.2.2.2.2.2.2.2.1) : Nat) : Int) < (List.length z0.1.2.2.2.2.2.2.2.1 : Int)) then decide (((min 10 (List.length z0.1.2.2.2.2.2.2.2.1) : Nat) : Int) < 10) else false) = false := by
      by_cases h : 10 ≤ List.length z0.1.2.2.2.2.2.2.2.1
      · rw [Nat.min_eq_left h]
        simp
      · rw [Nat.min_eq_right (by omega)]
        simp
    simp only [t8p, t8p_3, t8p_3z, Tr.val, hf]
    exact fs7 z0 z1 _ ⟨h0, h1, h2, h3, h4, h5, h6, ⟨by have := h7.1; show List.length z.2.2.2.2.2.2.2.1 ≤ _; omega, h7.2⟩, h8, h9, ⟨rfl, by simp⟩, h10⟩ n (by omega)

theorem l5Few_ok (s : Sem shStmt) : ∃ s' : Sem shStmt, l5FewO s = some (s', ()) ∧ FewS s' := by
  unfold l5FewO outT runT
  simp only [i8p, Tr.val, l5TextC_true, l5NamesC_true, if_true]
  obtain ⟨r, h1, s', h2, h3⟩ := fs3 (s, ()) ([], [], [], [], [], 0, 0, [], [], [], 0, 0, [], [], [], ()) (l5Text s.1, l5Text s.2.1, l5Text s.2.2.1, l5Names s.2.2.2.1, lCols s.2.2.2.2.1,
    l5Text s.2.2.2.2.2.1, l5Names s.2.2.2.2.2.2.1, [], eFew (etaE s.2.2.2.2.2.2.2.2.1), lFew2 s.2.2.2.2.2.2.2.2.2.1, eFew (etaE s.2.2.2.2.2.2.2.2.2.2.2.1), l5Text s.2.2.2.2.2.2.2.2.2.2.2.2, ())
    ⟨l5Text_len _, l5Text_len _, l5Text_len _, l5Names_len _, lCols_len _, l5Text_len _, l5Names_len _, ⟨rfl, by simp⟩, eFew_cp _, lFew2_len _, l5Text_len _⟩ 100000000 (by omega)
  refine ⟨s', ?_, h3⟩
  rw [h1]
  exact h2
open Go Go.Proofs
set_option maxHeartbeats 4000000

abbrev y11 (x0 : Sem shRel.sl) (x1 : Sem shStmt) : CSem cpMk := (x0, x1, ([], [], 0, [], [], ExprT.mk [] (0, 0, []) [] []), ([], [], 0, [], [], ExprT.mk [] (0, 0, []) [] []), x1.1, x1.2.2.1, x1.2.2.2.2.2.2.2.2.2.2.2.2, x1.2.1, 0, x1.2.2.2.2.2.2.2.2.1, 0, ())

theorem i11_eq (x0 : Sem shRel.sl) (x1 : Sem shStmt) : i11p x0 x1 = (let a8 := mSources (y11 x0 x1)
    let a11 := mCopy a8.2
    let a14 := mJoin a8.2
    let a17 := mGroup a8.2
    i11pz x0 x1 x1.2.2.2.2.2.2.2.2.1 x1 (!stMay x1) (stMayC x1 && bif !stMay x1 then true else bCheckC x0) (bif !stMay x1 then true else bCheck x0 != 0) (cpC 16 x1.2.2.2.2.2.2.2.2.1) (y11 x0 x1) (mSourcesC (y11 x0 x1)) a8 (a8.1 == 0) a8.2 a11 a11.2 (mTarget a11.2) a14 a14.2 (mTarget a14.2) a17 a17.2 (mTarget a17.2)) := by
  unfold i11p
  simp only [etaM, etaM3, etaE_eq]

abbrev plOf (z : CSem cpMk3) : Sem shPlan := (z.2.2.2.2.1, z.2.2.2.2.2.1, z.2.2.2.2.2.2.1, (z.2.2.2.2.2.2.2.1, z.2.2.2.2.2.2.2.2.1, z.2.2.2.2.2.2.2.2.2.1, [], [], z.2.2.2.2.2.2.2.2.2.2.1), z.2.2.2.2.2.2.2.2.2.2.2.1, z.2.2.2.2.2.2.2.2.2.2.2.2.1)
abbrev plNil : Sem shPlan := ([], [], [], ([], [], 0, [], [], ExprT.mk [] (0, 0, []) [] []), [], 0)

structure PlanOk (x0 : Sem shRel.sl) (x1 : Sem shStmt) (p : Sem shPlan) : Prop where
  ok : bCheck x0 = (0 : Int)
  parts : sParts x1 = true
  ex : ∃ (y : CSem cpMk) (z : CSem cpMk3), SrcOk (y11 x0 x1) y ∧ y.1 = x0 ∧ y.2.1 = x1 ∧ y.2.2.2.2 = (y11 x0 x1).2.2.2.2 ∧ AkKeep y z ∧ z.2.2.2.2.2.2.2.2.2.2.1 = x1.2.2.2.2.2.2.2.2.1 ∧ AskOk y z ∧ p = plOf z

abbrev isMig (op : Str) : Prop := op = [99, 111, 112, 121] ∨ op = [106, 111, 105, 110] ∨ op = [103, 114, 111, 117, 112]

theorem stMay_parts {s : Sem shStmt} (h : stMay s = true) : sParts s = true := by
  unfold stMay stText at h
  by_cases hp : sParts s = true
  · exact hp
  · exfalso
    simp only [Bool.not_eq_true] at hp
    simp [hp] at h

theorem find_mem {db : List (Sem shRel)} {s : Str} (h : (0 : Int) ≤ bFind db s) : db.getD (Int.toNat (bFind db s)) (dflt shRel) ∈ db := by
  have := inB_find h
  simp only [inB, Bool.and_eq_true, decide_eq_true_eq] at this
  exact getD_mem _ _ (by omega)

theorem bCheck_9_may {l0 : List (Sem shRel)} (db : List (Sem shRel)) (hl : db.length ≤ 12) : ∀ (n i : Nat), i ≤ db.length → db.length + 1 ≤ n + i → bCheck_9 n l0 db (db.length : Int) (i : Int) = (0 : Int) → ∀ (j : Nat) x, i ≤ j → db[j]? = some x → rCheck x = (0 : Int)
  | 0, i, h1, h2, _ => by omega
  | n + 1, i, h1, h2, h3 => by
    rw [bCheck_9] at h3
    intro j x hj hx
    have hjl : j < db.length := (List.getElem?_eq_some_iff.1 hx).1
    have h : i < db.length := by omega
    rw [if_pos (lt_dec h), getD_at db _ h, wrapN1 i (by omega)] at h3
    split at h3
    · rename_i h4
      rw [h3] at h4
      simp at h4
    · rename_i h4
      by_cases hji : i = j
      · subst hji
        rw [List.getElem?_eq_getElem h] at hx
        cases hx
        simpa using h4
      · exact bCheck_9_may db hl n (i + 1) (by omega) (by omega) h3 j x (by omega) hx

theorem bCheck_4_may (db : List (Sem shRel)) (hl : db.length ≤ 12) : ∀ (n i : Nat), 1 ≤ i → i ≤ db.length + 1 → db.length + db.length + 4 ≤ n + i → bCheck_4 n db (i : Int) = (0 : Int) → ∀ x ∈ db, rCheck x = (0 : Int)
  | 0, i, _, h1, h2, _ => by omega
  | n + 1, i, h0, h1, h2, h3 => by
    rw [bCheck_4] at h3
    by_cases h : i < db.length
    · rw [if_pos (lt_dec h)] at h3
      split at h3
      · cases h3
      · rw [wrapN1 i (by omega)] at h3
        exact bCheck_4_may db hl n (i + 1) (by omega) (by omega) (by omega) h3
    · rw [if_neg (by simp; omega)] at h3
      intro x hx
      obtain ⟨j, hj, rfl⟩ := List.getElem_of_mem hx
      exact bCheck_9_may db hl n 0 (by omega) (by omega) h3 j _ (by omega) (List.getElem?_eq_getElem hj)

theorem bCheck_rels {db : List (Sem shRel)} (h : bCheck db = (0 : Int)) : db.length ≤ 12 ∧ ∀ x ∈ db, rCheck x = (0 : Int) := by
  unfold bCheck at h
  split at h
  · cases h
  · rename_i hl
    have hl : db.length ≤ 12 := by simp at hl; omega
    exact ⟨hl, bCheck_4_may db hl 100000000 1 (by omega) (by omega) (by omega) h⟩

theorem group_names {s : Sem shStmt} (h : sParts s = true) (ho : s.1 = [103, 114, 111, 117, 112]) : s.2.2.2.1.length = 2 := by
  rcases upd_ops h with ⟨h1, _⟩ | ⟨_, h2⟩ | h1
  · rw [ho] at h1; simp at h1
  · exact h2
  · rw [ho] at h1; simp at h1

theorem join_role {s : Sem shStmt} (h : sParts s = true) (ho : s.1 = [106, 111, 105, 110]) : s.2.2.2.2.2.2.2.2.2.2.2.2 ≠ [] := by
  intro hr
  have hn : sName ([] : Str) = false := by kernel_rfl
  unfold sParts at h
  rw [ho, hr, hn] at h
  simp at h

theorem res0 (e : Int) : resOf [] [shPlan, shInt] (AV.tup [AV.agg [AV.str [], AV.str [], AV.str [], AV.str [], AV.nils, AV.int .i64 0, AV.nils, AV.nils, AV.str [], AV.int .i64 0, AV.int .i64 0, AV.str [], AV.str [], AV.nils, AV.nils, AV.int .i64 0], AV.int .i64 e]) = some (plNil, e, ()) := rfl

theorem res1 (z : CSem cpMk3) : resOf [AO.vec shCol z.2.2.2.2.2.2.2.2.1] [shPlan, shInt] (AV.tup [AV.agg [AV.str z.2.2.2.2.1, AV.str z.2.2.2.2.2.1, AV.str z.2.2.2.2.2.2.1, AV.str z.2.2.2.2.2.2.2.1, AV.vec 0,
    AV.int .i64 z.2.2.2.2.2.2.2.2.2.1, AV.nils, AV.nils, AV.str (ExprT.op z.2.2.2.2.2.2.2.2.2.2.1), AV.int .i64 (ExprT.v z.2.2.2.2.2.2.2.2.2.2.1).1, AV.int .i64 (ExprT.v z.2.2.2.2.2.2.2.2.2.2.1).2.1, AV.str (ExprT.v z.2.2.2.2.2.2.2.2.2.2.1).2.2, AV.str (ExprT.s z.2.2.2.2.2.2.2.2.2.2.1), AV.sl Sh.expr (ExprT.l z.2.2.2.2.2.2.2.2.2.2.1),
    AV.sl shInt z.2.2.2.2.2.2.2.2.2.2.2.1, AV.int .i64 z.2.2.2.2.2.2.2.2.2.2.2.2.1], AV.int .i64 0]) = some (plOf z, 0, ()) := by
  obtain ⟨z0, z1, z2, z3, z4, z5, z6, z7, z8, z9, z10, z11, z12, z13⟩ := z
  cases z10
  rfl

def PfR (x0 : Sem shRel.sl) (x1 : Sem shStmt) (o : Option (HArgs (List.map some [shPlan, shInt]))) : Prop := ∃ (p : Sem shPlan) (e : Int), o = some (p, e, ()) ∧ (¬ isMig x1.1 → e = 1 ∧ p = plNil) ∧ (e ≠ 0 → p = plNil) ∧ (e = 0 → PlanOk x0 x1 p)

theorem pfr0 {x0 : Sem shRel.sl} {x1 : Sem shStmt} {o : Option (HArgs (List.map some [shPlan, shInt]))} (e : Int) (h : o = some (plNil, e, ())) (he : e ≠ 0) (hm : ¬ isMig x1.1 → e = 1) : PfR x0 x1 o :=
  ⟨plNil, e, h, fun h => ⟨hm h, rfl⟩, fun _ => rfl, fun h => absurd h he⟩

theorem pOf_bad {x0 : Sem shRel.sl} {x1 : Sem shStmt} (hM : stMayC x1 = true) (hB : bCheckC x0 = true) (hmay : (bif !stMay x1 then true else bCheck x0 != 0) = true) : PfR x0 x1 (pOfO x0 x1) := by
  have h3 : (stMayC x1 && bif !stMay x1 then true else bCheckC x0) = true := by rw [hM, hB]; cases stMay x1 <;> rfl
  refine pfr0 1 ?_ (by decide) (fun _ => rfl)
  unfold pOfO outT runT
  rw [i11_eq]
  simp only [i11pz, Tr.val, h3, hmay, if_true]
  by_cases o1 : (x1.1 == [99, 111, 112, 121]) = true
  · simp only [o1, if_true]; rfl
  · by_cases o2 : (x1.1 == [106, 111, 105, 110]) = true
    · simp only [o1, o2, if_true]; rfl
    · by_cases o3 : (x1.1 == [103, 114, 111, 117, 112]) = true
      · simp only [o1, o2, o3, if_true]; rfl
      · simp only [o1, o2, o3]; rfl

theorem pOf_ok {x0 : Sem shRel.sl} {x1 : Sem shStmt} (hdb : ∀ x ∈ x0, ShortR x) (hl : List.length x0 ≤ 13) (hs : FewS x1) : PfR x0 x1 (pOfO x0 x1) := by
  have hM := stMayC_true hs.sh
  have hB := bCheckC_true hdb
  by_cases hmay : (bif !stMay x1 then true else bCheck x0 != 0) = true
  · exact pOf_bad hM hB hmay
  have h3 : (stMayC x1 && bif !stMay x1 then true else bCheckC x0) = true := by rw [hM, hB]; cases stMay x1 <;> rfl
  have hm1 : stMay x1 = true := by
    cases h : stMay x1
    · rw [h] at hmay; simp at hmay
    · rfl
  have hb1 : bCheck x0 = (0 : Int) := by
    rw [hm1] at hmay; simpa using hmay
  have hparts := stMay_parts hm1
  obtain ⟨_, hrels⟩ := bCheck_rels hb1
  obtain ⟨e8, y8, h8, k1, k2, k3, k4⟩ := mSources_ok (y11 x0 x1) (by show List.length x0 ≤ _; omega)
  have s8 : mSources (y11 x0 x1) = (e8, y8) := by unfold mSources; rw [h8]; rfl
  have c8 : mSourcesC (y11 x0 x1) = true := by unfold mSourcesC; rw [h8]; rfl
  unfold pOfO outT runT
  rw [i11_eq]
  simp only [i11pz, Tr.val, h3, hmay, hs.cp, s8, c8, if_true]
  by_cases e80 : e8 = 0
  · have hsrc := k4 e80
    have n2 : y8.2.1 = x1 := k2
    have n1 : y8.1 = x0 := k1
    have nk : y8.2.2.2.2.2.2.2.2.1 = (0 : Int) := by rw [k3]
    have nch : y8.2.2.2.2.2.2.2.2.2.1 = x1.2.2.2.2.2.2.2.2.1 := by rw [k3]
    have hfrom : y8.2.2.1 = (List.getD x0 (Int.toNat (bFind x0 x1.2.2.1)) (dflt shRel)).1 := hsrc.2.2.2.2.1
    have hwith : y8.2.2.2.1 = (if x1.2.2.2.2.2.2.2.2.2.2.2.2 = [] then ([], [], 0, [], [], ExprT.mk [] (0, 0, []) [] []) else (List.getD x0 (Int.toNat (bFind x0 x1.2.2.2.2.2.2.2.2.2.2.2.2)) (dflt shRel)).1) := hsrc.2.2.2.2.2
    have mayf := may_facts (rCheck_ok (hrels _ (find_mem (db := x0) (s := x1.2.2.1) hsrc.1))).may
    rw [← hfrom] at mayf
    have hwl : List.length y8.2.2.2.1.2.1 ≤ 1000 := by
      rw [hwith]
      split
      · simp
      · rename_i hw
        have := (may_facts (rCheck_ok (hrels _ (find_mem (db := x0) (s := x1.2.2.2.2.2.2.2.2.2.2.2.2) (hsrc.2.1.resolve_left hw)))).may).2.2.2.1
        omega
    have e8b : (e8 == 0) = true := by simpa using e80
    simp only [e8b, if_true]
    by_cases o1 : (x1.1 == [99, 111, 112, 121]) = true
    · have hx : x1.1 = [99, 111, 112, 121] := eq_of_beq o1
      have hmg : isMig x1.1 := Or.inl hx
      obtain ⟨e11, z, h11, hk, hch, hok⟩ := mCopy_ok y8 (by rw [n2]; have := hs.sh.names.1; omega)
      have s11 : mCopy y8 = (e11, z) := by unfold mCopy; rw [h11]; rfl
      have c11 : mCopyC y8 = true := by unfold mCopyC; rw [h11]; rfl
      simp only [o1, s11, c11, if_true]
      by_cases e0 : e11 = 0
      · have hA := hok e0
        obtain ⟨e13, h13⟩ := mTarget_ok z hA.few
        have s13 : mTarget z = (e13, z) := by unfold mTarget; rw [h13]; rfl
        have c13 : mTargetC z = true := by unfold mTargetC; rw [h13]; rfl
        have e0b : (e11 == 0) = true := by simpa using e0
        simp only [e0b, s13, c13, if_true]
        by_cases f0 : e13 = 0
        · have f0c : (e13 != 0) = false := by simp [f0]
          simp only [f0c]
          exact ⟨plOf z, 0, res1 z, fun h => absurd hmg h, fun h => absurd rfl h, fun _ => ⟨hb1, hparts, y8, z, hsrc, n1, n2, k3, hk, hch.trans nch, hA, rfl⟩⟩
        · have f0c : (e13 != 0) = true := by simpa using f0
          simp only [f0c, if_true]
          exact pfr0 e13 (res0 e13) f0 (fun h => absurd hmg h)
      · have e0b : (e11 == 0) = false := by simpa using e0
        have e0c : (e11 != 0) = true := by simpa using e0
        simp only [e0b, e0c, if_true]
        exact pfr0 e11 (res0 e11) e0 (fun h => absurd hmg h)
    · by_cases o2 : (x1.1 == [106, 111, 105, 110]) = true
      · have hx : x1.1 = [106, 111, 105, 110] := eq_of_beq o2
        have hmg : isMig x1.1 := Or.inr (Or.inl hx)
        obtain ⟨e11, z, h11, hk, hch, hok⟩ := mJoin_ok y8 (by rw [n2]; exact hx) (by have := mayf.2.2.2.1; omega) hwl mayf.1
        have s11 : mJoin y8 = (e11, z) := by unfold mJoin; rw [h11]; rfl
        have c11 : mJoinC y8 = true := by unfold mJoinC; rw [h11]; rfl
        simp only [o1, o2, s11, c11, if_true]
        by_cases e0 : e11 = 0
        · have hA := hok e0
          obtain ⟨e13, h13⟩ := mTarget_ok z hA.few
          have s13 : mTarget z = (e13, z) := by unfold mTarget; rw [h13]; rfl
          have c13 : mTargetC z = true := by unfold mTargetC; rw [h13]; rfl
          have e0b : (e11 == 0) = true := by simpa using e0
          simp only [e0b, s13, c13, if_true]
          by_cases f0 : e13 = 0
          · have f0c : (e13 != 0) = false := by simp [f0]
            simp only [f0c]
            exact ⟨plOf z, 0, res1 z, fun h => absurd hmg h, fun h => absurd rfl h, fun _ => ⟨hb1, hparts, y8, z, hsrc, n1, n2, k3, hk, hch.trans nch, hA, rfl⟩⟩
          · have f0c : (e13 != 0) = true := by simpa using f0
            simp only [f0c, if_true]
            exact pfr0 e13 (res0 e13) f0 (fun h => absurd hmg h)
        · have e0b : (e11 == 0) = false := by simpa using e0
          have e0c : (e11 != 0) = true := by simpa using e0
          simp only [e0b, e0c, if_true]
          exact pfr0 e11 (res0 e11) e0 (fun h => absurd hmg h)
      · by_cases o3 : (x1.1 == [103, 114, 111, 117, 112]) = true
        · have hx : x1.1 = [103, 114, 111, 117, 112] := eq_of_beq o3
          have hmg : isMig x1.1 := Or.inr (Or.inr hx)
          obtain ⟨e11, z, h11, hk, hch, hok⟩ := mGroup_ok y8 (by rw [n2]; exact group_names hparts hx) nk
          have s11 : mGroup y8 = (e11, z) := by unfold mGroup; rw [h11]; rfl
          have c11 : mGroupC y8 = true := by unfold mGroupC; rw [h11]; rfl
          simp only [o1, o2, o3, s11, c11, if_true]
          by_cases e0 : e11 = 0
          · have hA := hok e0
            obtain ⟨e13, h13⟩ := mTarget_ok z hA.few
            have s13 : mTarget z = (e13, z) := by unfold mTarget; rw [h13]; rfl
            have c13 : mTargetC z = true := by unfold mTargetC; rw [h13]; rfl
            have e0b : (e11 == 0) = true := by simpa using e0
            simp only [e0b, s13, c13, if_true]
            by_cases f0 : e13 = 0
            · have f0c : (e13 != 0) = false := by simp [f0]
              simp only [f0c]
              exact ⟨plOf z, 0, res1 z, fun h => absurd hmg h, fun h => absurd rfl h, fun _ => ⟨hb1, hparts, y8, z, hsrc, n1, n2, k3, hk, hch.trans nch, hA, rfl⟩⟩
            · have f0c : (e13 != 0) = true := by simpa using f0
              simp only [f0c, if_true]
              exact pfr0 e13 (res0 e13) f0 (fun h => absurd hmg h)
          · have e0b : (e11 == 0) = false := by simpa using e0
            have e0c : (e11 != 0) = true := by simpa using e0
            simp only [e0b, e0c, if_true]
            exact pfr0 e11 (res0 e11) e0 (fun h => absurd hmg h)
        · simp only [o1, o2, o3]
          exact pfr0 1 (res0 1) (by decide) (fun _ => rfl)
  · have e8b : (e8 == 0) = false := by simpa using e80
    have e8c : (e8 != 0) = true := by simpa using e80
    simp only [e8b, e8c, if_true]
    by_cases o1 : (x1.1 == [99, 111, 112, 121]) = true
    · simp only [o1, if_true]
      exact pfr0 e8 (res0 e8) e80 (fun h => absurd (Or.inl (eq_of_beq o1)) h)
    · by_cases o2 : (x1.1 == [106, 111, 105, 110]) = true
      · simp only [o1, o2, if_true]
        exact pfr0 e8 (res0 e8) e80 (fun h => absurd (Or.inr (Or.inl (eq_of_beq o2))) h)
      · by_cases o3 : (x1.1 == [103, 114, 111, 117, 112]) = true
        · simp only [o1, o2, o3, if_true]
          exact pfr0 e8 (res0 e8) e80 (fun h => absurd (Or.inr (Or.inr (eq_of_beq o3))) h)
        · simp only [o1, o2, o3]
          exact pfr0 1 (res0 1) (by decide) (fun _ => rfl)
open Go Go.Proofs
noncomputable section
set_option maxHeartbeats 4000000
abbrev cpRd : List CP := [.d (.sl shFor), .d shInt, .d .bool]

abbrev kp134p : Nat → Keep := fun _ => { }
theorem ok134p : fnChk env63.P 134 Tryz.f134 1 := by refine ⟨?_, ?_, ?_, ?_⟩ <;> kernel_rfl
def i134pz (x0 : Sem (Sh.int IntKind.u8)) (a0 : Bool) : Tr (Empty ⊕ Raw) :=
  Tr.re (AV.bool (bif decide (65 ≤ x0) then bif decide (x0 ≤ 90) then true else a0 else a0)) []
def i134p (x0 : Sem (Sh.int IntKind.u8)) : Tr (Empty ⊕ Raw) :=
  let a0 := bif decide (97 ≤ x0) then decide (x0 ≤ 122) else false
  i134pz x0 a0
theorem go134p (x0 : Sem (Sh.int IntKind.u8)) : run env63 0 kp134p (Func.results Tryz.f134).toList 400 (bodyOf Tryz.f134) (initSt (Func.ntmps Tryz.f134) [datum (Sh.int IntKind.u8) x0] []) = (i134p x0).map (lf Tryz.f134 e0) := by kernel_rfl
def r3letterO (x0 : Sem (Sh.int IntKind.u8)) : Option (HArgs (List.map some [Sh.bool])) := outT [Sh.bool] t0 100000000 (i134p x0)
def r3letterC (x0 : Sem (Sh.int IntKind.u8)) : Bool := (r3letterO x0).isSome
def r3letter (x0 : Sem (Sh.int IntKind.u8)) : Sem Sh.bool := (fun r : HArgs (List.map some [Sh.bool]) => r.1) ((r3letterO x0).getD (dfltH [Sh.bool]))
def F134p : FSem := plainC [Sh.int IntKind.u8] [Sh.bool] (fun x => r3letterC x.1) fun x => (r3letter x.1, ())
theorem FOk134p : FOk env63.P env63.gl 134 F134p := FOk_T1 (ks := [Sh.int IntKind.u8]) (outs := [Sh.bool]) (keep := kp134p) (gas := 400) (n := 100000000) (e := e0) (t := t0) (i := fun x => i134p x.1) env63_all env63_mix ok134p (fun x => go134p x.1) (on0 _ _ _ _ _) (fun _ => by kernel_rfl) (fun _ => by kernel_rfl)

abbrev kp136p : Nat → Keep := fun _ => { }
theorem ok136p : fnChk env63.P 136 Tryz.f136 1 := by refine ⟨?_, ?_, ?_, ?_⟩ <;> kernel_rfl
def i136p (x0 : Sem (Sh.int IntKind.u8)) : Tr (Empty ⊕ Raw) :=
  Tr.re (AV.bool (bif decide (48 ≤ x0) then decide (x0 ≤ 57) else false)) []
theorem go136p (x0 : Sem (Sh.int IntKind.u8)) : run env63 0 kp136p (Func.results Tryz.f136).toList 400 (bodyOf Tryz.f136) (initSt (Func.ntmps Tryz.f136) [datum (Sh.int IntKind.u8) x0] []) = (i136p x0).map (lf Tryz.f136 e0) := by kernel_rfl
def r3digitO (x0 : Sem (Sh.int IntKind.u8)) : Option (HArgs (List.map some [Sh.bool])) := outT [Sh.bool] t0 100000000 (i136p x0)
def r3digitC (x0 : Sem (Sh.int IntKind.u8)) : Bool := (r3digitO x0).isSome
def r3digit (x0 : Sem (Sh.int IntKind.u8)) : Sem Sh.bool := (fun r : HArgs (List.map some [Sh.bool]) => r.1) ((r3digitO x0).getD (dfltH [Sh.bool]))
def F136p : FSem := plainC [Sh.int IntKind.u8] [Sh.bool] (fun x => r3digitC x.1) fun x => (r3digit x.1, ())
theorem FOk136p : FOk env63.P env63.gl 136 F136p := FOk_T1 (ks := [Sh.int IntKind.u8]) (outs := [Sh.bool]) (keep := kp136p) (gas := 400) (n := 100000000) (e := e0) (t := t0) (i := fun x => i136p x.1) env63_all env63_mix ok136p (fun x => go136p x.1) (on0 _ _ _ _ _) (fun _ => by kernel_rfl) (fun _ => by kernel_rfl)

abbrev kp82p : Nat → Keep := fun j => if j = 2 then { slots := [0, 1, 5] } else { }
inductive H82p where
  | h2 (l0 : LS) (s1 : TS) (i5 : Int)
abbrev e82p : H82p → Nat × St
  | .h2 l0 s1 i5 => (2, ⟨tm 18 [(0, AV.sl Sh.str l0), (1, AV.str s1), (5, AV.int .i64 i5)], []⟩)
theorem ok82p : fnChk env63.P 82 Tryz.f82 2 := by refine ⟨?_, ?_, ?_, ?_⟩ <;> kernel_rfl
def i82p (x0 : Sem Sh.str.sl) (x1 : TS) : Tr (H82p ⊕ Raw) :=
  Tr.to (H82p.h2 x0 x1 0)
def t82p_2 (l0 : LS) (s1 : TS) (i5 : Int) : Tr (H82p ⊕ Raw) :=
  Tr.br (decide (i5 < (↑l0.length : Int)))
  (Tr.chk (inB i5 l0.length) (Tr.br (l0.getD i5.toNat (dflt Sh.str) == s1) (Tr.re (AV.kb true) []) (Tr.to (H82p.h2 l0 s1 (IntKind.i64.wrap (i5 + 1))))))
  (Tr.re (AV.kb false) [])
theorem go82p (x0 : Sem Sh.str.sl) (x1 : TS) : run env63 0 kp82p (Func.results Tryz.f82).toList 400 (bodyOf Tryz.f82) (initSt (Func.ntmps Tryz.f82) [datum Sh.str.sl x0, datum Sh.str x1] []) = (i82p x0 x1).map (lf Tryz.f82 e82p) := by kernel_rfl
def t82p : H82p → Tr (H82p ⊕ Raw)
  | .h2 l0 s1 i5 => t82p_2 l0 s1 i5
theorem on82p : ∀ s, run env63 0 kp82p (Func.results Tryz.f82).toList 400 (headK Tryz.f82 (e82p s).1) (e82p s).2 = (t82p s).map (lf Tryz.f82 e82p)
  | .h2 l0 s1 i5 => by kernel_rfl
def r4inO (x0 : Sem Sh.str.sl) (x1 : TS) : Option (HArgs (List.map some [Sh.bool])) := outT [Sh.bool] t82p 100000000 (i82p x0 x1)
def r4inC (x0 : Sem Sh.str.sl) (x1 : TS) : Bool := (r4inO x0 x1).isSome
def r4in (x0 : Sem Sh.str.sl) (x1 : TS) : Sem Sh.bool := (fun r : HArgs (List.map some [Sh.bool]) => r.1) ((r4inO x0 x1).getD (dfltH [Sh.bool]))
def F82p : FSem := plainC [Sh.str.sl, Sh.str] [Sh.bool] (fun x => r4inC x.1 x.2.1) fun x => (r4in x.1 x.2.1, ())
theorem FOk82p : FOk env63.P env63.gl 82 F82p := FOk_T1 (ks := [Sh.str.sl, Sh.str]) (outs := [Sh.bool]) (keep := kp82p) (gas := 400) (n := 100000000) (e := e82p) (t := t82p) (i := fun x => i82p x.1 x.2.1) env63_all env63_mix ok82p (fun x => go82p x.1 x.2.1) on82p (fun _ => by kernel_rfl) (fun _ => by kernel_rfl)

abbrev kp112p : Nat → Keep := fun _ => { }
theorem ok112p : fnChk env63.P 112 Tryz.f112 2 := by refine ⟨?_, ?_, ?_, ?_⟩ <;> kernel_rfl
def i112pz (y : CSem cpRd) (_ : TS) (a0 : Bool) (a1 : Bool) (_ : Sem shFor) (a3 : Bool) (a4 : Bool) (a5 : Bool) : Tr (Empty ⊕ Raw) :=
  Tr.chk (bif a0 then a1 && bif a3 then a1 else a1 && bif a4 then a1 else true else true)
  (Tr.re (AV.bool (bif a0 then bif a3 then a5 else bif a4 then a5 else false else false)) (cpHeap cpRd y))
def i112p (y : CSem cpRd) (x0 : TS) : Tr (Empty ⊕ Raw) :=
  let a0 := decide (y.2.1 < (↑(List.length y.1) : Int))
  let a1 := inB y.2.1 (List.length y.1)
  let a2 := List.getD y.1 (Int.toNat y.2.1) (dflt shFor)
  let a3 := a2.1 == 1
  let a4 := a2.1 == 4
  let a5 := a2.2 == x0
  i112pz y x0 a0 a1 a2 a3 a4 a5
theorem go112p (y : CSem cpRd) (x0 : TS) : run env63 1 kp112p (Func.results Tryz.f112).toList 400 (bodyOf Tryz.f112) (initSt (Func.ntmps Tryz.f112) [AV.ptr 0 0, datum Sh.str x0] (cpHeap cpRd y)) = (i112p y x0).map (lf Tryz.f112 e0) := by kernel_rfl
def rdSeeO (y : CSem cpRd) (x0 : TS) : Option (HArgs (List.map some [Sh.bool]) × CSem cpRd) := outB [Sh.bool] cpRd t0 100000000 (i112p y x0)
def rdSeeC (y : CSem cpRd) (x0 : TS) : Bool := (rdSeeO y x0).isSome
def rdSee (y : CSem cpRd) (x0 : TS) : (Sem Sh.bool) × CSem cpRd := (fun r : HArgs (List.map some [Sh.bool]) × CSem cpRd => (r.1.1, r.2)) ((rdSeeO y x0).getD (dfltH [Sh.bool], dfltC cpRd))
def F112p : FSem := boxF cpRd [Sh.str] [Sh.bool] cpRd (fun y x => rdSeeC y x.1) fun y x => (((rdSee y x.1).1, ()), (rdSee y x.1).2)
theorem FOk112p : FOk env63.P env63.gl 112 F112p := FOk_B1 (ps := cpRd) (ks := [Sh.str]) (outs := [Sh.bool]) (keep := kp112p) (gas := 400) (n := 100000000) (e := e0) (t := t0) (i := fun y x => i112p y x.1) env63_all env63_mix ok112p (fun y x => go112p y x.1) (on0 _ _ _ _ _) (fun _ _ => by kernel_rfl) (fun _ _ => by kernel_rfl)

abbrev kp77p : Nat → Keep := fun j => if j = 4 then { slots := [2, 3, 5] } else { }
inductive H77p where
  | h4 (i5 : Int) (ja0 : Str) (ja1 : Int) (ja2 : Int) (ja3 : Str) (ja4 : Str) (ja5 : LX) (jb0 : Str) (jb1 : Int) (jb2 : Int) (jb3 : Str) (jb4 : Str) (jb5 : LX)
abbrev e77p : H77p → Nat × St
  | .h4 i5 ja0 ja1 ja2 ja3 ja4 ja5 jb0 jb1 jb2 jb3 jb4 jb5 => (4, ⟨tm 53 [(2, AV.ptr 0 0), (3, AV.ptr 1 0), (5, AV.int .i64 i5)], [AO.box [AV.str ja0, AV.int .i64 ja1, AV.int .i64 ja2, AV.str ja3, AV.str ja4, AV.sl Sh.expr ja5], AO.box [AV.str jb0, AV.int .i64 jb1, AV.int .i64 jb2, AV.str jb3, AV.str jb4, AV.sl Sh.expr jb5]]⟩)
theorem ok77p : fnChk env63.P 77 Tryz.f77 2 := by refine ⟨?_, ?_, ?_, ?_⟩ <;> kernel_rfl
def i77p (x0 : Sem Sh.expr) (x1 : Sem Sh.expr) : Tr (H77p ⊕ Raw) :=
  Tr.br
  (bif !ExprT.op x0 == ExprT.op x1 then true
  else
    bif !((ExprT.v x0).1 == (ExprT.v x1).1 && ((ExprT.v x0).2.1 == (ExprT.v x1).2.1 && ((ExprT.v x0).2.2 == (ExprT.v x1).2.2 && true))) then true
    else bif !ExprT.s x0 == ExprT.s x1 then true else (↑(ExprT.l x0).length : Int) != (↑(ExprT.l x1).length : Int))
  (Tr.re (AV.kb false) [])
  (Tr.to
    (H77p.h4 0 (ExprT.op x0) (ExprT.v x0).1 (ExprT.v x0).2.1 (ExprT.v x0).2.2 (ExprT.s x0) (ExprT.l x0) (ExprT.op x1) (ExprT.v x1).1 (ExprT.v x1).2.1 (ExprT.v x1).2.2 (ExprT.s x1) (ExprT.l x1)))
def t77p_4 (i5 : Int) (_ : Str) (_ : Int) (_ : Int) (_ : Str) (_ : Str) (ja5 : LX) (_ : Str) (_ : Int) (_ : Int) (_ : Str) (_ : Str) (jb5 : LX) : Tr (H77p ⊕ Raw) :=
  Tr.br (decide (i5 < (↑ja5.length : Int))) (Tr.chk (inB i5 ja5.length) (Tr.chk (inB i5 jb5.length) Tr.err)) (Tr.re (AV.kb true) [])
theorem go77p (x0 : Sem Sh.expr) (x1 : Sem Sh.expr) : run env63 0 kp77p (Func.results Tryz.f77).toList 400 (bodyOf Tryz.f77) (initSt (Func.ntmps Tryz.f77) [datum Sh.expr x0, datum Sh.expr x1] []) = (i77p x0 x1).map (lf Tryz.f77 e77p) := by kernel_rfl
def t77p : H77p → Tr (H77p ⊕ Raw)
  | .h4 i5 ja0 ja1 ja2 ja3 ja4 ja5 jb0 jb1 jb2 jb3 jb4 jb5 => t77p_4 i5 ja0 ja1 ja2 ja3 ja4 ja5 jb0 jb1 jb2 jb3 jb4 jb5
theorem on77p : ∀ s, run env63 0 kp77p (Func.results Tryz.f77).toList 400 (headK Tryz.f77 (e77p s).1) (e77p s).2 = (t77p s).map (lf Tryz.f77 e77p)
  | .h4 i5 ja0 ja1 ja2 ja3 ja4 ja5 jb0 jb1 jb2 jb3 jb4 jb5 => by kernel_rfl
def r4SameO (x0 : Sem Sh.expr) (x1 : Sem Sh.expr) : Option (HArgs (List.map some [Sh.bool])) := outT [Sh.bool] t77p 100000000 (i77p x0 x1)
def r4SameC (x0 : Sem Sh.expr) (x1 : Sem Sh.expr) : Bool := (r4SameO x0 x1).isSome
def r4Same (x0 : Sem Sh.expr) (x1 : Sem Sh.expr) : Sem Sh.bool := (fun r : HArgs (List.map some [Sh.bool]) => r.1) ((r4SameO x0 x1).getD (dfltH [Sh.bool]))
def F77p : FSem := plainC [Sh.expr, Sh.expr] [Sh.bool] (fun x => r4SameC x.1 x.2.1) fun x => (r4Same x.1 x.2.1, ())
theorem FOk77p : FOk env63.P env63.gl 77 F77p := FOk_T1 (ks := [Sh.expr, Sh.expr]) (outs := [Sh.bool]) (keep := kp77p) (gas := 400) (n := 100000000) (e := e77p) (t := t77p) (i := fun x => i77p x.1 x.2.1) env63_all env63_mix ok77p (fun x => go77p x.1 x.2.1) on77p (fun _ => by kernel_rfl) (fun _ => by kernel_rfl)

def env72 : Env := (((((env63.add 134 F134p).add 136 F136p).add 82 F82p).add 112 F112p).add 77 F77p)
theorem env72_all : EnvAll env72 := (EnvAll.addS (EnvAll.addS (EnvAll.addS (EnvAll.addS (EnvAll.addS env63_all (SameE.refl env63) FOk134p) ((SameE.refl env63).add _ _) FOk136p) (((SameE.refl env63).add _ _).add _ _) FOk82p) ((((SameE.refl env63).add _ _).add _ _).add _ _) FOk112p) (((((SameE.refl env63).add _ _).add _ _).add _ _).add _ _) FOk77p)
theorem env72_mix : env72.P.follows .mixedOrders = true := (mix_add (mix_add (mix_add (mix_add (mix_add env63_mix _ _) _ _) _ _) _ _) _ _)
end
open Go Go.Proofs
noncomputable section
set_option maxHeartbeats 4000000

abbrev kp135p : Nat → Keep := fun _ => { }
theorem ok135p : fnChk env72.P 135 Tryz.f135 1 := by refine ⟨?_, ?_, ?_, ?_⟩ <;> kernel_rfl
def i135p (x0 : Sem (Sh.int IntKind.u8)) : Tr (Empty ⊕ Raw) :=
  Tr.chk (r3digitC x0 && bif r3digit x0 then true else r3letterC x0) (Tr.re (AV.bool (bif r3digit x0 then true else bif r3letter x0 then true else x0 == 95)) [])
theorem go135p (x0 : Sem (Sh.int IntKind.u8)) : run env72 0 kp135p (Func.results Tryz.f135).toList 400 (bodyOf Tryz.f135) (initSt (Func.ntmps Tryz.f135) [datum (Sh.int IntKind.u8) x0] []) = (i135p x0).map (lf Tryz.f135 e0) := by kernel_rfl
def r3partO (x0 : Sem (Sh.int IntKind.u8)) : Option (HArgs (List.map some [Sh.bool])) := outT [Sh.bool] t0 100000000 (i135p x0)
def r3partC (x0 : Sem (Sh.int IntKind.u8)) : Bool := (r3partO x0).isSome
def r3part (x0 : Sem (Sh.int IntKind.u8)) : Sem Sh.bool := (fun r : HArgs (List.map some [Sh.bool]) => r.1) ((r3partO x0).getD (dfltH [Sh.bool]))
def F135p : FSem := plainC [Sh.int IntKind.u8] [Sh.bool] (fun x => r3partC x.1) fun x => (r3part x.1, ())
theorem FOk135p : FOk env72.P env72.gl 135 F135p := FOk_T1 (ks := [Sh.int IntKind.u8]) (outs := [Sh.bool]) (keep := kp135p) (gas := 400) (n := 100000000) (e := e0) (t := t0) (i := fun x => i135p x.1) env72_all env72_mix ok135p (fun x => go135p x.1) (on0 _ _ _ _ _) (fun _ => by kernel_rfl) (fun _ => by kernel_rfl)

abbrev kp133p : Nat → Keep := fun j => if j = 3 then { slots := [0, 3, 4] } else { }
inductive H133p where
  | h3 (s0 : TS) (l3 : LS) (i4 : Int)
abbrev e133p : H133p → Nat × St
  | .h3 s0 l3 i4 => (3, ⟨tm 18 [(0, AV.str s0), (3, AV.sl Sh.str l3), (4, AV.int .i64 i4)], []⟩)
theorem ok133p : fnChk env72.P 133 Tryz.f133 1 := by refine ⟨?_, ?_, ?_, ?_⟩ <;> kernel_rfl
def i133p (x0 : TS) : Tr (H133p ⊕ Raw) :=
  Tr.to
  (H133p.h3 x0
    [[65, 78, 68], [79, 82], [78, 79, 84], [73, 83], [78, 85, 76, 76], [84, 82, 85, 69], [70, 65, 76, 83, 69], [67, 82, 69, 65, 84, 69], [84, 65, 66, 76, 69], [75, 69, 89], [85, 78, 73, 81, 85, 69], [82, 69, 70, 69, 82, 69, 78, 67, 69, 83], [67, 72, 69, 67, 75], [68, 82, 79, 80], [73, 78, 83, 69, 82, 84],
    [73, 78, 84, 79], [86, 65, 76, 85, 69, 83], [85, 80, 68, 65, 84, 69], [83, 69, 84], [87, 72, 69, 82, 69], [68, 69, 76, 69, 84, 69], [70, 82, 79, 77], [83, 69, 76, 69, 67, 84], [71, 82, 65, 78, 84], [82, 69, 86, 79, 75, 69], [82, 69, 65, 68], [87, 82, 73, 84, 69], [79, 78], [84, 79],
    [77, 73, 71, 82, 65, 84, 69], [67, 79, 80, 89], [74, 79, 73, 78], [71, 82, 79, 85, 80], [66, 89], [83, 85, 77], [73, 78, 84], [84, 69, 88, 84], [66, 79, 79, 76]]
    0)
def t133p_3 (s0 : TS) (l3 : LS) (i4 : Int) : Tr (H133p ⊕ Raw) :=
  Tr.br (decide (i4 < (↑l3.length : Int)))
  (Tr.chk (inB i4 l3.length) (Tr.br (l3.getD i4.toNat (dflt Sh.str) == s0) (Tr.re (AV.kb true) []) (Tr.to (H133p.h3 s0 l3 (IntKind.i64.wrap (i4 + 1))))))
  (Tr.re (AV.kb false) [])
theorem go133p (x0 : TS) : run env72 0 kp133p (Func.results Tryz.f133).toList 400 (bodyOf Tryz.f133) (initSt (Func.ntmps Tryz.f133) [datum Sh.str x0] []) = (i133p x0).map (lf Tryz.f133 e133p) := by kernel_rfl
def t133p : H133p → Tr (H133p ⊕ Raw)
  | .h3 s0 l3 i4 => t133p_3 s0 l3 i4
theorem on133p : ∀ s, run env72 0 kp133p (Func.results Tryz.f133).toList 400 (headK Tryz.f133 (e133p s).1) (e133p s).2 = (t133p s).map (lf Tryz.f133 e133p)
  | .h3 s0 l3 i4 => by kernel_rfl
def r4ResO (x0 : TS) : Option (HArgs (List.map some [Sh.bool])) := outT [Sh.bool] t133p 100000000 (i133p x0)
def r4ResC (x0 : TS) : Bool := (r4ResO x0).isSome
def r4Res (x0 : TS) : Sem Sh.bool := (fun r : HArgs (List.map some [Sh.bool]) => r.1) ((r4ResO x0).getD (dfltH [Sh.bool]))
def F133p : FSem := plainC [Sh.str] [Sh.bool] (fun x => r4ResC x.1) fun x => (r4Res x.1, ())
theorem FOk133p : FOk env72.P env72.gl 133 F133p := FOk_T1 (ks := [Sh.str]) (outs := [Sh.bool]) (keep := kp133p) (gas := 400) (n := 100000000) (e := e133p) (t := t133p) (i := fun x => i133p x.1) env72_all env72_mix ok133p (fun x => go133p x.1) on133p (fun _ => by kernel_rfl) (fun _ => by kernel_rfl)

abbrev kp105p : Nat → Keep := fun _ => { }
theorem ok105p : fnChk env72.P 105 Tryz.f105 2 := by refine ⟨?_, ?_, ?_, ?_⟩ <;> kernel_rfl
def i105pz (_ : CSem cpRd) (x0 : TS) (a0 : Sem shFor.sl × CSem [CP.d shInt, CP.d Sh.bool]) (a1 : Sem Sh.bool × CSem cpRd) : Tr (Empty ⊕ Raw) :=
  Tr.chk (rdSeeC a0 x0)
  (Tr.br a1.1 (Tr.re (AV.kb true) (cpHeap cpRd (a1.2.1, IntKind.i64.wrap (a1.2.2.1 + 1), a1.2.2.2)))
    (Tr.re (AV.kb false) (cpHeap cpRd a1.2)))
def i105p (y : CSem cpRd) (x0 : TS) : Tr (Empty ⊕ Raw) :=
  let a0 := (y.1, y.2.1, y.2.2.1, ())
  let a1 := rdSee a0 x0
  i105pz y x0 a0 a1
theorem go105p (y : CSem cpRd) (x0 : TS) : run env72 1 kp105p (Func.results Tryz.f105).toList 400 (bodyOf Tryz.f105) (initSt (Func.ntmps Tryz.f105) [AV.ptr 0 0, datum Sh.str x0] (cpHeap cpRd y)) = (i105p y x0).map (lf Tryz.f105 e0) := by kernel_rfl
def rdPassO (y : CSem cpRd) (x0 : TS) : Option (HArgs (List.map some [Sh.bool]) × CSem cpRd) := outB [Sh.bool] cpRd t0 100000000 (i105p y x0)
def rdPassC (y : CSem cpRd) (x0 : TS) : Bool := (rdPassO y x0).isSome
def rdPass (y : CSem cpRd) (x0 : TS) : (Sem Sh.bool) × CSem cpRd := (fun r : HArgs (List.map some [Sh.bool]) × CSem cpRd => (r.1.1, r.2)) ((rdPassO y x0).getD (dfltH [Sh.bool], dfltC cpRd))
def F105p : FSem := boxF cpRd [Sh.str] [Sh.bool] cpRd (fun y x => rdPassC y x.1) fun y x => (((rdPass y x.1).1, ()), (rdPass y x.1).2)
theorem FOk105p : FOk env72.P env72.gl 105 F105p := FOk_B1 (ps := cpRd) (ks := [Sh.str]) (outs := [Sh.bool]) (keep := kp105p) (gas := 400) (n := 100000000) (e := e0) (t := t0) (i := fun y x => i105p y x.1) env72_all env72_mix ok105p (fun y x => go105p y x.1) (on0 _ _ _ _ _) (fun _ _ => by kernel_rfl) (fun _ _ => by kernel_rfl)

abbrev kp80p : Nat → Keep := fun j => if j = 6 then { slots := [2, 3, 5] } else if j = 11 then { slots := [2, 3, 6] } else if j = 16 then { slots := [2, 3, 7] } else if j = 21 then { slots := [2, 3, 8] } else if j = 26 then { slots := [2, 3, 9] } else if j = 31 then { slots := [2, 3, 10] } else { }
inductive H80p where
  | h6 (i5 : Int) (z0 : CSem cpS) (z1 : CSem cpS)
  | h11 (i6 : Int) (z0 : CSem cpS) (z1 : CSem cpS)
  | h16 (i7 : Int) (z0 : CSem cpS) (z1 : CSem cpS)
  | h21 (i8 : Int) (z0 : CSem cpS) (z1 : CSem cpS)
  | h26 (i9 : Int) (z0 : CSem cpS) (z1 : CSem cpS)
  | h31 (i10 : Int) (z0 : CSem cpS) (z1 : CSem cpS)
abbrev e80p : H80p → Nat × St
  | .h6 i5 z0 z1 => (6, ⟨tm 238 [(2, AV.ptr 0 0), (3, AV.ptr 1 0), (5, AV.int .i64 i5)], [AO.box (cpN [] cpS z0), AO.box (cpN [] cpS z1)]⟩)
  | .h11 i6 z0 z1 => (11, ⟨tm 238 [(2, AV.ptr 0 0), (3, AV.ptr 1 0), (6, AV.int .i64 i6)], [AO.box (cpN [] cpS z0), AO.box (cpN [] cpS z1)]⟩)
  | .h16 i7 z0 z1 => (16, ⟨tm 238 [(2, AV.ptr 0 0), (3, AV.ptr 1 0), (7, AV.int .i64 i7)], [AO.box (cpN [] cpS z0), AO.box (cpN [] cpS z1)]⟩)
  | .h21 i8 z0 z1 => (21, ⟨tm 238 [(2, AV.ptr 0 0), (3, AV.ptr 1 0), (8, AV.int .i64 i8)], [AO.box (cpN [] cpS z0), AO.box (cpN [] cpS z1)]⟩)
  | .h26 i9 z0 z1 => (26, ⟨tm 238 [(2, AV.ptr 0 0), (3, AV.ptr 1 0), (9, AV.int .i64 i9)], [AO.box (cpN [] cpS z0), AO.box (cpN [] cpS z1)]⟩)
  | .h31 i10 z0 z1 => (31, ⟨tm 238 [(2, AV.ptr 0 0), (3, AV.ptr 1 0), (10, AV.int .i64 i10)], [AO.box (cpN [] cpS z0), AO.box (cpN [] cpS z1)]⟩)
theorem ok80p : fnChk env72.P 80 Tryz.f80 2 := by refine ⟨?_, ?_, ?_, ?_⟩ <;> kernel_rfl
def i80pz (x0 : Sem shStmt) (x1 : Sem shStmt) (a0 : Bool) (a1 : Bool) (a2 : Bool) (a3 : Bool) (a4 : Bool) (a5 : ExprT) (a6 : ExprT) (a7 : Bool) (a8 : ExprT) (a9 : ExprT) : Tr (H80p ⊕ Raw) :=
  Tr.chk
  (bif a0 then true
  else bif a1 then true else bif a2 then true else bif a3 then true else bif a4 then true else r4SameC a5 a6 && bif a7 then true else r4SameC a8 a9)
  (Tr.br (bif a0 then true else bif a1 then true else bif a2 then true else bif a3 then true else bif a4 then true else bif a7 then true else !r4Same a8 a9)
    (Tr.re (AV.kb false) [])
    (Tr.br (bif (↑(List.length x0.2.2.2.1) : Int) != (↑(List.length x1.2.2.2.1) : Int) then true else bif (↑(List.length x0.2.2.2.2.1) : Int) != (↑(List.length x1.2.2.2.2.1) : Int) then true else bif (↑(List.length x0.2.2.2.2.2.2.1) : Int) != (↑(List.length x1.2.2.2.2.2.2.1) : Int) then true else bif (↑(List.length x0.2.2.2.2.2.2.2.1) : Int) != (↑(List.length x1.2.2.2.2.2.2.2.1) : Int) then true
    else bif (↑(List.length x0.2.2.2.2.2.2.2.2.2.1) : Int) != (↑(List.length x1.2.2.2.2.2.2.2.2.2.1) : Int) then true else (↑(List.length x0.2.2.2.2.2.2.2.2.2.2.1) : Int) != (↑(List.length x1.2.2.2.2.2.2.2.2.2.2.1) : Int)) (Tr.re (AV.kb false) []) (Tr.to (H80p.h6 0 (x0, ()) (x1, ())))))
def i80p (x0 : Sem shStmt) (x1 : Sem shStmt) : Tr (H80p ⊕ Raw) :=
  let a0 := !x0.1 == x1.1
  let a1 := !x0.2.1 == x1.2.1
  let a2 := !x0.2.2.1 == x1.2.2.1
  let a3 := !x0.2.2.2.2.2.1 == x1.2.2.2.2.2.1
  let a4 := !x0.2.2.2.2.2.2.2.2.2.2.2.2 == x1.2.2.2.2.2.2.2.2.2.2.2.2
  let a5 := etaE x0.2.2.2.2.2.2.2.2.1
  let a6 := etaE x1.2.2.2.2.2.2.2.2.1
  let a7 := !r4Same a5 a6
  let a8 := etaE x0.2.2.2.2.2.2.2.2.2.2.2.1
  let a9 := etaE x1.2.2.2.2.2.2.2.2.2.2.2.1
  i80pz x0 x1 a0 a1 a2 a3 a4 a5 a6 a7 a8 a9
def t80p_6z (i5 : Int) (z0 : CSem cpS) (z1 : CSem cpS) (a0 : Int) : Tr (H80p ⊕ Raw) :=
  Tr.br (decide (i5 < a0))
  (Tr.chk (inB i5 (List.length z0.1.2.2.2.1))
    (Tr.chk (inB i5 (List.length z1.1.2.2.2.1)) (Tr.br (!List.getD z0.1.2.2.2.1 i5.toNat (dflt Sh.str) == List.getD z1.1.2.2.2.1 i5.toNat (dflt Sh.str)) (Tr.re (AV.kb false) []) (Tr.to (H80p.h6 (IntKind.i64.wrap (i5 + 1)) z0 z1)))))
  (Tr.to (H80p.h11 0 z0 z1))
def t80p_6 (i5 : Int) (z0 : CSem cpS) (z1 : CSem cpS) : Tr (H80p ⊕ Raw) :=
  let a0 := (↑(List.length z0.1.2.2.2.1) : Int)
  t80p_6z i5 z0 z1 a0
def t80p_11z (i6 : Int) (z0 : CSem cpS) (z1 : CSem cpS) (a0 : Int) (a1 : Sem shCol) (a2 : Sem shCol) : Tr (H80p ⊕ Raw) :=
  Tr.br (decide (i6 < a0))
  (Tr.chk (inB i6 (List.length z0.1.2.2.2.2.1))
    (Tr.chk (inB i6 (List.length z1.1.2.2.2.2.1)) (Tr.br (!(a1.1 == a2.1 && (a1.2.1 == a2.2.1 && (a1.2.2 == a2.2.2 && true)))) (Tr.re (AV.kb false) []) (Tr.to (H80p.h11 (IntKind.i64.wrap (i6 + 1)) z0 z1)))))
  (Tr.to (H80p.h16 0 z0 z1))
def t80p_11 (i6 : Int) (z0 : CSem cpS) (z1 : CSem cpS) : Tr (H80p ⊕ Raw) :=
  let a0 := (↑(List.length z0.1.2.2.2.2.1) : Int)
  let a1 := List.getD z0.1.2.2.2.2.1 i6.toNat (dflt shCol)
  let a2 := List.getD z1.1.2.2.2.2.1 i6.toNat (dflt shCol)
  t80p_11z i6 z0 z1 a0 a1 a2
def t80p_16z (i7 : Int) (z0 : CSem cpS) (z1 : CSem cpS) (a0 : Int) : Tr (H80p ⊕ Raw) :=
  Tr.br (decide (i7 < a0))
  (Tr.chk (inB i7 (List.length z0.1.2.2.2.2.2.2.1))
    (Tr.chk (inB i7 (List.length z1.1.2.2.2.2.2.2.1)) (Tr.br (!List.getD z0.1.2.2.2.2.2.2.1 i7.toNat (dflt Sh.str) == List.getD z1.1.2.2.2.2.2.2.1 i7.toNat (dflt Sh.str)) (Tr.re (AV.kb false) []) (Tr.to (H80p.h16 (IntKind.i64.wrap (i7 + 1)) z0 z1)))))
  (Tr.to (H80p.h21 0 z0 z1))
def t80p_16 (i7 : Int) (z0 : CSem cpS) (z1 : CSem cpS) : Tr (H80p ⊕ Raw) :=
  let a0 := (↑(List.length z0.1.2.2.2.2.2.2.1) : Int)
  t80p_16z i7 z0 z1 a0
def t80p_21z (i8 : Int) (z0 : CSem cpS) (z1 : CSem cpS) (a0 : Int) (a1 : Sem shRef) (a2 : Sem shRef) : Tr (H80p ⊕ Raw) :=
  Tr.br (decide (i8 < a0))
  (Tr.chk (inB i8 (List.length z0.1.2.2.2.2.2.2.2.1))
    (Tr.chk (inB i8 (List.length z1.1.2.2.2.2.2.2.2.1)) (Tr.br (!(a1.1 == a2.1 && (a1.2 == a2.2 && true))) (Tr.re (AV.kb false) []) (Tr.to (H80p.h21 (IntKind.i64.wrap (i8 + 1)) z0 z1)))))
  (Tr.to (H80p.h26 0 z0 z1))
def t80p_21 (i8 : Int) (z0 : CSem cpS) (z1 : CSem cpS) : Tr (H80p ⊕ Raw) :=
  let a0 := (↑(List.length z0.1.2.2.2.2.2.2.2.1) : Int)
  let a1 := List.getD z0.1.2.2.2.2.2.2.2.1 i8.toNat (dflt shRef)
  let a2 := List.getD z1.1.2.2.2.2.2.2.2.1 i8.toNat (dflt shRef)
  t80p_21z i8 z0 z1 a0 a1 a2
def t80p_26z (i9 : Int) (z0 : CSem cpS) (z1 : CSem cpS) (a0 : Int) (a1 : Sem shVal) (a2 : Sem shVal) : Tr (H80p ⊕ Raw) :=
  Tr.br (decide (i9 < a0))
  (Tr.chk (inB i9 (List.length z0.1.2.2.2.2.2.2.2.2.2.1))
    (Tr.chk (inB i9 (List.length z1.1.2.2.2.2.2.2.2.2.2.1)) (Tr.br (!(a1.1 == a2.1 && (a1.2.1 == a2.2.1 && (a1.2.2 == a2.2.2 && true)))) (Tr.re (AV.kb false) []) (Tr.to (H80p.h26 (IntKind.i64.wrap (i9 + 1)) z0 z1)))))
  (Tr.to (H80p.h31 0 z0 z1))
def t80p_26 (i9 : Int) (z0 : CSem cpS) (z1 : CSem cpS) : Tr (H80p ⊕ Raw) :=
  let a0 := (↑(List.length z0.1.2.2.2.2.2.2.2.2.2.1) : Int)
  let a1 := List.getD z0.1.2.2.2.2.2.2.2.2.2.1 i9.toNat (dflt shVal)
  let a2 := List.getD z1.1.2.2.2.2.2.2.2.2.2.1 i9.toNat (dflt shVal)
  t80p_26z i9 z0 z1 a0 a1 a2
def t80p_31z (i10 : Int) (z0 : CSem cpS) (z1 : CSem cpS) (a0 : Int) (a1 : Bool) (a2 : Bool) (_ : Sem shSet) (_ : Sem shSet) (a5 : Bool) (a6 : ExprT) (a7 : ExprT) : Tr (H80p ⊕ Raw) :=
  Tr.br (decide (i10 < a0))
  (Tr.chk (a1 && (a2 && bif a5 then true else a1 && (a2 && r4SameC a6 a7)))
    (Tr.br (bif a5 then true else !r4Same a6 a7) (Tr.re (AV.kb false) []) (Tr.to (H80p.h31 (IntKind.i64.wrap (i10 + 1)) z0 z1))))
  (Tr.re (AV.kb true) [])
def t80p_31 (i10 : Int) (z0 : CSem cpS) (z1 : CSem cpS) : Tr (H80p ⊕ Raw) :=
  let a0 := (↑(List.length z0.1.2.2.2.2.2.2.2.2.2.2.1) : Int)
  let a1 := inB i10 (List.length z0.1.2.2.2.2.2.2.2.2.2.2.1)
  let a2 := inB i10 (List.length z1.1.2.2.2.2.2.2.2.2.2.2.1)
  let a3 := List.getD z0.1.2.2.2.2.2.2.2.2.2.2.1 i10.toNat (dflt shSet)
  let a4 := List.getD z1.1.2.2.2.2.2.2.2.2.2.2.1 i10.toNat (dflt shSet)
  let a5 := !a3.1 == a4.1
  let a6 := etaE a3.2
  let a7 := etaE a4.2
  t80p_31z i10 z0 z1 a0 a1 a2 a3 a4 a5 a6 a7
theorem go80p (x0 : Sem shStmt) (x1 : Sem shStmt) : run env72 0 kp80p (Func.results Tryz.f80).toList 400 (bodyOf Tryz.f80) (initSt (Func.ntmps Tryz.f80) [datum shStmt x0, datum shStmt x1] []) = (i80p x0 x1).map (lf Tryz.f80 e80p) := by kernel_rfl
def t80p : H80p → Tr (H80p ⊕ Raw)
  | .h6 i5 z0 z1 => t80p_6 i5 z0 z1
  | .h11 i6 z0 z1 => t80p_11 i6 z0 z1
  | .h16 i7 z0 z1 => t80p_16 i7 z0 z1
  | .h21 i8 z0 z1 => t80p_21 i8 z0 z1
  | .h26 i9 z0 z1 => t80p_26 i9 z0 z1
  | .h31 i10 z0 z1 => t80p_31 i10 z0 z1
theorem on80p : ∀ s, run env72 0 kp80p (Func.results Tryz.f80).toList 400 (headK Tryz.f80 (e80p s).1) (e80p s).2 = (t80p s).map (lf Tryz.f80 e80p)
  | .h6 i5 z0 z1 => by kernel_rfl
  | .h11 i6 z0 z1 => by kernel_rfl
  | .h16 i7 z0 z1 => by kernel_rfl
  | .h21 i8 z0 z1 => by kernel_rfl
  | .h26 i9 z0 z1 => by kernel_rfl
  | .h31 i10 z0 z1 => by kernel_rfl
def r5SameO (x0 : Sem shStmt) (x1 : Sem shStmt) : Option (HArgs (List.map some [Sh.bool])) := outT [Sh.bool] t80p 100000000 (i80p x0 x1)
def r5SameC (x0 : Sem shStmt) (x1 : Sem shStmt) : Bool := (r5SameO x0 x1).isSome
def r5Same (x0 : Sem shStmt) (x1 : Sem shStmt) : Sem Sh.bool := (fun r : HArgs (List.map some [Sh.bool]) => r.1) ((r5SameO x0 x1).getD (dfltH [Sh.bool]))
def F80p : FSem := plainC [shStmt, shStmt] [Sh.bool] (fun x => r5SameC x.1 x.2.1) fun x => (r5Same x.1 x.2.1, ())
theorem FOk80p : FOk env72.P env72.gl 80 F80p := FOk_T1 (ks := [shStmt, shStmt]) (outs := [Sh.bool]) (keep := kp80p) (gas := 400) (n := 100000000) (e := e80p) (t := t80p) (i := fun x => i80p x.1 x.2.1) env72_all env72_mix ok80p (fun x => go80p x.1 x.2.1) on80p (fun _ => by kernel_rfl) (fun _ => by kernel_rfl)

def env73 : Env := ((((env72.add 135 F135p).add 133 F133p).add 105 F105p).add 80 F80p)
theorem env73_all : EnvAll env73 := (EnvAll.addS (EnvAll.addS (EnvAll.addS (EnvAll.addS env72_all (SameE.refl env72) FOk135p) ((SameE.refl env72).add _ _) FOk133p) (((SameE.refl env72).add _ _).add _ _) FOk105p) ((((SameE.refl env72).add _ _).add _ _).add _ _) FOk80p)
theorem env73_mix : env73.P.follows .mixedOrders = true := (mix_add (mix_add (mix_add (mix_add env72_mix _ _) _ _) _ _) _ _)
end
open Go Go.Proofs
noncomputable section
set_option maxHeartbeats 4000000

abbrev kp132p : Nat → Keep := fun j => if j = 2 then { slots := [0, 3] } else { }
inductive H132p where
  | h2 (s0 : TS) (i3 : Int)
abbrev e132p : H132p → Nat × St
  | .h2 s0 i3 => (2, ⟨tm 28 [(0, AV.str s0), (3, AV.int .i64 i3)], []⟩)
theorem ok132p : fnChk env73.P 132 Tryz.f132 1 := by refine ⟨?_, ?_, ?_, ?_⟩ <;> kernel_rfl
def i132p (x0 : TS) : Tr (H132p ⊕ Raw) :=
  Tr.to (H132p.h2 x0 0)
def t132p_2z (s0 : TS) (i3 : Int) (a0 : Int) (a1 : Bool) (a2 : Bool) (a3 : Int) : Tr (H132p ⊕ Raw) :=
  Tr.br (decide (i3 < (↑(List.length s0) : Int)))
  (Tr.chk (inB i3 (List.length s0)) (Tr.chk (r3partC a0) (Tr.br (!r3part a0) (Tr.re (AV.kb false) []) (Tr.to (H132p.h2 s0 (IntKind.i64.wrap (i3 + 1)))))))
  (Tr.chk (bif a1 then bif a2 then inB 0 (List.length s0) && r3letterC a3 else true else true)
    (Tr.re (AV.bool (bif a1 then bif a2 then r3letter a3 else false else false)) []))
def t132p_2 (s0 : TS) (i3 : Int) : Tr (H132p ⊕ Raw) :=
  let a0 := (↑(List.getD s0 i3.toNat 0).toNat : Int)
  let a1 := decide (1 ≤ (↑(List.length s0) : Int))
  let a2 := decide ((↑(List.length s0) : Int) ≤ 16)
  let a3 := (↑(List.getD s0 (Int.toNat 0) 0).toNat : Int)
  t132p_2z s0 i3 a0 a1 a2 a3
theorem go132p (x0 : TS) : run env73 0 kp132p (Func.results Tryz.f132).toList 400 (bodyOf Tryz.f132) (initSt (Func.ntmps Tryz.f132) [datum Sh.str x0] []) = (i132p x0).map (lf Tryz.f132 e132p) := by kernel_rfl
def t132p : H132p → Tr (H132p ⊕ Raw)
  | .h2 s0 i3 => t132p_2 s0 i3
theorem on132p : ∀ s, run env73 0 kp132p (Func.results Tryz.f132).toList 400 (headK Tryz.f132 (e132p s).1) (e132p s).2 = (t132p s).map (lf Tryz.f132 e132p)
  | .h2 s0 i3 => by kernel_rfl
def r3NameO (x0 : TS) : Option (HArgs (List.map some [Sh.bool])) := outT [Sh.bool] t132p 100000000 (i132p x0)
def r3NameC (x0 : TS) : Bool := (r3NameO x0).isSome
def r3Name (x0 : TS) : Sem Sh.bool := (fun r : HArgs (List.map some [Sh.bool]) => r.1) ((r3NameO x0).getD (dfltH [Sh.bool]))
def F132p : FSem := plainC [Sh.str] [Sh.bool] (fun x => r3NameC x.1) fun x => (r3Name x.1, ())
theorem FOk132p : FOk env73.P env73.gl 132 F132p := FOk_T1 (ks := [Sh.str]) (outs := [Sh.bool]) (keep := kp132p) (gas := 400) (n := 100000000) (e := e132p) (t := t132p) (i := fun x => i132p x.1) env73_all env73_mix ok132p (fun x => go132p x.1) on132p (fun _ => by kernel_rfl) (fun _ => by kernel_rfl)

abbrev kp107p : Nat → Keep := fun _ => { }
theorem ok107p : fnChk env73.P 107 Tryz.f107 2 := by refine ⟨?_, ?_, ?_, ?_⟩ <;> kernel_rfl
def i107pz (_ : CSem cpRd) (x0 : TS) (a0 : Sem shFor.sl × CSem [CP.d shInt, CP.d Sh.bool]) (a1 : Sem Sh.bool × CSem cpRd) : Tr (Empty ⊕ Raw) :=
  Tr.chk (rdPassC a0 x0)
  (Tr.br (!a1.1) (Tr.re (AV.tup []) [AO.box [AV.sl shFor a1.2.1, AV.int .i64 a1.2.2.1, AV.kb false]])
    (Tr.re (AV.tup []) (cpHeap cpRd a1.2)))
def i107p (y : CSem cpRd) (x0 : TS) : Tr (Empty ⊕ Raw) :=
  let a0 := (y.1, y.2.1, y.2.2.1, ())
  let a1 := rdPass a0 x0
  i107pz y x0 a0 a1
theorem go107p (y : CSem cpRd) (x0 : TS) : run env73 1 kp107p (Func.results Tryz.f107).toList 400 (bodyOf Tryz.f107) (initSt (Func.ntmps Tryz.f107) [AV.ptr 0 0, datum Sh.str x0] (cpHeap cpRd y)) = (i107p y x0).map (lf Tryz.f107 e0) := by kernel_rfl
def rdMustO (y : CSem cpRd) (x0 : TS) : Option (HArgs (List.map some []) × CSem cpRd) := outB [] cpRd t0 100000000 (i107p y x0)
def rdMustC (y : CSem cpRd) (x0 : TS) : Bool := (rdMustO y x0).isSome
def rdMust (y : CSem cpRd) (x0 : TS) : CSem cpRd := (fun r : HArgs (List.map some []) × CSem cpRd => r.2) ((rdMustO y x0).getD (dfltH [], dfltC cpRd))
def F107p : FSem := boxF cpRd [Sh.str] [] cpRd (fun y x => rdMustC y x.1) fun y x => ((), rdMust y x.1)
theorem FOk107p : FOk env73.P env73.gl 107 F107p := FOk_B1 (ps := cpRd) (ks := [Sh.str]) (outs := []) (keep := kp107p) (gas := 400) (n := 100000000) (e := e0) (t := t0) (i := fun y x => i107p y x.1) env73_all env73_mix ok107p (fun y x => go107p y x.1) (on0 _ _ _ _ _) (fun _ _ => by kernel_rfl) (fun _ _ => by kernel_rfl)

abbrev kp108p : Nat → Keep := fun _ => { }
theorem ok108p : fnChk env73.P 108 Tryz.f108 1 := by refine ⟨?_, ?_, ?_, ?_⟩ <;> kernel_rfl
def i108pz (y : CSem cpRd) (a0 : Bool) (a1 : Bool) (a2 : Sem shFor) (a3 : Bool) (a4 : Int) (a5 : Int) (a6 : Sem shFor) : Tr (Empty ⊕ Raw) :=
  Tr.chk (bif a0 then a1 && bif a3 then a1 && r4ResC a2.2 else true else true)
  (Tr.br (bif a0 then bif a3 then !r4Res a2.2 else false else false)
    (Tr.chk (inB a5 (List.length y.1)) (Tr.re (AV.str a6.2) (cpHeap cpRd (y.1, a4, y.2.2))))
    (Tr.re (AV.str []) [AO.box [AV.sl shFor y.1, AV.int .i64 y.2.1, AV.kb false]]))
def i108p (y : CSem cpRd) : Tr (Empty ⊕ Raw) :=
  let a0 := decide (y.2.1 < (↑(List.length y.1) : Int))
  let a1 := inB y.2.1 (List.length y.1)
  let a2 := List.getD y.1 (Int.toNat y.2.1) (dflt shFor)
  let a3 := a2.1 == 1
  let a4 := IntKind.i64.wrap (y.2.1 + 1)
  let a5 := IntKind.i64.wrap (a4 - 1)
  let a6 := List.getD y.1 a5.toNat (dflt shFor)
  i108pz y a0 a1 a2 a3 a4 a5 a6
theorem go108p (y : CSem cpRd) : run env73 1 kp108p (Func.results Tryz.f108).toList 400 (bodyOf Tryz.f108) (initSt (Func.ntmps Tryz.f108) [AV.ptr 0 0] (cpHeap cpRd y)) = (i108p y).map (lf Tryz.f108 e0) := by kernel_rfl
def rdNameO (y : CSem cpRd) : Option (HArgs (List.map some [Sh.str]) × CSem cpRd) := outB [Sh.str] cpRd t0 100000000 (i108p y)
def rdNameC (y : CSem cpRd) : Bool := (rdNameO y).isSome
def rdName (y : CSem cpRd) : (Sem Sh.str) × CSem cpRd := (fun r : HArgs (List.map some [Sh.str]) × CSem cpRd => (r.1.1, r.2)) ((rdNameO y).getD (dfltH [Sh.str], dfltC cpRd))
def F108p : FSem := boxF cpRd [] [Sh.str] cpRd (fun y _ => rdNameC y) fun y _ => (((rdName y).1, ()), (rdName y).2)
theorem FOk108p : FOk env73.P env73.gl 108 F108p := FOk_B1 (ps := cpRd) (ks := []) (outs := [Sh.str]) (keep := kp108p) (gas := 400) (n := 100000000) (e := e0) (t := t0) (i := fun y x => i108p y) env73_all env73_mix ok108p (fun y x => go108p y) (on0 _ _ _ _ _) (fun _ _ => by kernel_rfl) (fun _ _ => by kernel_rfl)

def env74 : Env := (((env73.add 132 F132p).add 107 F107p).add 108 F108p)
theorem env74_all : EnvAll env74 := (EnvAll.addS (EnvAll.addS (EnvAll.addS env73_all (SameE.refl env73) FOk132p) ((SameE.refl env73).add _ _) FOk107p) (((SameE.refl env73).add _ _).add _ _) FOk108p)
theorem env74_mix : env74.P.follows .mixedOrders = true := (mix_add (mix_add (mix_add env73_mix _ _) _ _) _ _)
end
open Go Go.Proofs
noncomputable section
set_option maxHeartbeats 4000000

abbrev kp137p : Nat → Keep := fun j => if j = 6 then { slots := [1, 3] } else { }
inductive H137p where
  | h6 (i3 : Int) (ja0 : Sem shInt) (ja1 : TS)
abbrev e137p : H137p → Nat × St
  | .h6 i3 ja0 ja1 => (6, ⟨tm 82 [(1, AV.ptr 0 0), (3, AV.int .i64 i3)], [AO.box [AV.int .i64 ja0, AV.str ja1]]⟩)
theorem ok137p : fnChk env74.P 137 Tryz.f137 1 := by refine ⟨?_, ?_, ?_, ?_⟩ <;> kernel_rfl
def i137p (x0 : Sem shFor) : Tr (H137p ⊕ Raw) :=
  Tr.br (x0.1 == 1) (Tr.chk (r3NameC x0.2) (Tr.re (AV.bool (r3Name x0.2)) []))
  (Tr.br (x0.1 == 2) (Tr.to (H137p.h6 0 x0.1 x0.2))
    (Tr.br (x0.1 == 3) Tr.err (Tr.br (x0.1 == 4) (Tr.re (AV.bool (bif x0.2 == [40] then true else bif x0.2 == [41] then true else bif x0.2 == [44] then true else bif x0.2 == [61] then true else bif x0.2 == [60] then true else bif x0.2 == [43] then true else bif x0.2 == [45] then true else x0.2 == [42])) []) (Tr.re (AV.kb false) []))))
def t137p_6z (i3 : Int) (ja0 : Sem shInt) (ja1 : TS) (a0 : Int) : Tr (H137p ⊕ Raw) :=
  Tr.br (decide (i3 < (↑(List.length ja1) : Int)))
  (Tr.chk (inB i3 (List.length ja1))
    (Tr.chk (r3digitC a0) (Tr.br (!r3digit a0) (Tr.re (AV.kb false) []) (Tr.to (H137p.h6 (IntKind.i64.wrap (i3 + 1)) ja0 ja1)))))
  (Tr.re (AV.bool (bif decide (1 ≤ (↑(List.length ja1) : Int)) then decide ((↑(List.length ja1) : Int) ≤ 19) else false)) [])
def t137p_6 (i3 : Int) (ja0 : Sem shInt) (ja1 : TS) : Tr (H137p ⊕ Raw) :=
  let a0 := (↑(List.getD ja1 i3.toNat 0).toNat : Int)
  t137p_6z i3 ja0 ja1 a0
theorem go137p (x0 : Sem shFor) : run env74 0 kp137p (Func.results Tryz.f137).toList 400 (bodyOf Tryz.f137) (initSt (Func.ntmps Tryz.f137) [datum shFor x0] []) = (i137p x0).map (lf Tryz.f137 e137p) := by kernel_rfl
def t137p : H137p → Tr (H137p ⊕ Raw)
  | .h6 i3 ja0 ja1 => t137p_6 i3 ja0 ja1
theorem on137p : ∀ s, run env74 0 kp137p (Func.results Tryz.f137).toList 400 (headK Tryz.f137 (e137p s).1) (e137p s).2 = (t137p s).map (lf Tryz.f137 e137p)
  | .h6 i3 ja0 ja1 => by kernel_rfl
def r3MayO (x0 : Sem shFor) : Option (HArgs (List.map some [Sh.bool])) := outT [Sh.bool] t137p 100000000 (i137p x0)
def r3MayC (x0 : Sem shFor) : Bool := (r3MayO x0).isSome
def r3May (x0 : Sem shFor) : Sem Sh.bool := (fun r : HArgs (List.map some [Sh.bool]) => r.1) ((r3MayO x0).getD (dfltH [Sh.bool]))
def F137p : FSem := plainC [shFor] [Sh.bool] (fun x => r3MayC x.1) fun x => (r3May x.1, ())
theorem FOk137p : FOk env74.P env74.gl 137 F137p := FOk_T1 (ks := [shFor]) (outs := [Sh.bool]) (keep := kp137p) (gas := 400) (n := 100000000) (e := e137p) (t := t137p) (i := fun x => i137p x.1) env74_all env74_mix ok137p (fun x => go137p x.1) on137p (fun _ => by kernel_rfl) (fun _ => by kernel_rfl)

abbrev kp111p : Nat → Keep := fun _ => { }
theorem ok111p : fnChk env74.P 111 Tryz.f111 2 := by refine ⟨?_, ?_, ?_, ?_⟩ <;> kernel_rfl
def i111pz (_ : CSem cpRd) (x0 : TS) (a0 : Sem shFor.sl × CSem [CP.d shInt, CP.d Sh.bool]) (a1 : Sem Sh.bool × CSem cpRd) : Tr (Empty ⊕ Raw) :=
  Tr.chk (rdPassC a0 x0)
  (Tr.br (!a1.1) (Tr.re (AV.agg [AV.str [], AV.int .i64 0, AV.int .i64 0, AV.str [], AV.str [], AV.nils]) (cpHeap cpRd a1.2))
    (Tr.br (x0 == [87, 72, 69, 82, 69]) Tr.err (Tr.chk (rdMustC (a1.2.1, a1.2.2.1, a1.2.2.2.1, ()) [40]) Tr.err)))
def i111p (y : CSem cpRd) (x0 : TS) : Tr (Empty ⊕ Raw) :=
  let a0 := (y.1, y.2.1, y.2.2.1, ())
  let a1 := rdPass a0 x0
  i111pz y x0 a0 a1
theorem go111p (y : CSem cpRd) (x0 : TS) : run env74 1 kp111p (Func.results Tryz.f111).toList 400 (bodyOf Tryz.f111) (initSt (Func.ntmps Tryz.f111) [AV.ptr 0 0, datum Sh.str x0] (cpHeap cpRd y)) = (i111p y x0).map (lf Tryz.f111 e0) := by kernel_rfl
def rdCondO (y : CSem cpRd) (x0 : TS) : Option (HArgs (List.map some [Sh.expr]) × CSem cpRd) := outB [Sh.expr] cpRd t0 100000000 (i111p y x0)
def rdCondC (y : CSem cpRd) (x0 : TS) : Bool := (rdCondO y x0).isSome
def rdCond (y : CSem cpRd) (x0 : TS) : (Sem Sh.expr) × CSem cpRd := (fun r : HArgs (List.map some [Sh.expr]) × CSem cpRd => (r.1.1, r.2)) ((rdCondO y x0).getD (dfltH [Sh.expr], dfltC cpRd))
def F111p : FSem := boxF cpRd [Sh.str] [Sh.expr] cpRd (fun y x => rdCondC y x.1) fun y x => (((rdCond y x.1).1, ()), (rdCond y x.1).2)
theorem FOk111p : FOk env74.P env74.gl 111 F111p := FOk_B1 (ps := cpRd) (ks := [Sh.str]) (outs := [Sh.expr]) (keep := kp111p) (gas := 400) (n := 100000000) (e := e0) (t := t0) (i := fun y x => i111p y x.1) env74_all env74_mix ok111p (fun y x => go111p y x.1) (on0 _ _ _ _ _) (fun _ _ => by kernel_rfl) (fun _ _ => by kernel_rfl)

abbrev kp79p : Nat → Keep := fun _ => { }
theorem ok79p : fnChk env74.P 79 Tryz.f79 1 := by refine ⟨?_, ?_, ?_, ?_⟩ <;> kernel_rfl
def i79p (x0 : TS) : Tr (Empty ⊕ Raw) :=
  Tr.chk (r3NameC x0 && bif r3Name x0 then r4ResC x0 else true) (Tr.re (AV.bool (bif r3Name x0 then !r4Res x0 else false)) [])
theorem go79p (x0 : TS) : run env74 0 kp79p (Func.results Tryz.f79).toList 400 (bodyOf Tryz.f79) (initSt (Func.ntmps Tryz.f79) [datum Sh.str x0] []) = (i79p x0).map (lf Tryz.f79 e0) := by kernel_rfl
def r5NameO (x0 : TS) : Option (HArgs (List.map some [Sh.bool])) := outT [Sh.bool] t0 100000000 (i79p x0)
def r5NameC (x0 : TS) : Bool := (r5NameO x0).isSome
def r5Name (x0 : TS) : Sem Sh.bool := (fun r : HArgs (List.map some [Sh.bool]) => r.1) ((r5NameO x0).getD (dfltH [Sh.bool]))
def F79p : FSem := plainC [Sh.str] [Sh.bool] (fun x => r5NameC x.1) fun x => (r5Name x.1, ())
theorem FOk79p : FOk env74.P env74.gl 79 F79p := FOk_T1 (ks := [Sh.str]) (outs := [Sh.bool]) (keep := kp79p) (gas := 400) (n := 100000000) (e := e0) (t := t0) (i := fun x => i79p x.1) env74_all env74_mix ok79p (fun x => go79p x.1) (on0 _ _ _ _ _) (fun _ => by kernel_rfl) (fun _ => by kernel_rfl)

def env75 : Env := (((env74.add 137 F137p).add 111 F111p).add 79 F79p)
theorem env75_all : EnvAll env75 := (EnvAll.addS (EnvAll.addS (EnvAll.addS env74_all (SameE.refl env74) FOk137p) ((SameE.refl env74).add _ _) FOk111p) (((SameE.refl env74).add _ _).add _ _) FOk79p)
theorem env75_mix : env75.P.follows .mixedOrders = true := (mix_add (mix_add (mix_add env74_mix _ _) _ _) _ _)
end
open Go Go.Proofs
noncomputable section
set_option maxHeartbeats 4000000

abbrev kp81p : Nat → Keep := fun j => if j = 3 then { slots := [0, 4, 5] } else if j = 11 then { slots := [0, 4, 5, 6, 7, 8] } else if j = 15 then { slots := [0, 4, 5, 6, 7, 8] } else if j = 20 then { slots := [0, 4, 5, 8] } else { }
inductive H81p where
  | h3 (s0 : TS) (i5 : Int)
  | h11 (s0 : TS) (i5 : Int) (i6 : Int) (i7 : Int) (ja0 : Int) (ja1 : List UInt8)
  | h15 (s0 : TS) (i5 : Int) (i6 : Int) (i7 : Int) (ja0 : Int) (ja1 : List UInt8)
  | h20 (s0 : TS) (i5 : Int) (ja0 : Int) (ja1 : List UInt8)
  | h3b (s0 : TS) (i5 : Int) (lh_0 : LF)
  | h11b (s0 : TS) (i5 : Int) (i6 : Int) (i7 : Int) (lh_0 : LF) (jb0 : Int) (jb1 : List UInt8)
  | h15b (s0 : TS) (i5 : Int) (i6 : Int) (i7 : Int) (lh_0 : LF) (jb0 : Int) (jb1 : List UInt8)
  | h20b (s0 : TS) (i5 : Int) (lh_0 : LF) (jb0 : Int) (jb1 : List UInt8)
abbrev e81p : H81p → Nat × St
  | .h3 s0 i5 => (3, ⟨tm 131 [(0, AV.str s0), (4, AV.nils), (5, AV.int .i64 i5)], []⟩)
  | .h11 s0 i5 i6 i7 ja0 ja1 => (11, ⟨tm 131 [(0, AV.str s0), (4, AV.nils), (5, AV.int .i64 i5), (6, AV.int IntKind.u8 i6), (7, AV.int .i64 i7), (8, AV.ptr 0 0)], [AO.box [AV.int .i64 ja0, AV.str ja1]]⟩)
  | .h15 s0 i5 i6 i7 ja0 ja1 => (15, ⟨tm 131 [(0, AV.str s0), (4, AV.nils), (5, AV.int .i64 i5), (6, AV.int IntKind.u8 i6), (7, AV.int .i64 i7), (8, AV.ptr 0 0)], [AO.box [AV.int .i64 ja0, AV.str ja1]]⟩)
  | .h20 s0 i5 ja0 ja1 => (20, ⟨tm 131 [(0, AV.str s0), (4, AV.nils), (5, AV.int .i64 i5), (8, AV.ptr 0 0)], [AO.box [AV.int .i64 ja0, AV.str ja1]]⟩)
  | .h3b s0 i5 lh_0 => (3, ⟨tm 131 [(0, AV.str s0), (4, AV.vec 0), (5, AV.int .i64 i5)], [AO.vec shFor lh_0]⟩)
  | .h11b s0 i5 i6 i7 lh_0 jb0 jb1 => (11, ⟨tm 131 [(0, AV.str s0), (4, AV.vec 0), (5, AV.int .i64 i5), (6, AV.int IntKind.u8 i6), (7, AV.int .i64 i7), (8, AV.ptr 1 0)], [AO.vec shFor lh_0, AO.box [AV.int .i64 jb0, AV.str jb1]]⟩)
  | .h15b s0 i5 i6 i7 lh_0 jb0 jb1 => (15, ⟨tm 131 [(0, AV.str s0), (4, AV.vec 0), (5, AV.int .i64 i5), (6, AV.int IntKind.u8 i6), (7, AV.int .i64 i7), (8, AV.ptr 1 0)], [AO.vec shFor lh_0, AO.box [AV.int .i64 jb0, AV.str jb1]]⟩)
  | .h20b s0 i5 lh_0 jb0 jb1 => (20, ⟨tm 131 [(0, AV.str s0), (4, AV.vec 0), (5, AV.int .i64 i5), (8, AV.ptr 1 0)], [AO.vec shFor lh_0, AO.box [AV.int .i64 jb0, AV.str jb1]]⟩)
theorem ok81p : fnChk env75.P 81 Tryz.f81 1 := by refine ⟨?_, ?_, ?_, ?_⟩ <;> kernel_rfl
def i81p (x0 : TS) : Tr (H81p ⊕ Raw) :=
  Tr.to (H81p.h3 x0 0)
def t81p_3z (s0 : TS) (i5 : Int) (a0 : Int) (a1 : Int) (a2 : List UInt8) (a3 : Sem shInt × Sem Sh.str) (a4 : LF) : Tr (H81p ⊕ Raw) :=
  Tr.br (decide (i5 < (↑(List.length s0) : Int)))
  (Tr.chk (inB i5 (List.length s0))
    (Tr.br (bif a0 == 32 then true else a0 == 10) (Tr.to (H81p.h3 s0 a1)) (Tr.chk (decide (0 ≤ i5) && decide (i5 ≤ a1) && decide (a1 ≤ (↑(List.length s0) : Int))) (Tr.chk (r3letterC a0) (Tr.br (r3letter a0) (Tr.to (H81p.h11 s0 a1 a0 i5 4 a2)) (Tr.chk (r3digitC a0) (Tr.br (r3digit a0) (Tr.to (H81p.h15 s0 a1 a0 i5 4 a2)) (Tr.br (a0 == 39) (Tr.to (H81p.h20 s0 a1 3 [])) (Tr.chk (r3MayC a3)
    (Tr.br (!r3May a3) (Tr.re (AV.tup [AV.nils, AV.kb false]) []) (Tr.chk (decide (a4.length ≤ 1073741824)) (Tr.to (H81p.h3b s0 a1 a4)))))))))))))
  (Tr.re (AV.tup [AV.nils, AV.bool true]) [])
def t81p_3 (s0 : TS) (i5 : Int) : Tr (H81p ⊕ Raw) :=
  let a0 := (↑(List.getD s0 i5.toNat 0).toNat : Int)
  let a1 := IntKind.i64.wrap (i5 + 1)
  let a2 := List.take (a1.toNat - i5.toNat) (List.drop i5.toNat s0)
  let a3 := (4, a2)
  let a4 := [a3]
  t81p_3z s0 i5 a0 a1 a2 a3 a4
def t81p_11z (s0 : TS) (i5 : Int) (i6 : Int) (i7 : Int) (ja0 : Int) (ja1 : List UInt8) (a0 : Bool) (a1 : Int) (a2 : List UInt8) (a3 : Sem shInt × Sem Sh.str) (a4 : LF) : Tr (H81p ⊕ Raw) :=
  Tr.chk (bif a0 then inB i5 (List.length s0) && r3partC a1 else true)
  (Tr.br (bif a0 then r3part a1 else false) (Tr.to (H81p.h11 s0 (IntKind.i64.wrap (i5 + 1)) i6 i7 ja0 ja1))
    (Tr.chk (decide (0 ≤ i7) && decide (i7 ≤ i5) && decide (i5 ≤ (↑(List.length s0) : Int))) (Tr.chk (r3digitC i6) (Tr.br (r3digit i6) (Tr.to (H81p.h15 s0 i5 i6 i7 1 a2)) (Tr.br (i6 == 39) (Tr.to (H81p.h20 s0 i5 3 [])) (Tr.chk (r3MayC a3) (Tr.br (!r3May a3) (Tr.re (AV.tup [AV.nils, AV.kb false]) []) (Tr.chk (decide (a4.length ≤ 1073741824)) (Tr.to (H81p.h3b s0 i5 a4))))))))))
def t81p_11 (s0 : TS) (i5 : Int) (i6 : Int) (i7 : Int) (ja0 : Int) (ja1 : List UInt8) : Tr (H81p ⊕ Raw) :=
  let a0 := decide (i5 < (↑(List.length s0) : Int))
  let a1 := (↑(List.getD s0 i5.toNat 0).toNat : Int)
  let a2 := List.take (i5.toNat - i7.toNat) (List.drop i7.toNat s0)
  let a3 := (1, a2)
  let a4 := [a3]
  t81p_11z s0 i5 i6 i7 ja0 ja1 a0 a1 a2 a3 a4
def t81p_15z (s0 : TS) (i5 : Int) (i6 : Int) (i7 : Int) (ja0 : Int) (ja1 : List UInt8) (a0 : Bool) (a1 : Int) (a2 : Sem shInt × Sem Sh.str) (a3 : LF) : Tr (H81p ⊕ Raw) :=
  Tr.chk (bif a0 then inB i5 (List.length s0) && r3digitC a1 else true)
  (Tr.br (bif a0 then r3digit a1 else false) (Tr.to (H81p.h15 s0 (IntKind.i64.wrap (i5 + 1)) i6 i7 ja0 ja1))
    (Tr.chk (decide (0 ≤ i7) && decide (i7 ≤ i5) && decide (i5 ≤ (↑(List.length s0) : Int))) (Tr.br (i6 == 39) (Tr.to (H81p.h20 s0 i5 3 [])) (Tr.chk (r3MayC a2) (Tr.br (!r3May a2) (Tr.re (AV.tup [AV.nils, AV.kb false]) []) (Tr.chk (decide (a3.length ≤ 1073741824)) (Tr.to (H81p.h3b s0 i5 a3))))))))
def t81p_15 (s0 : TS) (i5 : Int) (i6 : Int) (i7 : Int) (ja0 : Int) (ja1 : List UInt8) : Tr (H81p ⊕ Raw) :=
  let a0 := decide (i5 < (↑(List.length s0) : Int))
  let a1 := (↑(List.getD s0 i5.toNat 0).toNat : Int)
  let a2 := (2, List.take (i5.toNat - i7.toNat) (List.drop i7.toNat s0))
  let a3 := [a2]
  t81p_15z s0 i5 i6 i7 ja0 ja1 a0 a1 a2 a3
def t81p_20z (s0 : TS) (i5 : Int) (ja0 : Int) (ja1 : List UInt8) (a0 : Bool) (a1 : Int) (a2 : Bool) (a3 : Int) (a4 : Bool) (a5 : List UInt8) (a6 : Str) (a7 : LF) : Tr (H81p ⊕ Raw) :=
  Tr.chk (bif a0 then inB i5 (List.length s0) && bif a2 then true else bif a4 then inB a3 (List.length s0) else true else true)
  (Tr.br (bif a0 then bif a2 then true else bif a4 then (↑(List.getD s0 a3.toNat 0).toNat : Int) == 39 else false else false)
    (Tr.chk (decide (0 ≤ i5) && decide (i5 ≤ a3) && decide (a3 ≤ (↑(List.length s0) : Int))) (Tr.chk (decide (ja1.length + a5.length ≤ 1099511627776)) (Tr.chk (inB i5 (List.length s0)) (Tr.br (a1 == 39) (Tr.to (H81p.h20 s0 (IntKind.i64.wrap (a3 + 1)) ja0 a6)) (Tr.to (H81p.h20 s0 a3 ja0 a6))))))
    (Tr.br (decide (i5 ≥ (↑(List.length s0) : Int))) (Tr.re (AV.tup [AV.nils, AV.kb false]) []) (Tr.chk (r3MayC (ja0, ja1)) (Tr.br (!r3May (ja0, ja1)) (Tr.re (AV.tup [AV.nils, AV.kb false]) []) (Tr.chk (decide (a7.length ≤ 1073741824)) (Tr.to (H81p.h3b s0 a3 a7)))))))
def t81p_20 (s0 : TS) (i5 : Int) (ja0 : Int) (ja1 : List UInt8) : Tr (H81p ⊕ Raw) :=
  let a0 := decide (i5 < (↑(List.length s0) : Int))
  let a1 := (↑(List.getD s0 i5.toNat 0).toNat : Int)
  let a2 := a1 != 39
  let a3 := IntKind.i64.wrap (i5 + 1)
  let a4 := decide (a3 < (↑(List.length s0) : Int))
  let a5 := List.take (a3.toNat - i5.toNat) (List.drop i5.toNat s0)
  let a6 := ja1 ++ a5
  let a7 := [(ja0, ja1)]
  t81p_20z s0 i5 ja0 ja1 a0 a1 a2 a3 a4 a5 a6 a7
def t81p_3bz (s0 : TS) (i5 : Int) (lh_0 : LF) (a0 : Int) (a1 : Int) (a2 : List UInt8) (a3 : Sem shInt × Sem Sh.str) (a4 : LF) : Tr (H81p ⊕ Raw) :=
  Tr.br (decide (i5 < (↑(List.length s0) : Int)))
  (Tr.chk (inB i5 (List.length s0))
    (Tr.br (bif a0 == 32 then true else a0 == 10) (Tr.to (H81p.h3b s0 a1 lh_0)) (Tr.chk (decide (0 ≤ i5) && decide (i5 ≤ a1) && decide (a1 ≤ (↑(List.length s0) : Int))) (Tr.chk (r3letterC a0) (Tr.br (r3letter a0) (Tr.to (H81p.h11b s0 a1 a0 i5 lh_0 4 a2)) (Tr.chk (r3digitC a0) (Tr.br (r3digit a0) (Tr.to (H81p.h15b s0 a1 a0 i5 lh_0 4 a2)) (Tr.br (a0 == 39) (Tr.to (H81p.h20b s0 a1 lh_0 3 []))
    (Tr.chk (r3MayC a3) (Tr.br (!r3May a3) (Tr.re (AV.tup [AV.nils, AV.kb false]) []) (Tr.chk (decide (lh_0.length + a4.length ≤ 1073741824)) (Tr.to (H81p.h3b s0 a1 (lh_0 ++ a4))))))))))))))
  (Tr.re (AV.tup [AV.vec 0, AV.bool (decide ((↑lh_0.length : Int) ≤ 400))]) [AO.vec shFor lh_0])
def t81p_3b (s0 : TS) (i5 : Int) (lh_0 : LF) : Tr (H81p ⊕ Raw) :=
  let a0 := (↑(List.getD s0 i5.toNat 0).toNat : Int)
  let a1 := IntKind.i64.wrap (i5 + 1)
  let a2 := List.take (a1.toNat - i5.toNat) (List.drop i5.toNat s0)
  let a3 := (4, a2)
  let a4 := [a3]
  t81p_3bz s0 i5 lh_0 a0 a1 a2 a3 a4
def t81p_11bz (s0 : TS) (i5 : Int) (i6 : Int) (i7 : Int) (lh_0 : LF) (jb0 : Int) (jb1 : List UInt8) (a0 : Bool) (a1 : Int) (a2 : List UInt8) (a3 : Sem shInt × Sem Sh.str) (a4 : LF) : Tr (H81p ⊕ Raw) :=
  Tr.chk (bif a0 then inB i5 (List.length s0) && r3partC a1 else true)
  (Tr.br (bif a0 then r3part a1 else false) (Tr.to (H81p.h11b s0 (IntKind.i64.wrap (i5 + 1)) i6 i7 lh_0 jb0 jb1))
    (Tr.chk (decide (0 ≤ i7) && decide (i7 ≤ i5) && decide (i5 ≤ (↑(List.length s0) : Int))) (Tr.chk (r3digitC i6) (Tr.br (r3digit i6) (Tr.to (H81p.h15b s0 i5 i6 i7 lh_0 1 a2)) (Tr.br (i6 == 39) (Tr.to (H81p.h20b s0 i5 lh_0 3 [])) (Tr.chk (r3MayC a3) (Tr.br (!r3May a3) (Tr.re (AV.tup [AV.nils, AV.kb false]) [])
    (Tr.chk (decide (lh_0.length + a4.length ≤ 1073741824)) (Tr.to (H81p.h3b s0 i5 (lh_0 ++ a4)))))))))))
def t81p_11b (s0 : TS) (i5 : Int) (i6 : Int) (i7 : Int) (lh_0 : LF) (jb0 : Int) (jb1 : List UInt8) : Tr (H81p ⊕ Raw) :=
  let a0 := decide (i5 < (↑(List.length s0) : Int))
  let a1 := (↑(List.getD s0 i5.toNat 0).toNat : Int)
  let a2 := List.take (i5.toNat - i7.toNat) (List.drop i7.toNat s0)
  let a3 := (1, a2)
  let a4 := [a3]
  t81p_11bz s0 i5 i6 i7 lh_0 jb0 jb1 a0 a1 a2 a3 a4
def t81p_15bz (s0 : TS) (i5 : Int) (i6 : Int) (i7 : Int) (lh_0 : LF) (jb0 : Int) (jb1 : List UInt8) (a0 : Bool) (a1 : Int) (a2 : Sem shInt × Sem Sh.str) (a3 : LF) : Tr (H81p ⊕ Raw) :=
  Tr.chk (bif a0 then inB i5 (List.length s0) && r3digitC a1 else true)
  (Tr.br (bif a0 then r3digit a1 else false) (Tr.to (H81p.h15b s0 (IntKind.i64.wrap (i5 + 1)) i6 i7 lh_0 jb0 jb1))
    (Tr.chk (decide (0 ≤ i7) && decide (i7 ≤ i5) && decide (i5 ≤ (↑(List.length s0) : Int))) (Tr.br (i6 == 39) (Tr.to (H81p.h20b s0 i5 lh_0 3 [])) (Tr.chk (r3MayC a2) (Tr.br (!r3May a2) (Tr.re (AV.tup [AV.nils, AV.kb false]) []) (Tr.chk (decide (lh_0.length + a3.length ≤ 1073741824)) (Tr.to (H81p.h3b s0 i5 (lh_0 ++ a3)))))))))
def t81p_15b (s0 : TS) (i5 : Int) (i6 : Int) (i7 : Int) (lh_0 : LF) (jb0 : Int) (jb1 : List UInt8) : Tr (H81p ⊕ Raw) :=
  let a0 := decide (i5 < (↑(List.length s0) : Int))
  let a1 := (↑(List.getD s0 i5.toNat 0).toNat : Int)
  let a2 := (2, List.take (i5.toNat - i7.toNat) (List.drop i7.toNat s0))
  let a3 := [a2]
  t81p_15bz s0 i5 i6 i7 lh_0 jb0 jb1 a0 a1 a2 a3
def t81p_20bz (s0 : TS) (i5 : Int) (lh_0 : LF) (jb0 : Int) (jb1 : List UInt8) (a0 : Bool) (a1 : Int) (a2 : Bool) (a3 : Int) (a4 : Bool) (a5 : List UInt8) (a6 : Str) (a7 : LF) : Tr (H81p ⊕ Raw) :=
  Tr.chk (bif a0 then inB i5 (List.length s0) && bif a2 then true else bif a4 then inB a3 (List.length s0) else true else true)
  (Tr.br (bif a0 then bif a2 then true else bif a4 then (↑(List.getD s0 a3.toNat 0).toNat : Int) == 39 else false else false)
    (Tr.chk (decide (0 ≤ i5) && decide (i5 ≤ a3) && decide (a3 ≤ (↑(List.length s0) : Int))) (Tr.chk (decide (jb1.length + a5.length ≤ 1099511627776)) (Tr.chk (inB i5 (List.length s0)) (Tr.br (a1 == 39) (Tr.to (H81p.h20b s0 (IntKind.i64.wrap (a3 + 1)) lh_0 jb0 a6)) (Tr.to (H81p.h20b s0 a3 lh_0 jb0 a6))))))
    (Tr.br (decide (i5 ≥ (↑(List.length s0) : Int))) (Tr.re (AV.tup [AV.nils, AV.kb false]) []) (Tr.chk (r3MayC (jb0, jb1)) (Tr.br (!r3May (jb0, jb1)) (Tr.re (AV.tup [AV.nils, AV.kb false]) []) (Tr.chk (decide (lh_0.length + a7.length ≤ 1073741824)) (Tr.to (H81p.h3b s0 a3 (lh_0 ++ a7))))))))
def t81p_20b (s0 : TS) (i5 : Int) (lh_0 : LF) (jb0 : Int) (jb1 : List UInt8) : Tr (H81p ⊕ Raw) :=
  let a0 := decide (i5 < (↑(List.length s0) : Int))
  let a1 := (↑(List.getD s0 i5.toNat 0).toNat : Int)
  let a2 := a1 != 39
  let a3 := IntKind.i64.wrap (i5 + 1)
  let a4 := decide (a3 < (↑(List.length s0) : Int))
  let a5 := List.take (a3.toNat - i5.toNat) (List.drop i5.toNat s0)
  let a6 := jb1 ++ a5
  let a7 := [(jb0, jb1)]
  t81p_20bz s0 i5 lh_0 jb0 jb1 a0 a1 a2 a3 a4 a5 a6 a7
theorem go81p (x0 : TS) : run env75 0 kp81p (Func.results Tryz.f81).toList 400 (bodyOf Tryz.f81) (initSt (Func.ntmps Tryz.f81) [datum Sh.str x0] []) = (i81p x0).map (lf Tryz.f81 e81p) := by kernel_rfl
def t81p : H81p → Tr (H81p ⊕ Raw)
  | .h3 s0 i5 => t81p_3 s0 i5
  | .h11 s0 i5 i6 i7 ja0 ja1 => t81p_11 s0 i5 i6 i7 ja0 ja1
  | .h15 s0 i5 i6 i7 ja0 ja1 => t81p_15 s0 i5 i6 i7 ja0 ja1
  | .h20 s0 i5 ja0 ja1 => t81p_20 s0 i5 ja0 ja1
  | .h3b s0 i5 lh_0 => t81p_3b s0 i5 lh_0
  | .h11b s0 i5 i6 i7 lh_0 jb0 jb1 => t81p_11b s0 i5 i6 i7 lh_0 jb0 jb1
  | .h15b s0 i5 i6 i7 lh_0 jb0 jb1 => t81p_15b s0 i5 i6 i7 lh_0 jb0 jb1
  | .h20b s0 i5 lh_0 jb0 jb1 => t81p_20b s0 i5 lh_0 jb0 jb1
theorem on81p : ∀ s, run env75 0 kp81p (Func.results Tryz.f81).toList 400 (headK Tryz.f81 (e81p s).1) (e81p s).2 = (t81p s).map (lf Tryz.f81 e81p)
  | .h3 s0 i5 => by kernel_rfl
  | .h11 s0 i5 i6 i7 ja0 ja1 => by kernel_rfl
  | .h15 s0 i5 i6 i7 ja0 ja1 => by kernel_rfl
  | .h20 s0 i5 ja0 ja1 => by kernel_rfl
  | .h3b s0 i5 lh_0 => by kernel_rfl
  | .h11b s0 i5 i6 i7 lh_0 jb0 jb1 => by kernel_rfl
  | .h15b s0 i5 i6 i7 lh_0 jb0 jb1 => by kernel_rfl
  | .h20b s0 i5 lh_0 jb0 jb1 => by kernel_rfl
def r3CutO (x0 : TS) : Option (HArgs (List.map some [shFor.sl, Sh.bool])) := outT [shFor.sl, Sh.bool] t81p 100000000 (i81p x0)
def r3CutC (x0 : TS) : Bool := (r3CutO x0).isSome
def r3Cut (x0 : TS) : Sem shFor.sl × Sem Sh.bool := (fun r : HArgs (List.map some [shFor.sl, Sh.bool]) => (r.1, r.2.1)) ((r3CutO x0).getD (dfltH [shFor.sl, Sh.bool]))
def F81p : FSem := plainC [Sh.str] [shFor.sl, Sh.bool] (fun x => r3CutC x.1) fun x => ((r3Cut x.1).1, (r3Cut x.1).2, ())
theorem FOk81p : FOk env75.P env75.gl 81 F81p := FOk_T1 (ks := [Sh.str]) (outs := [shFor.sl, Sh.bool]) (keep := kp81p) (gas := 400) (n := 100000000) (e := e81p) (t := t81p) (i := fun x => i81p x.1) env75_all env75_mix ok81p (fun x => go81p x.1) on81p (fun _ => by kernel_rfl) (fun _ => by kernel_rfl)

abbrev kp127p : Nat → Keep := fun _ => { }
theorem ok127p : fnChk env75.P 127 Tryz.f127 2 := by refine ⟨?_, ?_, ?_, ?_⟩ <;> kernel_rfl
def i127p (x0 : Sem Sh.expr) (_ : TS) : Tr (Empty ⊕ Raw) :=
  Tr.br (ExprT.op x0 == [])
  (Tr.chk (r4SameC (etaE x0) (ExprT.mk [] (0, 0, []) [] [])) (Tr.re (AV.tup [AV.str [], AV.bool (r4Same (etaE x0) (ExprT.mk [] (0, 0, []) [] []))]) [])) Tr.err
theorem go127p (x0 : Sem Sh.expr) (x1 : TS) : run env75 0 kp127p (Func.results Tryz.f127).toList 400 (bodyOf Tryz.f127) (initSt (Func.ntmps Tryz.f127) [datum Sh.expr x0, datum Sh.str x1] []) = (i127p x0 x1).map (lf Tryz.f127 e0) := by kernel_rfl
def r5condO (x0 : Sem Sh.expr) (x1 : TS) : Option (HArgs (List.map some [Sh.str, Sh.bool])) := outT [Sh.str, Sh.bool] t0 100000000 (i127p x0 x1)
def r5condC (x0 : Sem Sh.expr) (x1 : TS) : Bool := (r5condO x0 x1).isSome
def r5cond (x0 : Sem Sh.expr) (x1 : TS) : Sem Sh.str × Sem Sh.bool := (fun r : HArgs (List.map some [Sh.str, Sh.bool]) => (r.1, r.2.1)) ((r5condO x0 x1).getD (dfltH [Sh.str, Sh.bool]))
def F127p : FSem := plainC [Sh.expr, Sh.str] [Sh.str, Sh.bool] (fun x => r5condC x.1 x.2.1) fun x => ((r5cond x.1 x.2.1).1, (r5cond x.1 x.2.1).2, ())
theorem FOk127p : FOk env75.P env75.gl 127 F127p := FOk_T1 (ks := [Sh.expr, Sh.str]) (outs := [Sh.str, Sh.bool]) (keep := kp127p) (gas := 400) (n := 100000000) (e := e0) (t := t0) (i := fun x => i127p x.1 x.2.1) env75_all env75_mix ok127p (fun x => go127p x.1 x.2.1) (on0 _ _ _ _ _) (fun _ => by kernel_rfl) (fun _ => by kernel_rfl)

abbrev kp131p : Nat → Keep := fun j => if j = 3 then { slots := [0, 4, 5] } else { }
inductive H131p where
  | h3 (l0 : LS) (s4 : List UInt8) (i5 : Int)
abbrev e131p : H131p → Nat × St
  | .h3 l0 s4 i5 => (3, ⟨tm 37 [(0, AV.sl Sh.str l0), (4, AV.str s4), (5, AV.int .i64 i5)], []⟩)
theorem ok131p : fnChk env75.P 131 Tryz.f131 1 := by refine ⟨?_, ?_, ?_, ?_⟩ <;> kernel_rfl
def i131p (x0 : Sem Sh.str.sl) : Tr (H131p ⊕ Raw) :=
  Tr.to (H131p.h3 x0 [] 0)
def t131p_3z (l0 : LS) (s4 : List UInt8) (i5 : Int) (a0 : TS) (a1 : Str) (a2 : Int) (a3 : Bool) : Tr (H131p ⊕ Raw) :=
  Tr.br (decide (i5 < (↑l0.length : Int)))
  (Tr.chk (inB i5 l0.length)
    (Tr.chk (r5NameC a0) (Tr.br (!r5Name a0) (Tr.re (AV.tup [AV.str [], AV.kb false]) []) (Tr.br (decide (i5 > 0)) (Tr.chk (decide (s4.length + [32, 44, 32].length ≤ 1099511627776)) (Tr.chk (inB i5 l0.length) (Tr.chk (decide (List.length a1 + List.length a0 ≤ 1099511627776)) (Tr.to (H131p.h3 l0 (a1 ++ a0) a2)))))
    (Tr.chk (inB i5 l0.length) (Tr.chk (decide (s4.length + List.length a0 ≤ 1099511627776)) (Tr.to (H131p.h3 l0 (s4 ++ a0) a2))))))))
  (Tr.re (AV.tup [AV.str (bif a3 then s4 else s4), AV.bool (bif a3 then decide ((↑l0.length : Int) ≤ 8) else false)]) [])
def t131p_3 (l0 : LS) (s4 : List UInt8) (i5 : Int) : Tr (H131p ⊕ Raw) :=
  let a0 := l0.getD i5.toNat (dflt Sh.str)
  let a1 := s4 ++ [32, 44, 32]
  let a2 := IntKind.i64.wrap (i5 + 1)
  let a3 := decide (1 ≤ (↑l0.length : Int))
  t131p_3z l0 s4 i5 a0 a1 a2 a3
theorem go131p (x0 : Sem Sh.str.sl) : run env75 0 kp131p (Func.results Tryz.f131).toList 400 (bodyOf Tryz.f131) (initSt (Func.ntmps Tryz.f131) [datum Sh.str.sl x0] []) = (i131p x0).map (lf Tryz.f131 e131p) := by kernel_rfl
def t131p : H131p → Tr (H131p ⊕ Raw)
  | .h3 l0 s4 i5 => t131p_3 l0 s4 i5
theorem on131p : ∀ s, run env75 0 kp131p (Func.results Tryz.f131).toList 400 (headK Tryz.f131 (e131p s).1) (e131p s).2 = (t131p s).map (lf Tryz.f131 e131p)
  | .h3 l0 s4 i5 => by kernel_rfl
def r5namesO (x0 : Sem Sh.str.sl) : Option (HArgs (List.map some [Sh.str, Sh.bool])) := outT [Sh.str, Sh.bool] t131p 100000000 (i131p x0)
def r5namesC (x0 : Sem Sh.str.sl) : Bool := (r5namesO x0).isSome
def r5names (x0 : Sem Sh.str.sl) : Sem Sh.str × Sem Sh.bool := (fun r : HArgs (List.map some [Sh.str, Sh.bool]) => (r.1, r.2.1)) ((r5namesO x0).getD (dfltH [Sh.str, Sh.bool]))
def F131p : FSem := plainC [Sh.str.sl] [Sh.str, Sh.bool] (fun x => r5namesC x.1) fun x => ((r5names x.1).1, (r5names x.1).2, ())
theorem FOk131p : FOk env75.P env75.gl 131 F131p := FOk_T1 (ks := [Sh.str.sl]) (outs := [Sh.str, Sh.bool]) (keep := kp131p) (gas := 400) (n := 100000000) (e := e131p) (t := t131p) (i := fun x => i131p x.1) env75_all env75_mix ok131p (fun x => go131p x.1) on131p (fun _ => by kernel_rfl) (fun _ => by kernel_rfl)

def env76 : Env := (((env75.add 81 F81p).add 127 F127p).add 131 F131p)
theorem env76_all : EnvAll env76 := (EnvAll.addS (EnvAll.addS (EnvAll.addS env75_all (SameE.refl env75) FOk81p) ((SameE.refl env75).add _ _) FOk127p) (((SameE.refl env75).add _ _).add _ _) FOk131p)
theorem env76_mix : env76.P.follows .mixedOrders = true := (mix_add (mix_add (mix_add env75_mix _ _) _ _) _ _)
end
end Cad
