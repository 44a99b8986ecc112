/- Expressions: may, bounded. Expressions: types and values. What is asked of expressions holds. Checks; bounded tables. What is asked of checks and of bounded tables holds. -/
import Derived.Test.YtgbhkblomgiclaaGreatDoorG10
namespace Cad
open Go Go.Proofs

abbrev kp22 : Nat → Keep := fun j => { }
theorem ok22 : fnChk (env23).P 22 Tryz.f22 1 := by refine ⟨?_, ?_, ?_, ?_⟩ <;> kernel_rfl
theorem go22 (x0 : Sem Sh.expr) : run (env23) 0 kp22 (Func.results Tryz.f22).toList 400 (bodyOf Tryz.f22) (initSt (Func.ntmps Tryz.f22) [datum Sh.expr x0] []) =
  Tr.chk (mayCN 16 (ExprT.mk (ExprT.op x0) (ExprT.v x0) (ExprT.s x0) (ExprT.l x0)) 1 0)
  (Tr.ok (Leaf.ret (AV.bool (mayN 16 (ExprT.mk (ExprT.op x0) (ExprT.v x0) (ExprT.s x0) (ExprT.l x0)) 1 0).fst) [])) := by kernel_rfl
def eMay (x0 : Sem Sh.expr) : Sem Sh.bool :=
  (mayN 16 x0 1 0).fst
def eMayC (x0 : Sem Sh.expr) : Bool :=
  if mayCN 16 x0 1 0 = true then true else false
def F22 : FSem := plainC [Sh.expr] [Sh.bool] (fun x => eMayC x.1) fun x => (eMay x.1, ())
theorem FOk22 : FOk (env23).P (env23).gl 22 F22 := by
  refine FOk_plainC (ok22) fun x hc C hC => ?_
  unfold eMayC at hc
  refine reach_ok env23_all env23_mix (ok22) (fun id _ => hC id) (go22 x.1) ?_
  generalize hy : eMay x.1 = y
  unfold eMay at hy
  try simp only [ExprT.eta]
  repeat' (first | (refine OptOk_br (fun hsp => ?_) (fun hsp => ?_) <;> first | (rw [if_pos hsp] at hy; try rw [if_pos hsp] at hc) | (rw [if_neg (ne_t hsp)] at hy; try rw [if_neg (ne_t hsp)] at hc)) | (have hgi := guard_ite hc; refine OptOk_chk hgi.1 ?_; replace hc := hgi.2; clear hgi) | refine OptOk_chkT ?_)
  all_goals (subst hy; first | rfl)

abbrev kp7 : Nat → Keep := fun j => { }
theorem ok7 : fnChk (env23).P 7 Tryz.f7 1 := by refine ⟨?_, ?_, ?_, ?_⟩ <;> kernel_rfl
theorem go7 (x0 : Sem Sh.expr) : run (env23) 0 kp7 (Func.results Tryz.f7).toList 400 (bodyOf Tryz.f7) (initSt (Func.ntmps Tryz.f7) [datum Sh.expr x0] []) =
  Tr.chk (fewCN 16 (ExprT.mk (ExprT.op x0) (ExprT.v x0) (ExprT.s x0) (ExprT.l x0)) 14 80)
  (Tr.ok
    (Leaf.ret
      (AV.agg
        [AV.str (ExprT.op (fewN 16 (ExprT.mk (ExprT.op x0) (ExprT.v x0) (ExprT.s x0) (ExprT.l x0)) 14 80).fst),
          AV.int IntKind.i64 (ExprT.v (fewN 16 (ExprT.mk (ExprT.op x0) (ExprT.v x0) (ExprT.s x0) (ExprT.l x0)) 14 80).fst).fst,
          AV.int IntKind.i64 (ExprT.v (fewN 16 (ExprT.mk (ExprT.op x0) (ExprT.v x0) (ExprT.s x0) (ExprT.l x0)) 14 80).fst).snd.fst,
          AV.str (ExprT.v (fewN 16 (ExprT.mk (ExprT.op x0) (ExprT.v x0) (ExprT.s x0) (ExprT.l x0)) 14 80).fst).snd.snd,
          AV.str (ExprT.s (fewN 16 (ExprT.mk (ExprT.op x0) (ExprT.v x0) (ExprT.s x0) (ExprT.l x0)) 14 80).fst),
          AV.sl Sh.expr (ExprT.l (fewN 16 (ExprT.mk (ExprT.op x0) (ExprT.v x0) (ExprT.s x0) (ExprT.l x0)) 14 80).fst)])
      [])) := by kernel_rfl
def eFew (x0 : Sem Sh.expr) : Sem Sh.expr :=
  ExprT.mk (ExprT.op (fewN 16 x0 14 80).fst) (ExprT.v (fewN 16 x0 14 80).fst) (ExprT.s (fewN 16 x0 14 80).fst) (ExprT.l (fewN 16 x0 14 80).fst)
def eFewC (x0 : Sem Sh.expr) : Bool :=
  if fewCN 16 x0 14 80 = true then true else false
def F7 : FSem := plainC [Sh.expr] [Sh.expr] (fun x => eFewC x.1) fun x => (eFew x.1, ())
theorem FOk7 : FOk (env23).P (env23).gl 7 F7 := by
  refine FOk_plainC (ok7) fun x hc C hC => ?_
  unfold eFewC at hc
  refine reach_ok env23_all env23_mix (ok7) (fun id _ => hC id) (go7 x.1) ?_
  generalize hy : eFew x.1 = y
  unfold eFew at hy
  try simp only [ExprT.eta]
  repeat' (first | (refine OptOk_br (fun hsp => ?_) (fun hsp => ?_) <;> first | (rw [if_pos hsp] at hy; try rw [if_pos hsp] at hc) | (rw [if_neg (ne_t hsp)] at hy; try rw [if_neg (ne_t hsp)] at hc)) | (have hgi := guard_ite hc; refine OptOk_chk hgi.1 ?_; replace hc := hgi.2; clear hgi) | refine OptOk_chkT ?_)
  all_goals (subst hy; first | rfl)

noncomputable def env24 : Env := ((env23.add 22 F22).add 7 F7)
theorem env24_all : EnvAll env24 := (EnvAll.addS (EnvAll.addS env23_all (SameE.refl env23) FOk22) ((SameE.refl env23).add _ _) FOk7)
theorem env24_mix : env24.P.follows .mixedOrders = true := (mix_add (mix_add env23_mix _ _) _ _)
end Cad

namespace Cad
open Go Go.Proofs

abbrev kp30 : Nat → Keep := fun j => { }
theorem ok30 : fnChk (env24).P 30 Tryz.f30 2 := by refine ⟨?_, ?_, ?_, ?_⟩ <;> kernel_rfl
theorem go30 (x0 : Sem Sh.expr) (x1 : Sem shCol.sl) : run (env24) 0 kp30 (Func.results Tryz.f30).toList 400 (bodyOf Tryz.f30) (initSt (Func.ntmps Tryz.f30) [datum Sh.expr x0, datum shCol.sl x1] []) =
  Tr.chk (eMayC (ExprT.mk (ExprT.op x0) (ExprT.v x0) (ExprT.s x0) (ExprT.l x0)))
  (Tr.br (!eMay (ExprT.mk (ExprT.op x0) (ExprT.v x0) (ExprT.s x0) (ExprT.l x0))) (Tr.ok (Leaf.ret (AV.tup [AV.int IntKind.i64 0, AV.int IntKind.i64 1]) []))
    (Tr.chk (typedCN 16 (ExprT.mk (ExprT.op x0) (ExprT.v x0) (ExprT.s x0) (ExprT.l x0)) x1)
      (Tr.ok
        (Leaf.ret
          (AV.tup
            [AV.int IntKind.i64 (typedN 16 (ExprT.mk (ExprT.op x0) (ExprT.v x0) (ExprT.s x0) (ExprT.l x0)) x1).fst,
              AV.int IntKind.i64 (typedN 16 (ExprT.mk (ExprT.op x0) (ExprT.v x0) (ExprT.s x0) (ExprT.l x0)) x1).snd])
          [])))) := by kernel_rfl
def eType (x0 : Sem Sh.expr) (x1 : Sem shCol.sl) : Sem shInt × Sem shInt :=
  if (!eMay x0) = true then (0, 1) else ((typedN 16 x0 x1).fst, (typedN 16 x0 x1).snd)
def eTypeC (x0 : Sem Sh.expr) (x1 : Sem shCol.sl) : Bool :=
  if eMayC x0 = true then if (!eMay x0) = true then true else if typedCN 16 x0 x1 = true then true else false else false
def F30 : FSem := plainC [Sh.expr, shCol.sl] [shInt, shInt] (fun x => eTypeC x.1 x.2.1) fun x => ((eType x.1 x.2.1).1, (eType x.1 x.2.1).2, ())
theorem FOk30 : FOk (env24).P (env24).gl 30 F30 := by
  refine FOk_plainC (ok30) fun x hc C hC => ?_
  unfold eTypeC at hc
  refine reach_ok env24_all env24_mix (ok30) (fun id _ => hC id) (go30 x.1 x.2.1) ?_
  generalize hy : eType x.1 x.2.1 = y
  unfold eType at hy
  try simp only [ExprT.eta]
  repeat' (first | (refine OptOk_br (fun hsp => ?_) (fun hsp => ?_) <;> first | (rw [if_pos hsp] at hy; try rw [if_pos hsp] at hc) | (rw [if_neg (ne_t hsp)] at hy; try rw [if_neg (ne_t hsp)] at hc)) | (have hgi := guard_ite hc; refine OptOk_chk hgi.1 ?_; replace hc := hgi.2; clear hgi) | refine OptOk_chkT ?_)
  all_goals (subst hy; first | rfl)

abbrev kp11 : Nat → Keep := fun j => { }
theorem ok11 : fnChk (env24).P 11 Tryz.f11 3 := by refine ⟨?_, ?_, ?_, ?_⟩ <;> kernel_rfl
theorem go11 (x0 : Sem Sh.expr) (x1 : Sem shCol.sl) (x2 : Sem shVal.sl) : run (env24) 0 kp11 (Func.results Tryz.f11).toList 400 (bodyOf Tryz.f11) (initSt (Func.ntmps Tryz.f11) [datum Sh.expr x0, datum shCol.sl x1, datum shVal.sl x2] []) =
  Tr.chk (eMayC (ExprT.mk (ExprT.op x0) (ExprT.v x0) (ExprT.s x0) (ExprT.l x0)))
  (Tr.br (!eMay (ExprT.mk (ExprT.op x0) (ExprT.v x0) (ExprT.s x0) (ExprT.l x0)))
    (Tr.ok (Leaf.ret (AV.agg [AV.int IntKind.i64 0, AV.int IntKind.i64 0, AV.str []]) []))
    (Tr.chk
      ([97, 110, 100] == [97, 110, 100] &&
        ([111, 114] == [111, 114] &&
          ([110, 111, 116] == [110, 111, 116] &&
            ([61] == [61] && ([60] == [60] && ([43] == [43] && ([45] == [45] && [110, 117, 108, 108] == [110, 117, 108, 108])))))))
      (Tr.chk (valCN 16 x1 x2 (ExprT.mk (ExprT.op x0) (ExprT.v x0) (ExprT.s x0) (ExprT.l x0)))
        (Tr.ok
          (Leaf.ret
            (AV.agg
              [AV.int IntKind.i64 (valN 16 x1 x2 (ExprT.mk (ExprT.op x0) (ExprT.v x0) (ExprT.s x0) (ExprT.l x0))).fst,
                AV.int IntKind.i64 (valN 16 x1 x2 (ExprT.mk (ExprT.op x0) (ExprT.v x0) (ExprT.s x0) (ExprT.l x0))).snd.fst,
                AV.str (valN 16 x1 x2 (ExprT.mk (ExprT.op x0) (ExprT.v x0) (ExprT.s x0) (ExprT.l x0))).snd.snd])
            []))))) := by kernel_rfl
def eEval (x0 : Sem Sh.expr) (x1 : Sem shCol.sl) (x2 : Sem shVal.sl) : Sem shVal :=
  if (!eMay x0) = true then (0, 0, []) else valN 16 x1 x2 x0
def eEvalC (x0 : Sem Sh.expr) (x1 : Sem shCol.sl) (x2 : Sem shVal.sl) : Bool :=
  if eMayC x0 = true then
  if (!eMay x0) = true then true
  else
    if
        ([97, 110, 100] == [97, 110, 100] &&
            ([111, 114] == [111, 114] &&
              ([110, 111, 116] == [110, 111, 116] &&
                ([61] == [61] && ([60] == [60] && ([43] == [43] && ([45] == [45] && [110, 117, 108, 108] == [110, 117, 108, 108]))))))) =
          true then
      if valCN 16 x1 x2 x0 = true then true else false
    else false
else false
def F11 : FSem := plainC [Sh.expr, shCol.sl, shVal.sl] [shVal] (fun x => eEvalC x.1 x.2.1 x.2.2.1) fun x => (eEval x.1 x.2.1 x.2.2.1, ())
theorem FOk11 : FOk (env24).P (env24).gl 11 F11 := by
  refine FOk_plainC (ok11) fun x hc C hC => ?_
  unfold eEvalC at hc
  refine reach_ok env24_all env24_mix (ok11) (fun id _ => hC id) (go11 x.1 x.2.1 x.2.2.1) ?_
  generalize hy : eEval x.1 x.2.1 x.2.2.1 = y
  unfold eEval at hy
  try simp only [ExprT.eta]
  repeat' (first | (refine OptOk_br (fun hsp => ?_) (fun hsp => ?_) <;> first | (rw [if_pos hsp] at hy; try rw [if_pos hsp] at hc) | (rw [if_neg (ne_t hsp)] at hy; try rw [if_neg (ne_t hsp)] at hc)) | (have hgi := guard_ite hc; refine OptOk_chk hgi.1 ?_; replace hc := hgi.2; clear hgi) | refine OptOk_chkT ?_)
  all_goals (subst hy; first | rfl)

noncomputable def env25 : Env := ((env24.add 30 F30).add 11 F11)
theorem env25_all : EnvAll env25 := (EnvAll.addS (EnvAll.addS env24_all (SameE.refl env24) FOk30) ((SameE.refl env24).add _ _) FOk11)
theorem env25_mix : env25.P.follows .mixedOrders = true := (mix_add (mix_add env24_mix _ _) _ _)
end Cad

namespace Cad
open Go Go.Proofs

theorem wrap_small (d : Int) (h1 : -1000 ≤ d) (h2 : d ≤ 1000) : IntKind.i64.wrap d = d := by
  rw [IntKind.wrap_i64]; omega

theorem fewL_true {g : Sem Sh.expr → Sem shInt → Sem shInt → Sem Sh.expr × Sem shInt} {c : Sem Sh.expr → Sem shInt → Sem shInt → Bool} {i1 : Int} (h : ∀ x n, 0 < i1 → c x (IntKind.i64.wrap (i1 - 1)) n = true) {a0 : Str} {a1 a2 : Int} {a3 a4 b0 : Str} {b1 b2 : Int} {b3 b4 d0 : Str} {d1 d2 : Int} {d3 d4 : Str} :
    ∀ (l : List (Sem Sh.expr)) (i n : Int) (acc : List (Sem Sh.expr)), (acc.length : Int) ≤ i → fewSC_10 g c i1 a0 a1 a2 a3 a4 b0 b1 b2 b3 b4 d0 d1 d2 d3 d4 l i n acc = true
  | [], _, _, _, _ => rfl
  | x :: r, i, n, acc, hi => by
    rw [fewSC_10]
    split
    · rename_i hk
      have h3 : i < 3 ∧ i1 > 0 := by
        cases h1 : decide (i < 3) <;> cases h2 : decide (i1 > 0) <;> simp_all
      rw [if_pos (h x n h3.2), if_pos (by simp; omega)]
      exact fewL_true h r (i + 1) _ _ (by simp; omega)
    · rfl

theorem fewSC_true {g : Sem Sh.expr → Sem shInt → Sem shInt → Sem Sh.expr × Sem shInt} {c : Sem Sh.expr → Sem shInt → Sem shInt → Bool} {i1 : Int} (h : ∀ x n, 0 < i1 → c x (IntKind.i64.wrap (i1 - 1)) n = true) (e : ExprT) (n : Int) : fewSC g c e i1 n = true := by
  have hl := fun a0 a1 a2 a3 a4 b0 b1 b2 b3 b4 d0 d1 d2 d3 d4 l n => fewL_true (g := g) h (a0 := a0) (a1 := a1) (a2 := a2) (a3 := a3) (a4 := a4) (b0 := b0) (b1 := b1) (b2 := b2) (b3 := b3) (b4 := b4) (d0 := d0) (d1 := d1) (d2 := d2) (d3 := d3) (d4 := d4) l 0 n [] (by simp)
  unfold fewSC
  repeat' split
  all_goals first
    | exact hl _ _ _ _ _ _ _ _ _ _ _ _ _ _ _ _ _
    | (exfalso; simp only [decide_eq_true_eq, Bool.and_eq_true, not_and] at *; omega)

theorem fewCN_true : ∀ (N : Nat) (e : ExprT) (d n : Int), 0 ≤ d → d < N → N ≤ 100 → fewCN N e d n = true
  | 0, _, _, _, h1, h2, _ => by omega
  | N + 1, e, d, n, h1, h2, h3 => by
    rw [fewCN]
    refine fewSC_true (fun x m hd => ?_) e n
    rw [wrap_small _ (by omega) (by omega)]
    exact fewCN_true N x (d - 1) m (by omega) (by omega) (by omega)

theorem mayLC_true {g : ExprT → Int → Int → Bool × Int} {c : ExprT → Int → Int → Bool} {d : Int} (h : ∀ x n, c x (IntKind.i64.wrap (d + 1)) n = true) : ∀ (l : List ExprT) (n : Int), mayLC g c d l n = true
  | [], _ => rfl
  | x :: r, n => by
    rw [mayLC, if_pos (h x n)]
    split
    · rfl
    · exact mayLC_true h r _

theorem mayCN_true : ∀ (N : Nat) (e : ExprT) (d n : Int), 0 ≤ d → d ≤ 13 → 14 ≤ d + N → mayCN N e d n = true
  | 0, _, _, _, _, _, _ => by omega
  | N + 1, e, d, n, h1, h2, h3 => by
    rw [mayCN]
    unfold maySC
    by_cases hd : d > 12
    · simp [hd]
    · have hl : mayLC (mayN N) (mayCN N) d e.l (IntKind.i64.wrap (n + 1)) = true := mayLC_true (fun x m => by
        rw [wrap_small _ (by omega) (by omega)]
        exact mayCN_true N x (d + 1) m (by omega) (by omega) (by omega)) _ _
      repeat' split
      all_goals first | rfl | exact hl

abbrev nilE : ExprT := .mk [] (0, 0, []) [] []

theorem sameCN_nil (N : Nat) (e : ExprT) : sameCN (N + 1) e nilE = true := by
  rw [sameCN]
  unfold sameSC
  have hl : eqLsC (sameN N) (sameCN N) e.l [] = true := by
    unfold eqLsC
    split
    · rfl
    · cases e.l <;> rfl
  show (bif e.op == [] then bif eqV e.v (0, 0, []) then bif e.s == [] then eqLsC (sameN N) (sameCN N) e.l [] else true else true else true) = true
  rw [hl]
  cases e.op == [] <;> cases eqV e.v (0, 0, []) <;> cases e.s == [] <;> rfl

theorem ixFrom_range {α : Type} (p : α → Bool) : ∀ (l : List α) (i : Nat), ixFrom p l i = -1 ∨ ((i : Int) ≤ ixFrom p l i ∧ ixFrom p l i < i + l.length)
  | [], _ => .inl rfl
  | x :: r, i => by
    unfold ixFrom
    split
    · exact .inr ⟨by omega, by simp; omega⟩
    · rcases ixFrom_range p r (i + 1) with h | ⟨h1, h2⟩
      · exact .inl h
      · exact .inr ⟨by omega, by simp; omega⟩

theorem cPlace_range (l : List (Sem shCol)) (s : Str) : cPlace l s = -1 ∨ (0 ≤ cPlace l s ∧ cPlace l s < l.length) := by
  have := ixFrom_range (fun c : Sem shCol => c.1 == s) l 0
  unfold cPlace
  simpa using this

theorem parts_cases (op : Str) : (partsN op = 0 ∧ (op = [108, 105, 116] ∨ op = [99, 111, 108])) ∨ (partsN op = 1 ∧ (op = [110, 111, 116] ∨ op = [110, 117, 108, 108])) ∨
    (partsN op = 2 ∧ (op = [97, 110, 100] ∨ op = [111, 114] ∨ op = [61] ∨ op = [60] ∨ op = [43] ∨ op = [45])) ∨ partsN op = -1 := by
  unfold partsN partL
  simp only [swV]
  repeat' split
  all_goals simp_all

/-- What 'may' says of an expression that has parts. -/
theorem mayS_true {g : ExprT → Int → Int → Bool × Int} {e : ExprT} {d n : Int} (h : (mayS g e d n).1 = true) : (e.l.length : Int) = partsN e.op ∧
    ((e.op = [108, 105, 116] ∨ e.op = [99, 111, 108]) ∨ (mayL g d e.l (IntKind.i64.wrap (n + 1))).1 = true) := by
  unfold mayS at h
  split at h
  · cases h
  · rename_i h1
    have hl : (e.l.length : Int) = partsN e.op := by
      cases h2 : decide (d > 12) <;> cases h3 : decide (IntKind.i64.wrap (n + 1) > 60) <;> simp_all
    refine ⟨hl, ?_⟩
    split at h
    · rename_i h2; exact .inl (.inl (by simpa using h2))
    · split at h
      · rename_i h2; exact .inl (.inr (by simpa using h2))
      · split at h
        · cases h
        · exact .inr h

theorem mayL_all {g : ExprT → Int → Int → Bool × Int} {d : Int} : ∀ (l : List ExprT) (n : Int), (mayL g d l n).1 = true → ∀ x ∈ l, ∃ m, (g x (IntKind.i64.wrap (d + 1)) m).1 = true
  | [], _, _, _, hx => by simp at hx
  | y :: r, n, h, x, hx => by
    rw [mayL] at h
    split at h
    · cases h
    · rename_i hy
      rcases List.mem_cons.1 hx with rfl | hx
      · exact ⟨n, by simpa using hy⟩
      · exact mayL_all r _ h x hx

theorem typedL_true {g : ExprT → List (Sem shCol) → Int × Int} {c : ExprT → List (Sem shCol) → Bool} {cols : List (Sem shCol)} {op : Str} {a1 a2 : Int} {a3 a4 : Str} {w : List ExprT} :
    ∀ (l : List ExprT) (i : Int) (acc : List Int), (∀ x ∈ l, c x cols = true) → ((acc.length : Int) + l.length) = partsN op → typedSC_3 g c cols op a1 a2 a3 a4 w l i acc = true
  | [], i, acc, _, hp => by
    have hp : (acc.length : Int) = partsN op := by simpa using hp
    have hcp : decide (cPlace cols a4 < 0) = true ∨ inB (cPlace cols a4) cols.length = true := by
      rcases cPlace_range cols a4 with h | ⟨h1, h2⟩
      · exact .inl (by rw [h]; rfl)
      · exact .inr (by simp [inB, h1, h2])
    have h2 : op = [61] ∨ op = [60] → acc.length = 2 := by
      rintro (rfl | rfl)
      · have : partsN [61] = 2 := by decide
        omega
      · have : partsN [60] = 2 := by decide
        omega
    unfold typedSC_3
    repeat' split
    all_goals first
      | rfl
      | (exfalso; rcases hcp with h | h <;> simp_all; done)
      | (exfalso
         rename_i h7 h8
         have h9 := h2 (by simp_all)
         rw [h9] at h8
         exact h8 (by cases hA : (acc.getD (Int.toNat 0) (dflt shInt) == acc.getD (Int.toNat 1) (dflt shInt)) <;> cases hB : (acc.getD (Int.toNat 0) (dflt shInt) == 0) <;> rfl))
  | x :: r, i, acc, hc, hp => by
    have hle : partsN op ≤ 2 := by rcases parts_cases op with h | h | h | h <;> omega
    rw [typedSC_3, if_pos (hc x (by simp))]
    split
    · rfl
    · rw [if_pos (by simp at hp ⊢; omega)]
      exact typedL_true r (i + 1) _ (fun y hy => hc y (by simp [hy])) (by simp at hp ⊢; omega)

theorem typedCN_true : ∀ (N : Nat) (e : ExprT) (d n : Int) (cols : List (Sem shCol)), (mayN N e d n).1 = true → typedCN N e cols = true
  | 0, _, _, _, _, h => by cases h
  | N + 1, e, d, n, cols, h => by
    rw [mayN] at h
    obtain ⟨hl, h2⟩ := mayS_true h
    rw [typedCN]
    unfold typedSC
    refine typedL_true e.l 0 [] (fun x hx => ?_) (by simpa using hl)
    rcases h2 with h2 | h2
    · exfalso
      have : partsN e.op = 0 := by
        rcases h2 with h2 | h2 <;> rw [h2] <;> decide
      rw [this] at hl
      have : e.l = [] := List.eq_nil_of_length_eq_zero (by omega)
      rw [this] at hx; simp at hx
    · obtain ⟨m, hm⟩ := mayL_all e.l _ h2 x hx
      exact typedCN_true N x _ _ cols hm

theorem valCN_true : ∀ (N : Nat) (e : ExprT) (d n : Int) (cols : List (Sem shCol)) (row : List (Sem shVal)), (mayN N e d n).1 = true → valCN N cols row e = true
  | 0, _, _, _, _, _, h => by cases h
  | N + 1, .mk op v s l, d, n, cols, row, h => by
    rw [mayN] at h
    obtain ⟨hl, h2⟩ := mayS_true h
    have hl : (l.length : Int) = partsN op := hl
    have h2 : (op = [108, 105, 116] ∨ op = [99, 111, 108]) ∨ (mayL (mayN N) d l (IntKind.i64.wrap (n + 1))).1 = true := h2
    have hx : ∀ x ∈ l, (¬ (op = [108, 105, 116] ∨ op = [99, 111, 108])) → valCN N cols row x = true := by
      intro x hx hno
      rcases h2 with h2 | h2
      · exact (hno h2).elim
      · obtain ⟨m, hm⟩ := mayL_all l _ h2 x hx
        exact valCN_true N x _ _ cols row hm
    have hcol : (if (bif decide (cPlace cols s < 0) then true else decide (cPlace cols s ≥ (↑row.length : Int))) = true then true else inB (cPlace cols s) row.length) = true := by
      split
      · rfl
      · rename_i hh
        have h1 : 0 ≤ cPlace cols s ∧ cPlace cols s < row.length := by
          cases hq : decide (cPlace cols s < 0)
          · rw [hq] at hh
            simp at hq hh
            exact ⟨hq, hh⟩
          · rw [hq] at hh; simp at hh
        simp [inB, h1.1, h1.2]
    rw [valCN]
    rcases parts_cases op with ⟨hp, ho⟩ | ⟨hp, ho⟩ | ⟨hp, ho⟩ | hp
    · have : l = [] := List.eq_nil_of_length_eq_zero (by omega)
      subst this
      rcases ho with rfl | rfl
      · rfl
      · rw [valSC]; exact hcol
    · match l, hl, hx with
      | [a], _, hx =>
        rcases ho with rfl | rfl
        · rw [valSC]; exact (if_pos (hx a (by simp) (by decide))).trans rfl
        · rw [valSC]; exact (if_pos (hx a (by simp) (by decide))).trans rfl
      | [], hl, _ => simp at hl; omega
      | _ :: _ :: _, hl, _ => simp at hl; omega
    · match l, hl, hx with
      | [a, b], _, hx =>
        rcases ho with rfl | rfl | rfl | rfl | rfl | rfl <;>
          (rw [valSC]; exact (if_pos (hx a (by simp) (by decide))).trans ((if_pos (hx b (by simp) (by decide))).trans rfl))
      | [], hl, _ => simp at hl; omega
      | [_], hl, _ => simp at hl; omega
      | _ :: _ :: _ :: _, hl, _ => simp at hl; omega
    · omega

theorem eMayC_true (e : ExprT) : eMayC e = true := by
  unfold eMayC
  rw [if_pos (mayCN_true 16 e 1 0 (by omega) (by omega) (by omega))]
theorem eFewC_true (e : ExprT) : eFewC e = true := by
  unfold eFewC
  rw [if_pos (fewCN_true 16 e 14 80 (by omega) (by omega) (by omega))]
theorem eTypeC_true (e : ExprT) (cols : List (Sem shCol)) : eTypeC e cols = true := by
  unfold eTypeC
  rw [if_pos (eMayC_true e)]
  split
  · rfl
  · rename_i h
    rw [if_pos (typedCN_true 16 e 1 0 cols (by simpa [eMay] using h))]
theorem eEvalC_true (e : ExprT) (cols : List (Sem shCol)) (row : List (Sem shVal)) : eEvalC e cols row = true := by
  unfold eEvalC
  rw [if_pos (eMayC_true e)]
  split
  · rfl
  · rename_i h
    rw [if_pos (by decide), if_pos (valCN_true 16 e 1 0 cols row (by simpa [eMay] using h))]

def F22t : FSem := plainT [Sh.expr] [Sh.bool] fun x => (eMay x.1, ())
theorem FOk22t : FOk env25.P env25.gl 22 F22t := FOk_tot FOk22 fun x => eMayC_true x.1
def F7t : FSem := plainT [Sh.expr] [Sh.expr] fun x => (eFew x.1, ())
theorem FOk7t : FOk env25.P env25.gl 7 F7t := FOk_tot FOk7 fun x => eFewC_true x.1
def F30t : FSem := plainT [Sh.expr, shCol.sl] [shInt, shInt] fun x => ((eType x.1 x.2.1).1, (eType x.1 x.2.1).2, ())
theorem FOk30t : FOk env25.P env25.gl 30 F30t := FOk_tot FOk30 fun x => eTypeC_true x.1 x.2.1
def F11t : FSem := plainT [Sh.expr, shCol.sl, shVal.sl] [shVal] fun x => (eEval x.1 x.2.1 x.2.2.1, ())
theorem FOk11t : FOk env25.P env25.gl 11 F11t := FOk_tot FOk11 fun x => eEvalC_true x.1 x.2.1 x.2.2.1

noncomputable def env26 : Env := ((((env25.add 22 F22t).add 7 F7t).add 30 F30t).add 11 F11t)
theorem env26_all : EnvAll env26 := (EnvAll.addS (EnvAll.addS (EnvAll.addS (EnvAll.addS env25_all (SameE.refl env25) FOk22t) ((SameE.refl env25).add _ _) FOk7t) (((SameE.refl env25).add _ _).add _ _) FOk30t) ((((SameE.refl env25).add _ _).add _ _).add _ _) FOk11t)
theorem env26_mix : env26.P.follows .mixedOrders = true := (mix_add (mix_add (mix_add (mix_add env25_mix _ _) _ _) _ _) _ _)
end Cad

namespace Cad
open Go Go.Proofs

abbrev kp19 : Nat → Keep := fun j => { }
theorem ok19 : fnChk (env26).P 19 Tryz.f19 2 := by refine ⟨?_, ?_, ?_, ?_⟩ <;> kernel_rfl
theorem go19 (x0 : Sem Sh.expr) (x1 : Sem shCol.sl) : run (env26) 0 kp19 (Func.results Tryz.f19).toList 400 (bodyOf Tryz.f19) (initSt (Func.ntmps Tryz.f19) [datum Sh.expr x0, datum shCol.sl x1] []) =
  Tr.chk (sameCN 16 (ExprT.mk (ExprT.op x0) (ExprT.v x0) (ExprT.s x0) (ExprT.l x0)) (ExprT.mk [] (0, 0, []) [] []))
  (Tr.br (sameN 16 (ExprT.mk (ExprT.op x0) (ExprT.v x0) (ExprT.s x0) (ExprT.l x0)) (ExprT.mk [] (0, 0, []) [] [])) (Tr.ok (Leaf.ret (AV.int IntKind.i64 0) []))
    (Tr.br
      (bif (eType (ExprT.mk (ExprT.op x0) (ExprT.v x0) (ExprT.s x0) (ExprT.l x0)) x1).snd == 0 then
        bif (eType (ExprT.mk (ExprT.op x0) (ExprT.v x0) (ExprT.s x0) (ExprT.l x0)) x1).fst != 3 then
          (eType (ExprT.mk (ExprT.op x0) (ExprT.v x0) (ExprT.s x0) (ExprT.l x0)) x1).fst != 0
        else false
      else false)
      (Tr.ok (Leaf.ret (AV.int IntKind.i64 5) []))
      (Tr.ok (Leaf.ret (AV.int IntKind.i64 (eType (ExprT.mk (ExprT.op x0) (ExprT.v x0) (ExprT.s x0) (ExprT.l x0)) x1).snd) [])))) := by kernel_rfl
def sCheck (x0 : Sem Sh.expr) (x1 : Sem shCol.sl) : Sem shInt :=
  (if sameN 16 x0 (ExprT.mk [] (0, 0, []) [] []) = true then 0
else if (bif (eType x0 x1).snd == 0 then bif (eType x0 x1).fst != 3 then (eType x0 x1).fst != 0 else false else false) = true then 5 else (eType x0 x1).snd)
def sCheckC (x0 : Sem Sh.expr) (x1 : Sem shCol.sl) : Bool :=
  (if sameCN 16 x0 (ExprT.mk [] (0, 0, []) [] []) = true then true else false)
def F19 : FSem := plainC [Sh.expr, shCol.sl] [shInt] (fun x => sCheckC x.1 x.2.1) fun x => (sCheck x.1 x.2.1, ())
theorem FOk19 : FOk (env26).P (env26).gl 19 F19 := by
  refine FOk_plainC (ok19) fun x hc C hC => ?_
  unfold sCheckC at hc
  refine reach_ok env26_all env26_mix (ok19) (fun id _ => hC id) (go19 x.1 x.2.1) ?_
  generalize hy : sCheck x.1 x.2.1 = y
  unfold sCheck at hy
  try simp only [ExprT.eta]
  repeat' (first | (refine OptOk_br (fun hsp => ?_) (fun hsp => ?_) <;> first | (rw [if_pos hsp] at hy; try rw [if_pos hsp] at hc) | (rw [if_neg (ne_t hsp)] at hy; try rw [if_neg (ne_t hsp)] at hc)) | (have hgi := guard_ite hc; refine OptOk_chk hgi.1 ?_; replace hc := hgi.2; clear hgi) | refine OptOk_chkT ?_)
  all_goals (subst hy; first | rfl)

abbrev kp5 : Nat → Keep := fun j => if j = 3 then { slots := [1, 2, 3, 4], prom := [(3, some 3, shInt)] } else if j = 7 then { slots := [1, 2, 3, 5], prom := [(3, some 4, shFor)] } else { }
abbrev s5_3 (i4 : Int) (sh_0_0 : Sem Sh.str) (lh_0_1 : List (Sem shCol)) (ih_0_2 : Sem shInt) (lh_0_3 : List (Sem shInt)) (lh_0_4 : List (Sem shFor)) (sh_0_5 : Str) (ih_0_6 : Int) (ih_0_7 : Int) (sh_0_8 : Str) (sh_0_9 : Str) (lh_0_10 : List (Sem Sh.expr)) (sh_1_0 : List UInt8) (ih_1_2 : Int) (sh_1_5 : List UInt8) (ih_1_6 : Int) (ih_1_7 : Int) (sh_1_8 : List UInt8) (sh_1_9 : List UInt8) (sh_2_0 : Sem Sh.str) (lh_2_1 : List (Sem shCol)) (ih_2_2 : Sem shInt) (sh_2_5 : Str) (ih_2_6 : Int) (ih_2_7 : Int) (sh_2_8 : Str) (sh_2_9 : Str) (lh_2_10 : List (Sem Sh.expr)) (lh_3 : List (Sem shInt)) : St := {
  tmps :=
    [AV.any, AV.ptr 0 0, AV.ptr 1 0, AV.ptr 2 0, AV.int IntKind.i64 i4, AV.any, AV.any, AV.any, AV.any, AV.any, AV.any, AV.any, AV.any, AV.any, AV.any, AV.any,
      AV.any, AV.any, AV.any, AV.any, AV.any, AV.any, AV.any, AV.any, AV.any, AV.any, AV.any, AV.any, AV.any, AV.any, AV.any, AV.any, AV.any, AV.any, AV.any,
      AV.any, AV.any, AV.any, AV.any, AV.any, AV.any, AV.any, AV.any, AV.any, AV.any, AV.any, AV.any, AV.any, AV.any, AV.any, AV.any, AV.any, AV.any, AV.any,
      AV.any, AV.any, AV.any, AV.any, AV.any, AV.any, AV.any, AV.any, AV.any, AV.any, AV.any, AV.any, AV.any, AV.any, AV.any, AV.any],
  heap :=
    [AO.box
        [AV.str sh_0_0, AV.sl shCol lh_0_1, AV.int IntKind.i64 ih_0_2, AV.sl shInt lh_0_3,
          AV.sl shFor lh_0_4, AV.str sh_0_5, AV.int IntKind.i64 ih_0_6, AV.int IntKind.i64 ih_0_7, AV.str sh_0_8, AV.str sh_0_9,
          AV.sl Sh.expr lh_0_10],
      AO.box
        [AV.str sh_1_0, AV.nils, AV.int IntKind.i64 ih_1_2, AV.nils, AV.nils, AV.str sh_1_5, AV.int IntKind.i64 ih_1_6, AV.int IntKind.i64 ih_1_7,
          AV.str sh_1_8, AV.str sh_1_9, AV.nils],
      AO.box
        [AV.str sh_2_0, AV.sl shCol lh_2_1, AV.int IntKind.i64 ih_2_2, AV.vec 3, AV.nils, AV.str sh_2_5,
          AV.int IntKind.i64 ih_2_6, AV.int IntKind.i64 ih_2_7, AV.str sh_2_8, AV.str sh_2_9, AV.sl Sh.expr lh_2_10],
      AO.vec shInt lh_3] }
theorem ok5 : fnChk (env26).P 5 Tryz.f5 1 := by refine ⟨?_, ?_, ?_, ?_⟩ <;> kernel_rfl
theorem go5 (x0 : Sem shTable) : run (env26) 0 kp5 (Func.results Tryz.f5).toList 400 (bodyOf Tryz.f5) (initSt (Func.ntmps Tryz.f5) [datum shTable x0] []) =
  Tr.ok
  (Leaf.head 3 (headK Tryz.f5 3)
    (s5_3 0 x0.fst x0.snd.fst x0.snd.snd.fst x0.snd.snd.snd.fst x0.snd.snd.snd.snd.fst (ExprT.op x0.snd.snd.snd.snd.snd) (ExprT.v x0.snd.snd.snd.snd.snd).fst
      (ExprT.v x0.snd.snd.snd.snd.snd).snd.fst (ExprT.v x0.snd.snd.snd.snd.snd).snd.snd (ExprT.s x0.snd.snd.snd.snd.snd) (ExprT.l x0.snd.snd.snd.snd.snd) [] 0
      [] 0 0 [] [] (sFew x0.fst) (lCols x0.snd.fst) x0.snd.snd.fst
      (ExprT.op
        (eFew (ExprT.mk (ExprT.op x0.snd.snd.snd.snd.snd) (ExprT.v x0.snd.snd.snd.snd.snd) (ExprT.s x0.snd.snd.snd.snd.snd) (ExprT.l x0.snd.snd.snd.snd.snd))))
      (ExprT.v
          (eFew
            (ExprT.mk (ExprT.op x0.snd.snd.snd.snd.snd) (ExprT.v x0.snd.snd.snd.snd.snd) (ExprT.s x0.snd.snd.snd.snd.snd)
              (ExprT.l x0.snd.snd.snd.snd.snd)))).fst
      (ExprT.v
            (eFew
              (ExprT.mk (ExprT.op x0.snd.snd.snd.snd.snd) (ExprT.v x0.snd.snd.snd.snd.snd) (ExprT.s x0.snd.snd.snd.snd.snd)
                (ExprT.l x0.snd.snd.snd.snd.snd)))).snd.fst
      (ExprT.v
            (eFew
              (ExprT.mk (ExprT.op x0.snd.snd.snd.snd.snd) (ExprT.v x0.snd.snd.snd.snd.snd) (ExprT.s x0.snd.snd.snd.snd.snd)
                (ExprT.l x0.snd.snd.snd.snd.snd)))).snd.snd
      (ExprT.s
        (eFew (ExprT.mk (ExprT.op x0.snd.snd.snd.snd.snd) (ExprT.v x0.snd.snd.snd.snd.snd) (ExprT.s x0.snd.snd.snd.snd.snd) (ExprT.l x0.snd.snd.snd.snd.snd))))
      (ExprT.l
        (eFew (ExprT.mk (ExprT.op x0.snd.snd.snd.snd.snd) (ExprT.v x0.snd.snd.snd.snd.snd) (ExprT.s x0.snd.snd.snd.snd.snd) (ExprT.l x0.snd.snd.snd.snd.snd))))
      [])) := by kernel_rfl
abbrev s5_7 (i5 : Int) (sh_0_0 : Sem Sh.str) (lh_0_1 : List (Sem shCol)) (ih_0_2 : Sem shInt) (lh_0_3 : List (Sem shInt)) (lh_0_4 : List (Sem shFor)) (sh_0_5 : Str) (ih_0_6 : Int) (ih_0_7 : Int) (sh_0_8 : Str) (sh_0_9 : Str) (lh_0_10 : List (Sem Sh.expr)) (sh_1_0 : List UInt8) (ih_1_2 : Int) (sh_1_5 : List UInt8) (ih_1_6 : Int) (ih_1_7 : Int) (sh_1_8 : List UInt8) (sh_1_9 : List UInt8) (sh_2_0 : Sem Sh.str) (lh_2_1 : List (Sem shCol)) (ih_2_2 : Sem shInt) (sh_2_5 : Str) (ih_2_6 : Int) (ih_2_7 : Int) (sh_2_8 : Str) (sh_2_9 : Str) (lh_2_10 : List (Sem Sh.expr)) (lh_3 : List (Sem shInt)) (lh_4 : List (Sem shFor)) : St := {
  tmps :=
    [AV.any, AV.ptr 0 0, AV.ptr 1 0, AV.ptr 2 0, AV.any, AV.int IntKind.i64 i5, AV.any, AV.any, AV.any, AV.any, AV.any, AV.any, AV.any, AV.any, AV.any, AV.any,
      AV.any, AV.any, AV.any, AV.any, AV.any, AV.any, AV.any, AV.any, AV.any, AV.any, AV.any, AV.any, AV.any, AV.any, AV.any, AV.any, AV.any, AV.any, AV.any,
      AV.any, AV.any, AV.any, AV.any, AV.any, AV.any, AV.any, AV.any, AV.any, AV.any, AV.any, AV.any, AV.any, AV.any, AV.any, AV.any, AV.any, AV.any, AV.any,
      AV.any, AV.any, AV.any, AV.any, AV.any, AV.any, AV.any, AV.any, AV.any, AV.any, AV.any, AV.any, AV.any, AV.any, AV.any, AV.any],
  heap :=
    [AO.box
        [AV.str sh_0_0, AV.sl shCol lh_0_1, AV.int IntKind.i64 ih_0_2, AV.sl shInt lh_0_3,
          AV.sl shFor lh_0_4, AV.str sh_0_5, AV.int IntKind.i64 ih_0_6, AV.int IntKind.i64 ih_0_7, AV.str sh_0_8, AV.str sh_0_9,
          AV.sl Sh.expr lh_0_10],
      AO.box
        [AV.str sh_1_0, AV.nils, AV.int IntKind.i64 ih_1_2, AV.nils, AV.nils, AV.str sh_1_5, AV.int IntKind.i64 ih_1_6, AV.int IntKind.i64 ih_1_7,
          AV.str sh_1_8, AV.str sh_1_9, AV.nils],
      AO.box
        [AV.str sh_2_0, AV.sl shCol lh_2_1, AV.int IntKind.i64 ih_2_2, AV.vec 3, AV.vec 4, AV.str sh_2_5,
          AV.int IntKind.i64 ih_2_6, AV.int IntKind.i64 ih_2_7, AV.str sh_2_8, AV.str sh_2_9, AV.sl Sh.expr lh_2_10],
      AO.vec shInt lh_3, AO.vec shFor lh_4] }
theorem on5_3 (i4 : Int) (sh_0_0 : Sem Sh.str) (lh_0_1 : List (Sem shCol)) (ih_0_2 : Sem shInt) (lh_0_3 : List (Sem shInt)) (lh_0_4 : List (Sem shFor)) (sh_0_5 : Str) (ih_0_6 : Int) (ih_0_7 : Int) (sh_0_8 : Str) (sh_0_9 : Str) (lh_0_10 : List (Sem Sh.expr)) (sh_1_0 : List UInt8) (ih_1_2 : Int) (sh_1_5 : List UInt8) (ih_1_6 : Int) (ih_1_7 : Int) (sh_1_8 : List UInt8) (sh_1_9 : List UInt8) (sh_2_0 : Sem Sh.str) (lh_2_1 : List (Sem shCol)) (ih_2_2 : Sem shInt) (sh_2_5 : Str) (ih_2_6 : Int) (ih_2_7 : Int) (sh_2_8 : Str) (sh_2_9 : Str) (lh_2_10 : List (Sem Sh.expr)) (lh_3 : List (Sem shInt)) : run (env26) 0 kp5 (Func.results Tryz.f5).toList 400 (headK Tryz.f5 3) (s5_3 i4 sh_0_0 lh_0_1 ih_0_2 lh_0_3 lh_0_4 sh_0_5 ih_0_6 ih_0_7 sh_0_8 sh_0_9 lh_0_10 sh_1_0 ih_1_2 sh_1_5 ih_1_6 ih_1_7 sh_1_8 sh_1_9 sh_2_0 lh_2_1 ih_2_2 sh_2_5 ih_2_6 ih_2_7 sh_2_8 sh_2_9 lh_2_10 lh_3) =
  Tr.br (bif decide (i4 < (↑lh_0_3.length : Int)) then decide (i4 < 10) else false)
  (Tr.chk (inB i4 lh_0_3.length)
    (Tr.chk (decide (lh_3.length + [lh_0_3.getD i4.toNat (dflt shInt)].length ≤ 1073741824))
      (Tr.ok
        (Leaf.head 3 (headK Tryz.f5 3)
          (s5_3 (IntKind.i64.wrap (i4 + 1)) sh_0_0 lh_0_1 ih_0_2 lh_0_3 lh_0_4 sh_0_5 ih_0_6 ih_0_7 sh_0_8 sh_0_9 lh_0_10 sh_1_0 ih_1_2 sh_1_5 ih_1_6 ih_1_7
            sh_1_8 sh_1_9 sh_2_0 lh_2_1 ih_2_2 sh_2_5 ih_2_6 ih_2_7 sh_2_8 sh_2_9 lh_2_10 (lh_3 ++ [lh_0_3.getD i4.toNat (dflt shInt)]))))))
  (Tr.ok
    (Leaf.head 7 (headK Tryz.f5 7)
      (s5_7 0 sh_0_0 lh_0_1 ih_0_2 lh_0_3 lh_0_4 sh_0_5 ih_0_6 ih_0_7 sh_0_8 sh_0_9 lh_0_10 sh_1_0 ih_1_2 sh_1_5 ih_1_6 ih_1_7 sh_1_8 sh_1_9 sh_2_0 lh_2_1
        ih_2_2 sh_2_5 ih_2_6 ih_2_7 sh_2_8 sh_2_9 lh_2_10 lh_3 []))) := by kernel_rfl
theorem on5_7 (i5 : Int) (sh_0_0 : Sem Sh.str) (lh_0_1 : List (Sem shCol)) (ih_0_2 : Sem shInt) (lh_0_3 : List (Sem shInt)) (lh_0_4 : List (Sem shFor)) (sh_0_5 : Str) (ih_0_6 : Int) (ih_0_7 : Int) (sh_0_8 : Str) (sh_0_9 : Str) (lh_0_10 : List (Sem Sh.expr)) (sh_1_0 : List UInt8) (ih_1_2 : Int) (sh_1_5 : List UInt8) (ih_1_6 : Int) (ih_1_7 : Int) (sh_1_8 : List UInt8) (sh_1_9 : List UInt8) (sh_2_0 : Sem Sh.str) (lh_2_1 : List (Sem shCol)) (ih_2_2 : Sem shInt) (sh_2_5 : Str) (ih_2_6 : Int) (ih_2_7 : Int) (sh_2_8 : Str) (sh_2_9 : Str) (lh_2_10 : List (Sem Sh.expr)) (lh_3 : List (Sem shInt)) (lh_4 : List (Sem shFor)) : run (env26) 0 kp5 (Func.results Tryz.f5).toList 400 (headK Tryz.f5 7) (s5_7 i5 sh_0_0 lh_0_1 ih_0_2 lh_0_3 lh_0_4 sh_0_5 ih_0_6 ih_0_7 sh_0_8 sh_0_9 lh_0_10 sh_1_0 ih_1_2 sh_1_5 ih_1_6 ih_1_7 sh_1_8 sh_1_9 sh_2_0 lh_2_1 ih_2_2 sh_2_5 ih_2_6 ih_2_7 sh_2_8 sh_2_9 lh_2_10 lh_3 lh_4) =
  Tr.br (bif decide (i5 < (↑lh_0_4.length : Int)) then decide (i5 < 10) else false)
  (Tr.chk (inB i5 lh_0_4.length)
    (Tr.chk (inB i5 lh_0_4.length)
      (Tr.chk
        (decide
          (lh_4.length +
              [((lh_0_4.getD i5.toNat (dflt shFor)).fst,
                    sFew (lh_0_4.getD i5.toNat (dflt shFor)).snd)].length ≤
            1073741824))
        (Tr.ok
          (Leaf.head 7 (headK Tryz.f5 7)
            (s5_7 (IntKind.i64.wrap (i5 + 1)) sh_0_0 lh_0_1 ih_0_2 lh_0_3 lh_0_4 sh_0_5 ih_0_6 ih_0_7 sh_0_8 sh_0_9 lh_0_10 sh_1_0 ih_1_2 sh_1_5 ih_1_6 ih_1_7
              sh_1_8 sh_1_9 sh_2_0 lh_2_1 ih_2_2 sh_2_5 ih_2_6 ih_2_7 sh_2_8 sh_2_9 lh_2_10 lh_3
              (lh_4 ++
                [((lh_0_4.getD i5.toNat (dflt shFor)).fst,
                    sFew (lh_0_4.getD i5.toNat (dflt shFor)).snd)])))))))
  (Tr.ok
    (Leaf.ret
      (AV.agg
        [AV.str sh_2_0, AV.sl shCol lh_2_1, AV.int IntKind.i64 ih_2_2, AV.vec 0, AV.vec 1, AV.str sh_2_5,
          AV.int IntKind.i64 ih_2_6, AV.int IntKind.i64 ih_2_7, AV.str sh_2_8, AV.str sh_2_9, AV.sl Sh.expr lh_2_10])
      [AO.vec shInt lh_3, AO.vec shFor lh_4])) := by kernel_rfl
def tFew_7 (sh_0_0 : Sem Sh.str) (lh_0_1 : List (Sem shCol)) (ih_0_2 : Sem shInt) (lh_0_3 : List (Sem shInt)) (sh_0_5 : Str) (ih_0_6 : Int) (ih_0_7 : Int) (sh_0_8 : Str) (sh_0_9 : Str) (lh_0_10 : List (Sem Sh.expr)) (sh_1_0 : List UInt8) (ih_1_2 : Int) (sh_1_5 : List UInt8) (ih_1_6 : Int) (ih_1_7 : Int) (sh_1_8 : List UInt8) (sh_1_9 : List UInt8) (sh_2_0 : Sem Sh.str) (lh_2_1 : List (Sem shCol)) (ih_2_2 : Sem shInt) (sh_2_5 : Str) (ih_2_6 : Int) (ih_2_7 : Int) (sh_2_8 : Str) (sh_2_9 : Str) (lh_2_10 : List (Sem Sh.expr)) (lh_3 : List (Sem shInt)) : List (Sem shFor) → Int → List (Sem shFor) → Sem shTable
  | [], i5, lh_4 => ((sh_2_0, lh_2_1, ih_2_2, lh_3, lh_4, ExprT.mk sh_2_5 (ih_2_6, ih_2_7, sh_2_8) sh_2_9 lh_2_10))
  | x :: r, i5, lh_4 => (if decide (i5 < 10) = true then
  tFew_7 sh_0_0 lh_0_1 ih_0_2 lh_0_3 sh_0_5 ih_0_6 ih_0_7 sh_0_8 sh_0_9 lh_0_10 sh_1_0 ih_1_2 sh_1_5 ih_1_6 ih_1_7 sh_1_8 sh_1_9 sh_2_0 lh_2_1 ih_2_2 sh_2_5
    ih_2_6 ih_2_7 sh_2_8 sh_2_9 lh_2_10 lh_3 r (i5 + 1) (lh_4 ++ [(x.fst, sFew x.snd)])
else (sh_2_0, lh_2_1, ih_2_2, lh_3, lh_4, ExprT.mk sh_2_5 (ih_2_6, ih_2_7, sh_2_8) sh_2_9 lh_2_10))
def tFewC_7 (sh_0_0 : Sem Sh.str) (lh_0_1 : List (Sem shCol)) (ih_0_2 : Sem shInt) (lh_0_3 : List (Sem shInt)) (sh_0_5 : Str) (ih_0_6 : Int) (ih_0_7 : Int) (sh_0_8 : Str) (sh_0_9 : Str) (lh_0_10 : List (Sem Sh.expr)) (sh_1_0 : List UInt8) (ih_1_2 : Int) (sh_1_5 : List UInt8) (ih_1_6 : Int) (ih_1_7 : Int) (sh_1_8 : List UInt8) (sh_1_9 : List UInt8) (sh_2_0 : Sem Sh.str) (lh_2_1 : List (Sem shCol)) (ih_2_2 : Sem shInt) (sh_2_5 : Str) (ih_2_6 : Int) (ih_2_7 : Int) (sh_2_8 : Str) (sh_2_9 : Str) (lh_2_10 : List (Sem Sh.expr)) (lh_3 : List (Sem shInt)) : List (Sem shFor) → Int → List (Sem shFor) → Bool
  | [], i5, lh_4 => (true)
  | x :: r, i5, lh_4 => (if decide (i5 < 10) = true then
  if decide (lh_4.length + [(x.fst, sFew x.snd)].length ≤ 1073741824) = true then
    tFewC_7 sh_0_0 lh_0_1 ih_0_2 lh_0_3 sh_0_5 ih_0_6 ih_0_7 sh_0_8 sh_0_9 lh_0_10 sh_1_0 ih_1_2 sh_1_5 ih_1_6 ih_1_7 sh_1_8 sh_1_9 sh_2_0 lh_2_1 ih_2_2 sh_2_5
      ih_2_6 ih_2_7 sh_2_8 sh_2_9 lh_2_10 lh_3 r (i5 + 1) (lh_4 ++ [(x.fst, sFew x.snd)])
  else false
else true)
theorem at5_7 {C : Ctx} (hC : ∀ id, C.ρ0 id = none) (sh_0_0 : Sem Sh.str) (lh_0_1 : List (Sem shCol)) (ih_0_2 : Sem shInt) (lh_0_3 : List (Sem shInt)) (sh_0_5 : Str) (ih_0_6 : Int) (ih_0_7 : Int) (sh_0_8 : Str) (sh_0_9 : Str) (lh_0_10 : List (Sem Sh.expr)) (sh_1_0 : List UInt8) (ih_1_2 : Int) (sh_1_5 : List UInt8) (ih_1_6 : Int) (ih_1_7 : Int) (sh_1_8 : List UInt8) (sh_1_9 : List UInt8) (sh_2_0 : Sem Sh.str) (lh_2_1 : List (Sem shCol)) (ih_2_2 : Sem shInt) (sh_2_5 : Str) (ih_2_6 : Int) (ih_2_7 : Int) (sh_2_8 : Str) (sh_2_9 : Str) (lh_2_10 : List (Sem Sh.expr)) (lh_3 : List (Sem shInt)) (lh_0_4 : List (Sem shFor)) (hl : lh_0_4.length ≤ maxStr) : ∀ (m i : Nat) (lh_4 : List (Sem shFor)), lh_0_4.length - i = m → i ≤ lh_0_4.length → tFewC_7 sh_0_0 lh_0_1 ih_0_2 lh_0_3 sh_0_5 ih_0_6 ih_0_7 sh_0_8 sh_0_9 lh_0_10 sh_1_0 ih_1_2 sh_1_5 ih_1_6 ih_1_7 sh_1_8 sh_1_9 sh_2_0 lh_2_1 ih_2_2 sh_2_5 ih_2_6 ih_2_7 sh_2_8 sh_2_9 lh_2_10 lh_3 (lh_0_4.drop i) i lh_4 = true →
    Reach (env26) C 5 (headK Tryz.f5 7) (s5_7 (i : Int) sh_0_0 lh_0_1 ih_0_2 lh_0_3 lh_0_4 sh_0_5 ih_0_6 ih_0_7 sh_0_8 sh_0_9 lh_0_10 sh_1_0 ih_1_2 sh_1_5 ih_1_6 ih_1_7 sh_1_8 sh_1_9 sh_2_0 lh_2_1 ih_2_2 sh_2_5 ih_2_6 ih_2_7 sh_2_8 sh_2_9 lh_2_10 lh_3 lh_4) (fun r h => resOf h [shTable] r = some (tFew_7 sh_0_0 lh_0_1 ih_0_2 lh_0_3 sh_0_5 ih_0_6 ih_0_7 sh_0_8 sh_0_9 lh_0_10 sh_1_0 ih_1_2 sh_1_5 ih_1_6 ih_1_7 sh_1_8 sh_1_9 sh_2_0 lh_2_1 ih_2_2 sh_2_5 ih_2_6 ih_2_7 sh_2_8 sh_2_9 lh_2_10 lh_3 (lh_0_4.drop i) i lh_4, ())) := by
  intro m
  induction m with
  | zero =>
    intro i lh_4 hm hi hc
    obtain rfl : i = lh_0_4.length := by omega
    rw [List.drop_length] at hc ⊢
    refine reach_ok env26_all env26_mix (ok5) (fun id _ => hC id) (on5_7 _ _ _ _ _ _ _ _ _ _ _ _ _ _ _ _ _ _ _ _ _ _ _ _ _ _ _ _ _ _) ?_
    rw [tFewC_7] at hc
    generalize hy : tFew_7 sh_0_0 lh_0_1 ih_0_2 lh_0_3 sh_0_5 ih_0_6 ih_0_7 sh_0_8 sh_0_9 lh_0_10 sh_1_0 ih_1_2 sh_1_5 ih_1_6 ih_1_7 sh_1_8 sh_1_9 sh_2_0 lh_2_1 ih_2_2 sh_2_5 ih_2_6 ih_2_7 sh_2_8 sh_2_9 lh_2_10 lh_3 [] _ lh_4 = y
    rw [tFew_7] at hy
    simp only [ExprT.eta, lt_dec', cond_false, Tr.val_brF]
    repeat' (first | (refine OptOk_br (fun hsp => ?_) (fun hsp => ?_) <;> first | (rw [if_pos hsp] at hy; try rw [if_pos hsp] at hc) | (rw [if_neg (ne_t hsp)] at hy; try rw [if_neg (ne_t hsp)] at hc)) | (have hgi := guard_ite hc; refine OptOk_chk hgi.1 ?_; replace hc := hgi.2; clear hgi) | refine OptOk_chkT ?_)
    all_goals (subst hy; first | (change Reach _ _ _ _ _ _; apply at5_3s hC <;> first | assumption | exact hc) | rfl)
  | succ m IH =>
    intro i lh_4 hm hi hc
    have hlt : i < lh_0_4.length := by omega
    have IH := IH (i + 1)
    have hcast : ((i : Int) + 1) = ((i + 1 : Nat) : Int) := by omega
    have hwr := wrap_add i (by omega)
    rw [List.drop_eq_getElem_cons hlt] at hc ⊢
    refine reach_ok env26_all env26_mix (ok5) (fun id _ => hC id) (on5_7 _ _ _ _ _ _ _ _ _ _ _ _ _ _ _ _ _ _ _ _ _ _ _ _ _ _ _ _ _ _) ?_
    rw [tFewC_7] at hc
    generalize hy : tFew_7 sh_0_0 lh_0_1 ih_0_2 lh_0_3 sh_0_5 ih_0_6 ih_0_7 sh_0_8 sh_0_9 lh_0_10 sh_1_0 ih_1_2 sh_1_5 ih_1_6 ih_1_7 sh_1_8 sh_1_9 sh_2_0 lh_2_1 ih_2_2 sh_2_5 ih_2_6 ih_2_7 sh_2_8 sh_2_9 lh_2_10 lh_3 (lh_0_4[i] :: lh_0_4.drop (i + 1)) (i : Int) lh_4 = y
    rw [tFew_7] at hy
    simp only [ExprT.eta, lt_dec hlt, inB_of hlt, getD_at lh_0_4 _ hlt, hwr, cond_true, Tr.val_brT, Tr.val_chkT]
    clear hwr
    simp only [hcast] at hy
    try simp only [hcast] at hc
    repeat' (first | (refine OptOk_br (fun hsp => ?_) (fun hsp => ?_) <;> first | (rw [if_pos hsp] at hy; try rw [if_pos hsp] at hc) | (rw [if_neg (ne_t hsp)] at hy; try rw [if_neg (ne_t hsp)] at hc)) | (have hgi := guard_ite hc; refine OptOk_chk hgi.1 ?_; replace hc := hgi.2; clear hgi) | refine OptOk_chkT ?_)
    all_goals (subst hy; first | (change Reach _ _ _ _ _ _; apply IH <;> first | omega | assumption) | (change Reach _ _ _ _ _ _; apply at5_3s hC <;> first | assumption | exact hc) | rfl)
theorem at5_7s {C : Ctx} (hC : ∀ id, C.ρ0 id = none) (sh_0_0 : Sem Sh.str) (lh_0_1 : List (Sem shCol)) (ih_0_2 : Sem shInt) (lh_0_3 : List (Sem shInt)) (sh_0_5 : Str) (ih_0_6 : Int) (ih_0_7 : Int) (sh_0_8 : Str) (sh_0_9 : Str) (lh_0_10 : List (Sem Sh.expr)) (sh_1_0 : List UInt8) (ih_1_2 : Int) (sh_1_5 : List UInt8) (ih_1_6 : Int) (ih_1_7 : Int) (sh_1_8 : List UInt8) (sh_1_9 : List UInt8) (sh_2_0 : Sem Sh.str) (lh_2_1 : List (Sem shCol)) (ih_2_2 : Sem shInt) (sh_2_5 : Str) (ih_2_6 : Int) (ih_2_7 : Int) (sh_2_8 : Str) (sh_2_9 : Str) (lh_2_10 : List (Sem Sh.expr)) (lh_3 : List (Sem shInt)) (lh_0_4 : List (Sem shFor)) (lh_4 : List (Sem shFor)) (hc : tFewC_7 sh_0_0 lh_0_1 ih_0_2 lh_0_3 sh_0_5 ih_0_6 ih_0_7 sh_0_8 sh_0_9 lh_0_10 sh_1_0 ih_1_2 sh_1_5 ih_1_6 ih_1_7 sh_1_8 sh_1_9 sh_2_0 lh_2_1 ih_2_2 sh_2_5 ih_2_6 ih_2_7 sh_2_8 sh_2_9 lh_2_10 lh_3 lh_0_4 0 lh_4 = true) :
    Reach (env26) C 5 (headK Tryz.f5 7) (s5_7 0 sh_0_0 lh_0_1 ih_0_2 lh_0_3 lh_0_4 sh_0_5 ih_0_6 ih_0_7 sh_0_8 sh_0_9 lh_0_10 sh_1_0 ih_1_2 sh_1_5 ih_1_6 ih_1_7 sh_1_8 sh_1_9 sh_2_0 lh_2_1 ih_2_2 sh_2_5 ih_2_6 ih_2_7 sh_2_8 sh_2_9 lh_2_10 lh_3 lh_4) (fun r h => resOf h [shTable] r = some (tFew_7 sh_0_0 lh_0_1 ih_0_2 lh_0_3 sh_0_5 ih_0_6 ih_0_7 sh_0_8 sh_0_9 lh_0_10 sh_1_0 ih_1_2 sh_1_5 ih_1_6 ih_1_7 sh_1_8 sh_1_9 sh_2_0 lh_2_1 ih_2_2 sh_2_5 ih_2_6 ih_2_7 sh_2_8 sh_2_9 lh_2_10 lh_3 lh_0_4 0 lh_4, ())) :=
  Reach.lenB 0 4 (shInt.pr Sh.str) lh_0_4 rfl rfl fun hl => at5_7 hC sh_0_0 lh_0_1 ih_0_2 lh_0_3 sh_0_5 ih_0_6 ih_0_7 sh_0_8 sh_0_9 lh_0_10 sh_1_0 ih_1_2 sh_1_5 ih_1_6 ih_1_7 sh_1_8 sh_1_9 sh_2_0 lh_2_1 ih_2_2 sh_2_5 ih_2_6 ih_2_7 sh_2_8 sh_2_9 lh_2_10 lh_3 lh_0_4 hl _ 0 lh_4 rfl (Nat.zero_le _) hc
def tFew_3 (sh_0_0 : Sem Sh.str) (lh_0_1 : List (Sem shCol)) (ih_0_2 : Sem shInt) (lh_0_4 : List (Sem shFor)) (sh_0_5 : Str) (ih_0_6 : Int) (ih_0_7 : Int) (sh_0_8 : Str) (sh_0_9 : Str) (lh_0_10 : List (Sem Sh.expr)) (sh_1_0 : List UInt8) (ih_1_2 : Int) (sh_1_5 : List UInt8) (ih_1_6 : Int) (ih_1_7 : Int) (sh_1_8 : List UInt8) (sh_1_9 : List UInt8) (sh_2_0 : Sem Sh.str) (lh_2_1 : List (Sem shCol)) (ih_2_2 : Sem shInt) (sh_2_5 : Str) (ih_2_6 : Int) (ih_2_7 : Int) (sh_2_8 : Str) (sh_2_9 : Str) (lh_2_10 : List (Sem Sh.expr)) (lh_0_3 : List (Sem shInt)) : List (Sem shInt) → Int → List (Sem shInt) → Sem shTable
  | [], i4, lh_3 => (tFew_7 sh_0_0 lh_0_1 ih_0_2 lh_0_3 sh_0_5 ih_0_6 ih_0_7 sh_0_8 sh_0_9 lh_0_10 sh_1_0 ih_1_2 sh_1_5 ih_1_6 ih_1_7 sh_1_8 sh_1_9 sh_2_0 lh_2_1 ih_2_2 sh_2_5
  ih_2_6 ih_2_7 sh_2_8 sh_2_9 lh_2_10 lh_3 lh_0_4 0 [])
  | x :: r, i4, lh_3 => (if decide (i4 < 10) = true then
  tFew_3 sh_0_0 lh_0_1 ih_0_2 lh_0_4 sh_0_5 ih_0_6 ih_0_7 sh_0_8 sh_0_9 lh_0_10 sh_1_0 ih_1_2 sh_1_5 ih_1_6 ih_1_7 sh_1_8 sh_1_9 sh_2_0 lh_2_1 ih_2_2 sh_2_5
    ih_2_6 ih_2_7 sh_2_8 sh_2_9 lh_2_10 lh_0_3 r (i4 + 1) (lh_3 ++ [x])
else
  tFew_7 sh_0_0 lh_0_1 ih_0_2 lh_0_3 sh_0_5 ih_0_6 ih_0_7 sh_0_8 sh_0_9 lh_0_10 sh_1_0 ih_1_2 sh_1_5 ih_1_6 ih_1_7 sh_1_8 sh_1_9 sh_2_0 lh_2_1 ih_2_2 sh_2_5
    ih_2_6 ih_2_7 sh_2_8 sh_2_9 lh_2_10 lh_3 lh_0_4 0 [])
def tFewC_3 (sh_0_0 : Sem Sh.str) (lh_0_1 : List (Sem shCol)) (ih_0_2 : Sem shInt) (lh_0_4 : List (Sem shFor)) (sh_0_5 : Str) (ih_0_6 : Int) (ih_0_7 : Int) (sh_0_8 : Str) (sh_0_9 : Str) (lh_0_10 : List (Sem Sh.expr)) (sh_1_0 : List UInt8) (ih_1_2 : Int) (sh_1_5 : List UInt8) (ih_1_6 : Int) (ih_1_7 : Int) (sh_1_8 : List UInt8) (sh_1_9 : List UInt8) (sh_2_0 : Sem Sh.str) (lh_2_1 : List (Sem shCol)) (ih_2_2 : Sem shInt) (sh_2_5 : Str) (ih_2_6 : Int) (ih_2_7 : Int) (sh_2_8 : Str) (sh_2_9 : Str) (lh_2_10 : List (Sem Sh.expr)) (lh_0_3 : List (Sem shInt)) : List (Sem shInt) → Int → List (Sem shInt) → Bool
  | [], i4, lh_3 => (tFewC_7 sh_0_0 lh_0_1 ih_0_2 lh_0_3 sh_0_5 ih_0_6 ih_0_7 sh_0_8 sh_0_9 lh_0_10 sh_1_0 ih_1_2 sh_1_5 ih_1_6 ih_1_7 sh_1_8 sh_1_9 sh_2_0 lh_2_1 ih_2_2 sh_2_5
  ih_2_6 ih_2_7 sh_2_8 sh_2_9 lh_2_10 lh_3 lh_0_4 0 [])
  | x :: r, i4, lh_3 => (if decide (i4 < 10) = true then
  if decide (lh_3.length + [x].length ≤ 1073741824) = true then
    tFewC_3 sh_0_0 lh_0_1 ih_0_2 lh_0_4 sh_0_5 ih_0_6 ih_0_7 sh_0_8 sh_0_9 lh_0_10 sh_1_0 ih_1_2 sh_1_5 ih_1_6 ih_1_7 sh_1_8 sh_1_9 sh_2_0 lh_2_1 ih_2_2 sh_2_5
      ih_2_6 ih_2_7 sh_2_8 sh_2_9 lh_2_10 lh_0_3 r (i4 + 1) (lh_3 ++ [x])
  else false
else
  tFewC_7 sh_0_0 lh_0_1 ih_0_2 lh_0_3 sh_0_5 ih_0_6 ih_0_7 sh_0_8 sh_0_9 lh_0_10 sh_1_0 ih_1_2 sh_1_5 ih_1_6 ih_1_7 sh_1_8 sh_1_9 sh_2_0 lh_2_1 ih_2_2 sh_2_5
    ih_2_6 ih_2_7 sh_2_8 sh_2_9 lh_2_10 lh_3 lh_0_4 0 [])
theorem at5_3 {C : Ctx} (hC : ∀ id, C.ρ0 id = none) (sh_0_0 : Sem Sh.str) (lh_0_1 : List (Sem shCol)) (ih_0_2 : Sem shInt) (lh_0_4 : List (Sem shFor)) (sh_0_5 : Str) (ih_0_6 : Int) (ih_0_7 : Int) (sh_0_8 : Str) (sh_0_9 : Str) (lh_0_10 : List (Sem Sh.expr)) (sh_1_0 : List UInt8) (ih_1_2 : Int) (sh_1_5 : List UInt8) (ih_1_6 : Int) (ih_1_7 : Int) (sh_1_8 : List UInt8) (sh_1_9 : List UInt8) (sh_2_0 : Sem Sh.str) (lh_2_1 : List (Sem shCol)) (ih_2_2 : Sem shInt) (sh_2_5 : Str) (ih_2_6 : Int) (ih_2_7 : Int) (sh_2_8 : Str) (sh_2_9 : Str) (lh_2_10 : List (Sem Sh.expr)) (lh_0_3 : List (Sem shInt)) (hl : lh_0_3.length ≤ maxStr) : ∀ (m i : Nat) (lh_3 : List (Sem shInt)), lh_0_3.length - i = m → i ≤ lh_0_3.length → tFewC_3 sh_0_0 lh_0_1 ih_0_2 lh_0_4 sh_0_5 ih_0_6 ih_0_7 sh_0_8 sh_0_9 lh_0_10 sh_1_0 ih_1_2 sh_1_5 ih_1_6 ih_1_7 sh_1_8 sh_1_9 sh_2_0 lh_2_1 ih_2_2 sh_2_5 ih_2_6 ih_2_7 sh_2_8 sh_2_9 lh_2_10 lh_0_3 (lh_0_3.drop i) i lh_3 = true →
    Reach (env26) C 5 (headK Tryz.f5 3) (s5_3 (i : Int) sh_0_0 lh_0_1 ih_0_2 lh_0_3 lh_0_4 sh_0_5 ih_0_6 ih_0_7 sh_0_8 sh_0_9 lh_0_10 sh_1_0 ih_1_2 sh_1_5 ih_1_6 ih_1_7 sh_1_8 sh_1_9 sh_2_0 lh_2_1 ih_2_2 sh_2_5 ih_2_6 ih_2_7 sh_2_8 sh_2_9 lh_2_10 lh_3) (fun r h => resOf h [shTable] r = some (tFew_3 sh_0_0 lh_0_1 ih_0_2 lh_0_4 sh_0_5 ih_0_6 ih_0_7 sh_0_8 sh_0_9 lh_0_10 sh_1_0 ih_1_2 sh_1_5 ih_1_6 ih_1_7 sh_1_8 sh_1_9 sh_2_0 lh_2_1 ih_2_2 sh_2_5 ih_2_6 ih_2_7 sh_2_8 sh_2_9 lh_2_10 lh_0_3 (lh_0_3.drop i) i lh_3, ())) := by
  intro m
  induction m with
  | zero =>
    intro i lh_3 hm hi hc
    obtain rfl : i = lh_0_3.length := by omega
    rw [List.drop_length] at hc ⊢
    refine reach_ok env26_all env26_mix (ok5) (fun id _ => hC id) (on5_3 _ _ _ _ _ _ _ _ _ _ _ _ _ _ _ _ _ _ _ _ _ _ _ _ _ _ _ _ _) ?_
    rw [tFewC_3] at hc
    generalize hy : tFew_3 sh_0_0 lh_0_1 ih_0_2 lh_0_4 sh_0_5 ih_0_6 ih_0_7 sh_0_8 sh_0_9 lh_0_10 sh_1_0 ih_1_2 sh_1_5 ih_1_6 ih_1_7 sh_1_8 sh_1_9 sh_2_0 lh_2_1 ih_2_2 sh_2_5 ih_2_6 ih_2_7 sh_2_8 sh_2_9 lh_2_10 lh_0_3 [] _ lh_3 = y
    rw [tFew_3] at hy
    simp only [ExprT.eta, lt_dec', cond_false, Tr.val_brF]
    repeat' (first | (refine OptOk_br (fun hsp => ?_) (fun hsp => ?_) <;> first | (rw [if_pos hsp] at hy; try rw [if_pos hsp] at hc) | (rw [if_neg (ne_t hsp)] at hy; try rw [if_neg (ne_t hsp)] at hc)) | (have hgi := guard_ite hc; refine OptOk_chk hgi.1 ?_; replace hc := hgi.2; clear hgi) | refine OptOk_chkT ?_)
    all_goals (subst hy; first | (change Reach _ _ _ _ _ _; apply at5_7s hC <;> first | assumption | exact hc) | rfl)
  | succ m IH =>
    intro i lh_3 hm hi hc
    have hlt : i < lh_0_3.length := by omega
    have IH := IH (i + 1)
    have hcast : ((i : Int) + 1) = ((i + 1 : Nat) : Int) := by omega
    have hwr := wrap_add i (by omega)
    rw [List.drop_eq_getElem_cons hlt] at hc ⊢
    refine reach_ok env26_all env26_mix (ok5) (fun id _ => hC id) (on5_3 _ _ _ _ _ _ _ _ _ _ _ _ _ _ _ _ _ _ _ _ _ _ _ _ _ _ _ _ _) ?_
    rw [tFewC_3] at hc
    generalize hy : tFew_3 sh_0_0 lh_0_1 ih_0_2 lh_0_4 sh_0_5 ih_0_6 ih_0_7 sh_0_8 sh_0_9 lh_0_10 sh_1_0 ih_1_2 sh_1_5 ih_1_6 ih_1_7 sh_1_8 sh_1_9 sh_2_0 lh_2_1 ih_2_2 sh_2_5 ih_2_6 ih_2_7 sh_2_8 sh_2_9 lh_2_10 lh_0_3 (lh_0_3[i] :: lh_0_3.drop (i + 1)) (i : Int) lh_3 = y
    rw [tFew_3] at hy
    simp only [ExprT.eta, lt_dec hlt, inB_of hlt, getD_at lh_0_3 _ hlt, hwr, cond_true, Tr.val_brT, Tr.val_chkT]
    clear hwr
    simp only [hcast] at hy
    try simp only [hcast] at hc
    repeat' (first | (refine OptOk_br (fun hsp => ?_) (fun hsp => ?_) <;> first | (rw [if_pos hsp] at hy; try rw [if_pos hsp] at hc) | (rw [if_neg (ne_t hsp)] at hy; try rw [if_neg (ne_t hsp)] at hc)) | (have hgi := guard_ite hc; refine OptOk_chk hgi.1 ?_; replace hc := hgi.2; clear hgi) | refine OptOk_chkT ?_)
    all_goals (subst hy; first | (change Reach _ _ _ _ _ _; apply IH <;> first | omega | assumption) | (change Reach _ _ _ _ _ _; apply at5_7s hC <;> first | assumption | exact hc) | rfl)
theorem at5_3s {C : Ctx} (hC : ∀ id, C.ρ0 id = none) (sh_0_0 : Sem Sh.str) (lh_0_1 : List (Sem shCol)) (ih_0_2 : Sem shInt) (lh_0_4 : List (Sem shFor)) (sh_0_5 : Str) (ih_0_6 : Int) (ih_0_7 : Int) (sh_0_8 : Str) (sh_0_9 : Str) (lh_0_10 : List (Sem Sh.expr)) (sh_1_0 : List UInt8) (ih_1_2 : Int) (sh_1_5 : List UInt8) (ih_1_6 : Int) (ih_1_7 : Int) (sh_1_8 : List UInt8) (sh_1_9 : List UInt8) (sh_2_0 : Sem Sh.str) (lh_2_1 : List (Sem shCol)) (ih_2_2 : Sem shInt) (sh_2_5 : Str) (ih_2_6 : Int) (ih_2_7 : Int) (sh_2_8 : Str) (sh_2_9 : Str) (lh_2_10 : List (Sem Sh.expr)) (lh_0_3 : List (Sem shInt)) (lh_3 : List (Sem shInt)) (hc : tFewC_3 sh_0_0 lh_0_1 ih_0_2 lh_0_4 sh_0_5 ih_0_6 ih_0_7 sh_0_8 sh_0_9 lh_0_10 sh_1_0 ih_1_2 sh_1_5 ih_1_6 ih_1_7 sh_1_8 sh_1_9 sh_2_0 lh_2_1 ih_2_2 sh_2_5 ih_2_6 ih_2_7 sh_2_8 sh_2_9 lh_2_10 lh_0_3 lh_0_3 0 lh_3 = true) :
    Reach (env26) C 5 (headK Tryz.f5 3) (s5_3 0 sh_0_0 lh_0_1 ih_0_2 lh_0_3 lh_0_4 sh_0_5 ih_0_6 ih_0_7 sh_0_8 sh_0_9 lh_0_10 sh_1_0 ih_1_2 sh_1_5 ih_1_6 ih_1_7 sh_1_8 sh_1_9 sh_2_0 lh_2_1 ih_2_2 sh_2_5 ih_2_6 ih_2_7 sh_2_8 sh_2_9 lh_2_10 lh_3) (fun r h => resOf h [shTable] r = some (tFew_3 sh_0_0 lh_0_1 ih_0_2 lh_0_4 sh_0_5 ih_0_6 ih_0_7 sh_0_8 sh_0_9 lh_0_10 sh_1_0 ih_1_2 sh_1_5 ih_1_6 ih_1_7 sh_1_8 sh_1_9 sh_2_0 lh_2_1 ih_2_2 sh_2_5 ih_2_6 ih_2_7 sh_2_8 sh_2_9 lh_2_10 lh_0_3 lh_0_3 0 lh_3, ())) :=
  Reach.lenB 0 3 (Sh.int IntKind.i64) lh_0_3 rfl rfl fun hl => at5_3 hC sh_0_0 lh_0_1 ih_0_2 lh_0_4 sh_0_5 ih_0_6 ih_0_7 sh_0_8 sh_0_9 lh_0_10 sh_1_0 ih_1_2 sh_1_5 ih_1_6 ih_1_7 sh_1_8 sh_1_9 sh_2_0 lh_2_1 ih_2_2 sh_2_5 ih_2_6 ih_2_7 sh_2_8 sh_2_9 lh_2_10 lh_0_3 hl _ 0 lh_3 rfl (Nat.zero_le _) hc
def tFew (x0 : Sem shTable) : Sem shTable :=
  (tFew_3 x0.fst x0.snd.fst x0.snd.snd.fst x0.snd.snd.snd.snd.fst (ExprT.op x0.snd.snd.snd.snd.snd) (ExprT.v x0.snd.snd.snd.snd.snd).fst
  (ExprT.v x0.snd.snd.snd.snd.snd).snd.fst (ExprT.v x0.snd.snd.snd.snd.snd).snd.snd (ExprT.s x0.snd.snd.snd.snd.snd) (ExprT.l x0.snd.snd.snd.snd.snd) [] 0 [] 0
  0 [] [] (sFew x0.fst) (lCols x0.snd.fst) x0.snd.snd.fst (ExprT.op (eFew x0.snd.snd.snd.snd.snd)) (ExprT.v (eFew x0.snd.snd.snd.snd.snd)).fst
  (ExprT.v (eFew x0.snd.snd.snd.snd.snd)).snd.fst (ExprT.v (eFew x0.snd.snd.snd.snd.snd)).snd.snd (ExprT.s (eFew x0.snd.snd.snd.snd.snd))
  (ExprT.l (eFew x0.snd.snd.snd.snd.snd)) x0.snd.snd.snd.fst x0.snd.snd.snd.fst 0 [])
def tFewC (x0 : Sem shTable) : Bool :=
  (tFewC_3 x0.fst x0.snd.fst x0.snd.snd.fst x0.snd.snd.snd.snd.fst (ExprT.op x0.snd.snd.snd.snd.snd) (ExprT.v x0.snd.snd.snd.snd.snd).fst
  (ExprT.v x0.snd.snd.snd.snd.snd).snd.fst (ExprT.v x0.snd.snd.snd.snd.snd).snd.snd (ExprT.s x0.snd.snd.snd.snd.snd) (ExprT.l x0.snd.snd.snd.snd.snd) [] 0 [] 0
  0 [] [] (sFew x0.fst) (lCols x0.snd.fst) x0.snd.snd.fst (ExprT.op (eFew x0.snd.snd.snd.snd.snd)) (ExprT.v (eFew x0.snd.snd.snd.snd.snd)).fst
  (ExprT.v (eFew x0.snd.snd.snd.snd.snd)).snd.fst (ExprT.v (eFew x0.snd.snd.snd.snd.snd)).snd.snd (ExprT.s (eFew x0.snd.snd.snd.snd.snd))
  (ExprT.l (eFew x0.snd.snd.snd.snd.snd)) x0.snd.snd.snd.fst x0.snd.snd.snd.fst 0 [])
def F5 : FSem := plainC [shTable] [shTable] (fun x => tFewC x.1) fun x => (tFew x.1, ())
theorem FOk5 : FOk (env26).P (env26).gl 5 F5 := by
  refine FOk_plainC (ok5) fun x hc C hC => ?_
  unfold tFewC at hc
  refine reach_ok env26_all env26_mix (ok5) (fun id _ => hC id) (go5 x.1) ?_
  generalize hy : tFew x.1 = y
  unfold tFew at hy
  try simp only [ExprT.eta]
  repeat' (first | (refine OptOk_br (fun hsp => ?_) (fun hsp => ?_) <;> first | (rw [if_pos hsp] at hy; try rw [if_pos hsp] at hc) | (rw [if_neg (ne_t hsp)] at hy; try rw [if_neg (ne_t hsp)] at hc)) | (have hgi := guard_ite hc; refine OptOk_chk hgi.1 ?_; replace hc := hgi.2; clear hgi) | refine OptOk_chkT ?_)
  all_goals (subst hy; first | (change Reach _ _ _ _ _ _; apply at5_3s hC <;> first | assumption | exact hc) | (change Reach _ _ _ _ _ _; apply at5_7s hC <;> first | assumption | exact hc) | rfl)

noncomputable def env27 : Env := ((env26.add 19 F19).add 5 F5)
theorem env27_all : EnvAll env27 := (EnvAll.addS (EnvAll.addS env26_all (SameE.refl env26) FOk19) ((SameE.refl env26).add _ _) FOk5)
theorem env27_mix : env27.P.follows .mixedOrders = true := (mix_add (mix_add env26_mix _ _) _ _)
end Cad

namespace Cad
open Go Go.Proofs

theorem sCheckC_true (e : ExprT) (cols : List (Sem shCol)) : sCheckC e cols = true := by
  unfold sCheckC
  rw [if_pos (sameCN_nil 15 e)]
theorem tFewC_7_true {a0 a1 a2 a3 a4 a5 a6 a7 a8 a9 b0 b1 b2 b3 b4 b5 b6 d0 d1 d2 d3 d4 d5 d6 d7 d8 d9} : ∀ (l : List (Sem shFor)) (i : Int) (acc : List (Sem shFor)), (acc.length : Int) ≤ i → tFewC_7 a0 a1 a2 a3 a4 a5 a6 a7 a8 a9 b0 b1 b2 b3 b4 b5 b6 d0 d1 d2 d3 d4 d5 d6 d7 d8 d9 l i acc = true
  | [], _, _, _ => rfl
  | x :: r, i, acc, h => by
    rw [tFewC_7]
    split
    · rename_i hi
      simp only [decide_eq_true_eq] at hi
      rw [if_pos (by simp; omega)]
      exact tFewC_7_true r (i + 1) _ (by simp; omega)
    · rfl
theorem tFewC_3_true {a0 a1 a2 a3 a4 a5 a6 a7 a8 a9 b0 b1 b2 b3 b4 b5 b6 d0 d1 d2 d3 d4 d5 d6 d7 d8 d9} : ∀ (l : List (Sem shInt)) (i : Int) (acc : List (Sem shInt)), (acc.length : Int) ≤ i → tFewC_3 a0 a1 a2 a3 a4 a5 a6 a7 a8 a9 b0 b1 b2 b3 b4 b5 b6 d0 d1 d2 d3 d4 d5 d6 d7 d8 d9 l i acc = true
  | [], _, _, _ => by rw [tFewC_3]; exact tFewC_7_true _ _ _ (by simp)
  | x :: r, i, acc, h => by
    rw [tFewC_3]
    split
    · rename_i hi
      simp only [decide_eq_true_eq] at hi
      rw [if_pos (by simp; omega)]
      exact tFewC_3_true r (i + 1) _ (by simp; omega)
    · exact tFewC_7_true _ _ _ (by simp)
theorem tFewC_true (t : Sem shTable) : tFewC t = true := by
  unfold tFewC
  exact tFewC_3_true _ _ _ (by simp)
def F19t : FSem := plainT [Sh.expr, shCol.sl] [shInt] fun x => (sCheck x.1 x.2.1, ())
theorem FOk19t : FOk env27.P env27.gl 19 F19t := FOk_tot FOk19 fun x => sCheckC_true x.1 x.2.1
def F5t : FSem := plainT [shTable] [shTable] fun x => (tFew x.1, ())
theorem FOk5t : FOk env27.P env27.gl 5 F5t := FOk_tot FOk5 fun x => tFewC_true x.1

noncomputable def env28 : Env := ((env27.add 19 F19t).add 5 F5t)
theorem env28_all : EnvAll env28 := (EnvAll.addS (EnvAll.addS env27_all (SameE.refl env27) FOk19t) ((SameE.refl env27).add _ _) FOk5t)
theorem env28_mix : env28.P.follows .mixedOrders = true := (mix_add (mix_add env27_mix _ _) _ _)
end Cad

