/- Statements: what a CREATE has. Statements: their parts, their texts. -/
import Derived.Test.YtgbhkblomgiclaaGreatDoorG13
namespace Cad
open Go Go.Proofs

abbrev kp81 : Nat → Keep := fun j => { }
theorem ok81 : fnChk (env40).P 81 Tryz.f81 1 := by refine ⟨?_, ?_, ?_, ?_⟩ <;> kernel_rfl
theorem go81 (x0 : Sem shStmt) : run (env40) 0 kp81 (Func.results Tryz.f81).toList 400 (bodyOf Tryz.f81) (initSt (Func.ntmps Tryz.f81) [datum shStmt x0] []) =
  Tr.ok
  (Leaf.ret
    (AV.bool
      (bif bif decide ((↑(List.length x0.snd.snd.snd.snd.fst) : Int) < 1) then true else decide ((↑(List.length x0.snd.snd.snd.snd.fst) : Int) > 8) then false
      else
        bif !decide (ixFrom (fun x => !colOk x) x0.snd.snd.snd.snd.fst 0 ≥ 0) then
        bif sName x0.snd.snd.snd.snd.snd.fst then
        bif
        bif decide ((↑(List.length x0.snd.snd.snd.snd.snd.snd.fst) : Int) < 0) then true
        else decide ((↑(List.length x0.snd.snd.snd.snd.snd.snd.fst) : Int) > 8) then
        false
        else
        bif !decide (ixFrom (fun x => !sName x) x0.snd.snd.snd.snd.snd.snd.fst 0 ≥ 0) then
        bif
        bif decide ((↑(List.length x0.snd.snd.snd.snd.snd.snd.snd.fst) : Int) < 0) then true
        else decide ((↑(List.length x0.snd.snd.snd.snd.snd.snd.snd.fst) : Int) > 8) then
        false
        else
        bif !decide (ixFrom (fun x => !refOk x) x0.snd.snd.snd.snd.snd.snd.snd.fst 0 ≥ 0) then
        eMaybe
        (ExprT.mk (ExprT.op x0.snd.snd.snd.snd.snd.snd.snd.snd.fst) (ExprT.v x0.snd.snd.snd.snd.snd.snd.snd.snd.fst)
        (ExprT.s x0.snd.snd.snd.snd.snd.snd.snd.snd.fst) (ExprT.l x0.snd.snd.snd.snd.snd.snd.snd.snd.fst))
        else false
        else false
        else false
        else false))
    []) := by kernel_rfl
def creates (x0 : Sem shStmt) : Sem Sh.bool :=
  (bif bif decide ((↑(List.length x0.snd.snd.snd.snd.fst) : Int) < 1) then true else decide ((↑(List.length x0.snd.snd.snd.snd.fst) : Int) > 8) then false
else
  bif !decide (ixFrom (fun x => !colOk x) x0.snd.snd.snd.snd.fst 0 ≥ 0) then
    bif sName x0.snd.snd.snd.snd.snd.fst then
      bif
        bif decide ((↑(List.length x0.snd.snd.snd.snd.snd.snd.fst) : Int) < 0) then true
        else decide ((↑(List.length x0.snd.snd.snd.snd.snd.snd.fst) : Int) > 8) then
        false
      else
        bif !decide (ixFrom (fun x => !sName x) x0.snd.snd.snd.snd.snd.snd.fst 0 ≥ 0) then
        bif
        bif decide ((↑(List.length x0.snd.snd.snd.snd.snd.snd.snd.fst) : Int) < 0) then true
        else decide ((↑(List.length x0.snd.snd.snd.snd.snd.snd.snd.fst) : Int) > 8) then
        false
        else bif !decide (ixFrom (fun x => !refOk x) x0.snd.snd.snd.snd.snd.snd.snd.fst 0 ≥ 0) then eMaybe x0.snd.snd.snd.snd.snd.snd.snd.snd.fst else false
        else false
    else false
  else false)
def F81 : FSem := plainT [shStmt] [Sh.bool] fun x => (creates x.1, ())
theorem FOk81 : FOk (env40).P (env40).gl 81 F81 := by
  refine FOk_plainT (ok81) fun x C hC => ?_
  refine reach_ok env40_all env40_mix (ok81) (fun id _ => hC id) (go81 x.1) ?_
  generalize hy : creates x.1 = y
  unfold creates at hy
  try simp only [ExprT.eta]
  repeat' (first | (with_reducible refine OptOk_br (fun hsp => ?_) (fun hsp => ?_) <;> first | (rw [if_pos hsp] at hy) | (rw [if_neg (ne_t hsp)] at hy)) | with_reducible refine OptOk_chkT ?_)
  all_goals first | (cases hc; done) | (subst hy; first | rfl)

abbrev kp95 : Nat → Keep := fun j => if j = 3 then { slots := [1, 5, 8, 9, 10], prom := [(5, none, .str)] } else { }
abbrev s95_3 (l8 : List (Sem (Sh.str.pr Sh.expr))) (i9 : Int) (i10 : Int) (lh_0 : List (Sem Sh.str)) : St := {
  tmps :=
    [AV.any, AV.clo (Fn.func 93) [] [], AV.any, AV.any, AV.any, AV.vec 0, AV.any, AV.any, AV.sl (Sh.str.pr Sh.expr) l8, AV.int IntKind.i64 i9,
      AV.int IntKind.i64 i10, AV.any, AV.any, AV.any, AV.any, AV.any, AV.any, AV.any, AV.any, AV.any, AV.any, AV.any, AV.any],
  heap := [AO.vec Sh.str lh_0] }
theorem ok95 : fnChk (env40).P 95 Tryz.f95 2 := by refine ⟨?_, ?_, ?_, ?_⟩ <;> kernel_rfl
theorem go95 (x0 : Sem shSet.sl) : run (env40) 0 kp95 (Func.results Tryz.f95).toList 400 (bodyOf Tryz.f95) (initSt (Func.ntmps Tryz.f95) [datum shSet.sl x0, AV.clo (Fn.func 93) [] []] []) =
  Tr.ok (Leaf.head 3 (headK Tryz.f95 3) (s95_3 x0 (↑(List.length x0) : Int) 0 [])) := by kernel_rfl
theorem on95_3 (l8 : List (Sem (Sh.str.pr Sh.expr))) (i9 : Int) (i10 : Int) (lh_0 : List (Sem Sh.str)) : run (env40) 0 kp95 (Func.results Tryz.f95).toList 400 (headK Tryz.f95 3) (s95_3 l8 i9 i10 lh_0) =
  Tr.br (decide (i10 < i9))
  (Tr.chk (inB i10 l8.length)
    (Tr.chk
      (setTextC
        ((l8.getD i10.toNat (dflt (Sh.str.pr Sh.expr))).fst,
        ExprT.mk (ExprT.op (l8.getD i10.toNat (dflt (Sh.str.pr Sh.expr))).snd) (ExprT.v (l8.getD i10.toNat (dflt (Sh.str.pr Sh.expr))).snd)
        (ExprT.s (l8.getD i10.toNat (dflt (Sh.str.pr Sh.expr))).snd) (ExprT.l (l8.getD i10.toNat (dflt (Sh.str.pr Sh.expr))).snd)))
      (Tr.chk
        (decide
        (lh_0.length +
        [setText
        ((l8.getD i10.toNat (dflt (Sh.str.pr Sh.expr))).fst,
        ExprT.mk (ExprT.op (l8.getD i10.toNat (dflt (Sh.str.pr Sh.expr))).snd) (ExprT.v (l8.getD i10.toNat (dflt (Sh.str.pr Sh.expr))).snd)
        (ExprT.s (l8.getD i10.toNat (dflt (Sh.str.pr Sh.expr))).snd) (ExprT.l (l8.getD i10.toNat (dflt (Sh.str.pr Sh.expr))).snd))].length ≤
        1073741824))
        (Tr.ok
        (Leaf.head 3 (headK Tryz.f95 3)
        (s95_3 l8 i9 (IntKind.i64.wrap (i10 + 1))
        (lh_0 ++
        [setText
        ((l8.getD i10.toNat (dflt (Sh.str.pr Sh.expr))).fst,
        ExprT.mk (ExprT.op (l8.getD i10.toNat (dflt (Sh.str.pr Sh.expr))).snd) (ExprT.v (l8.getD i10.toNat (dflt (Sh.str.pr Sh.expr))).snd)
        (ExprT.s (l8.getD i10.toNat (dflt (Sh.str.pr Sh.expr))).snd) (ExprT.l (l8.getD i10.toNat (dflt (Sh.str.pr Sh.expr))).snd))])))))))
  (Tr.chk (decide (lh_0.length ≤ 140737488355328) && decide ((Lib.join lh_0 [32, 44, 32]).length ≤ 140737488355328))
    (Tr.ok (Leaf.ret (AV.str (Lib.join lh_0 [32, 44, 32])) []))) := by kernel_rfl
def setTexts_3 : List (Sem (Sh.str.pr Sh.expr)) → Int → List (Sem Sh.str) → Sem Sh.str
  | [], i10, lh_0 => (Lib.join lh_0 [32, 44, 32])
  | x :: r, i10, lh_0 => (setTexts_3 r (i10 + 1) (lh_0 ++ [setText x]))
def setTextsC_3 : List (Sem (Sh.str.pr Sh.expr)) → Int → List (Sem Sh.str) → Bool
  | [], i10, lh_0 => (if (decide (lh_0.length ≤ 140737488355328) && decide ((Lib.join lh_0 [32, 44, 32]).length ≤ 140737488355328)) = true then true else false)
  | x :: r, i10, lh_0 => (if setTextC x = true then if decide (lh_0.length + [setText x].length ≤ 1073741824) = true then setTextsC_3 r (i10 + 1) (lh_0 ++ [setText x]) else false
else false)
theorem at95_3 {C : Ctx} (hC : ∀ id, C.ρ0 id = none) (l8 : List (Sem (Sh.str.pr Sh.expr))) (hl : l8.length ≤ maxStr) : ∀ (m i : Nat) (lh_0 : List (Sem Sh.str)), l8.length - i = m → i ≤ l8.length → setTextsC_3 (l8.drop i) i lh_0 = true →
    Reach (env40) C 95 (headK Tryz.f95 3) (s95_3 l8 (l8.length : Int) (i : Int) lh_0) (fun r h => resOf h [Sh.str] r = some (setTexts_3 (l8.drop i) i lh_0, ())) := by
  intro m
  induction m with
  | zero =>
    intro i lh_0 hm hi hc
    obtain rfl : i = l8.length := by omega
    rw [List.drop_length] at hc ⊢
    refine reach_ok env40_all env40_mix (ok95) (fun id _ => hC id) (on95_3 _ _ _ _) ?_
    rw [setTextsC_3] at hc
    generalize hy : setTexts_3 [] _ lh_0 = y
    rw [setTexts_3] at hy
    simp only [ExprT.eta, lt_dec', cond_false, Tr.val_brF]
    repeat' (first | (with_reducible refine OptOk_br (fun hsp => ?_) (fun hsp => ?_) <;> first | (rw [if_pos hsp] at hy; try rw [if_pos hsp] at hc) | (rw [if_neg (ne_t hsp)] at hy; try rw [if_neg (ne_t hsp)] at hc)) | (have hgi := guard_ite hc; with_reducible refine OptOk_chk hgi.1 ?_; replace hc := hgi.2; clear hgi) | with_reducible refine OptOk_chkT ?_)
    all_goals first | (cases hc; done) | (subst hy; first | rfl)
  | succ m IH =>
    intro i lh_0 hm hi hc
    have hlt : i < l8.length := by omega
    have IH := IH (i + 1)
    have hcast : ((i : Int) + 1) = ((i + 1 : Nat) : Int) := by omega
    have hwr := wrap_add i (by omega)
    rw [List.drop_eq_getElem_cons hlt] at hc ⊢
    refine reach_ok env40_all env40_mix (ok95) (fun id _ => hC id) (on95_3 _ _ _ _) ?_
    rw [setTextsC_3] at hc
    generalize hy : setTexts_3 (l8[i] :: l8.drop (i + 1)) (i : Int) lh_0 = y
    rw [setTexts_3] at hy
    simp only [ExprT.eta, lt_dec hlt, inB_of hlt, getD_at l8 _ hlt, hwr, cond_true, Tr.val_brT, Tr.val_chkT]
    clear hwr
    try simp only [inB_of hlt] at hy
    simp only [hcast] at hy
    try simp only [inB_of hlt] at hc
    try simp only [hcast] at hc
    repeat' (first | (with_reducible refine OptOk_br (fun hsp => ?_) (fun hsp => ?_) <;> first | (rw [if_pos hsp] at hy; try rw [if_pos hsp] at hc) | (rw [if_neg (ne_t hsp)] at hy; try rw [if_neg (ne_t hsp)] at hc)) | (have hgi := guard_ite hc; with_reducible refine OptOk_chk hgi.1 ?_; replace hc := hgi.2; clear hgi) | with_reducible refine OptOk_chkT ?_)
    all_goals first | (cases hc; done) | (subst hy; first | (change Reach _ _ _ _ _ _; apply IH <;> first | omega | assumption) | rfl)
theorem at95_3s {C : Ctx} (hC : ∀ id, C.ρ0 id = none) (l8 : List (Sem (Sh.str.pr Sh.expr))) (lh_0 : List (Sem Sh.str)) (hc : setTextsC_3 l8 0 lh_0 = true) :
    Reach (env40) C 95 (headK Tryz.f95 3) (s95_3 l8 (l8.length : Int) 0 lh_0) (fun r h => resOf h [Sh.str] r = some (setTexts_3 l8 0 lh_0, ())) :=
  Reach.len 8 (Sh.str.pr Sh.expr) l8 rfl fun hl => at95_3 hC l8 hl _ 0 lh_0 rfl (Nat.zero_le _) hc
def setTexts (x0 : Sem shSet.sl) : Sem Sh.str :=
  (setTexts_3 x0 0 [])
def setTextsC (x0 : Sem shSet.sl) : Bool :=
  (setTextsC_3 x0 0 [])
def F95 : FSem := plainK [shSet.sl] [Sh.str] [(93, (fun x => setTextsC x.1), fun x => (setTexts x.1, ()))]
theorem FOk95 : FOk (env40).P (env40).gl 95 F95 := by
  refine FOk_plainK (ok95) fun j c g hm x hc C hC => ?_
  simp only [List.mem_singleton, Prod.mk.injEq] at hm
  obtain ⟨rfl, rfl, rfl⟩ := hm
  replace hc : setTextsC x.1 = true := hc
  unfold setTextsC at hc
  refine reach_ok env40_all env40_mix (ok95) (fun id _ => hC id) (go95 x.1) ?_
  generalize hy : setTexts x.1 = y
  unfold setTexts at hy
  try simp only [ExprT.eta]
  repeat' (first | (with_reducible refine OptOk_br (fun hsp => ?_) (fun hsp => ?_) <;> first | (rw [if_pos hsp] at hy; try rw [if_pos hsp] at hc) | (rw [if_neg (ne_t hsp)] at hy; try rw [if_neg (ne_t hsp)] at hc)) | (have hgi := guard_ite hc; with_reducible refine OptOk_chk hgi.1 ?_; replace hc := hgi.2; clear hgi) | with_reducible refine OptOk_chkT ?_)
  all_goals first | (cases hc; done) | (subst hy; first | (change Reach _ _ _ _ _ _; apply at95_3s hC <;> first | assumption | exact hc) | rfl)

abbrev kp90 : Nat → Keep := fun j => if j = 5 then { slots := [1, 3, 24, 25, 26] } else if j = 10 then { slots := [1, 3, 37, 38, 39] } else { }
abbrev s90_5 (s3 : Str) (l24 : List (Sem Sh.str)) (i25 : Int) (i26 : Int) (sh_0_0 : Sem Sh.str) (sh_0_1 : Sem Sh.str) (sh_0_2 : Sem Sh.str) (lh_0_3 : List (Sem Sh.str)) (lh_0_4 : List (Sem shCol)) (sh_0_5 : Sem Sh.str) (lh_0_6 : List (Sem Sh.str)) (lh_0_7 : List (Sem (Sh.str.pr Sh.str))) (sh_0_8 : Str) (ih_0_9 : Int) (ih_0_10 : Int) (sh_0_11 : Str) (sh_0_12 : Str) (lh_0_13 : List (Sem Sh.expr)) (lh_0_14 : List (Sem shVal)) (lh_0_15 : List (Sem (Sh.str.pr Sh.expr))) (sh_0_16 : Str) (ih_0_17 : Int) (ih_0_18 : Int) (sh_0_19 : Str) (sh_0_20 : Str) (lh_0_21 : List (Sem Sh.expr)) (sh_0_22 : Sem Sh.str) : St := {
  tmps :=
    [AV.any, AV.ptr 0 0, AV.any, AV.str s3, AV.any, AV.any, AV.any, AV.any, AV.any, AV.any, AV.any, AV.any, AV.any, AV.any, AV.any, AV.any, AV.any, AV.any,
      AV.any, AV.any, AV.any, AV.any, AV.any, AV.any, AV.sl Sh.str l24, AV.int IntKind.i64 i25, AV.int IntKind.i64 i26, AV.any, AV.any, AV.any, AV.any, AV.any,
      AV.any, AV.any, AV.any, AV.any, AV.any, AV.any, AV.any, AV.any, AV.any, AV.any, AV.any, AV.any, AV.any, AV.any, AV.any, AV.any, AV.any, AV.any, AV.any,
      AV.any, AV.any, AV.any, AV.any, AV.any, AV.any, AV.any, AV.any],
  heap :=
    [AO.box
        [AV.str sh_0_0, AV.str sh_0_1, AV.str sh_0_2, AV.sl Sh.str lh_0_3, AV.sl shCol lh_0_4, AV.str sh_0_5,
        AV.sl Sh.str lh_0_6, AV.sl (Sh.str.pr Sh.str) lh_0_7, AV.str sh_0_8, AV.int IntKind.i64 ih_0_9, AV.int IntKind.i64 ih_0_10, AV.str sh_0_11,
        AV.str sh_0_12, AV.sl Sh.expr lh_0_13, AV.sl shVal lh_0_14, AV.sl (Sh.str.pr Sh.expr) lh_0_15,
        AV.str sh_0_16, AV.int IntKind.i64 ih_0_17, AV.int IntKind.i64 ih_0_18, AV.str sh_0_19, AV.str sh_0_20, AV.sl Sh.expr lh_0_21, AV.str sh_0_22]] }
theorem ok90 : fnChk (env40).P 90 Tryz.f90 1 := by refine ⟨?_, ?_, ?_, ?_⟩ <;> kernel_rfl
theorem go90 (x0 : Sem shStmt) : run (env40) 0 kp90 (Func.results Tryz.f90).toList 400 (bodyOf Tryz.f90) (initSt (Func.ntmps Tryz.f90) [datum shStmt x0] []) =
  Tr.chk (decide ([67, 82, 69, 65, 84, 69, 32, 84, 65, 66, 76, 69, 32].length + List.length x0.snd.fst ≤ 1099511627776))
  (Tr.chk (decide (List.length ([67, 82, 69, 65, 84, 69, 32, 84, 65, 66, 76, 69, 32] ++ x0.snd.fst) + [32, 40, 32].length ≤ 1099511627776))
    (Tr.chk (colTextsC x0.snd.snd.snd.snd.fst)
      (Tr.chk
        (decide
        (List.length ([67, 82, 69, 65, 84, 69, 32, 84, 65, 66, 76, 69, 32] ++ x0.snd.fst ++ [32, 40, 32]) + List.length (colTexts x0.snd.snd.snd.snd.fst) ≤
        1099511627776))
        (Tr.chk (decide ([32, 44, 32, 75, 69, 89, 32, 40, 32].length + List.length x0.snd.snd.snd.snd.snd.fst ≤ 1099511627776))
        (Tr.chk (decide (List.length ([32, 44, 32, 75, 69, 89, 32, 40, 32] ++ x0.snd.snd.snd.snd.snd.fst) + [32, 41].length ≤ 1099511627776))
        (Tr.chk
        (decide
        (List.length ([67, 82, 69, 65, 84, 69, 32, 84, 65, 66, 76, 69, 32] ++ x0.snd.fst ++ [32, 40, 32] ++ colTexts x0.snd.snd.snd.snd.fst) +
        List.length ([32, 44, 32, 75, 69, 89, 32, 40, 32] ++ x0.snd.snd.snd.snd.snd.fst ++ [32, 41]) ≤
        1099511627776))
        (Tr.ok
        (Leaf.head 5 (headK Tryz.f90 5)
        (s90_5
        ([67, 82, 69, 65, 84, 69, 32, 84, 65, 66, 76, 69, 32] ++ x0.snd.fst ++ [32, 40, 32] ++ colTexts x0.snd.snd.snd.snd.fst ++
        ([32, 44, 32, 75, 69, 89, 32, 40, 32] ++ x0.snd.snd.snd.snd.snd.fst ++ [32, 41]))
        x0.snd.snd.snd.snd.snd.snd.fst (↑(List.length x0.snd.snd.snd.snd.snd.snd.fst) : Int) 0 x0.fst x0.snd.fst x0.snd.snd.fst x0.snd.snd.snd.fst
        x0.snd.snd.snd.snd.fst x0.snd.snd.snd.snd.snd.fst x0.snd.snd.snd.snd.snd.snd.fst x0.snd.snd.snd.snd.snd.snd.snd.fst
        (ExprT.op x0.snd.snd.snd.snd.snd.snd.snd.snd.fst) (ExprT.v x0.snd.snd.snd.snd.snd.snd.snd.snd.fst).fst
        (ExprT.v x0.snd.snd.snd.snd.snd.snd.snd.snd.fst).snd.fst (ExprT.v x0.snd.snd.snd.snd.snd.snd.snd.snd.fst).snd.snd
        (ExprT.s x0.snd.snd.snd.snd.snd.snd.snd.snd.fst) (ExprT.l x0.snd.snd.snd.snd.snd.snd.snd.snd.fst) x0.snd.snd.snd.snd.snd.snd.snd.snd.snd.fst
        x0.snd.snd.snd.snd.snd.snd.snd.snd.snd.snd.fst (ExprT.op x0.snd.snd.snd.snd.snd.snd.snd.snd.snd.snd.snd.fst)
        (ExprT.v x0.snd.snd.snd.snd.snd.snd.snd.snd.snd.snd.snd.fst).fst (ExprT.v x0.snd.snd.snd.snd.snd.snd.snd.snd.snd.snd.snd.fst).snd.fst
        (ExprT.v x0.snd.snd.snd.snd.snd.snd.snd.snd.snd.snd.snd.fst).snd.snd (ExprT.s x0.snd.snd.snd.snd.snd.snd.snd.snd.snd.snd.snd.fst)
        (ExprT.l x0.snd.snd.snd.snd.snd.snd.snd.snd.snd.snd.snd.fst) x0.snd.snd.snd.snd.snd.snd.snd.snd.snd.snd.snd.snd))))))))) := by kernel_rfl
abbrev s90_10 (s3 : Str) (l37 : List (Sem (Sh.str.pr Sh.str))) (i38 : Int) (i39 : Int) (sh_0_0 : Sem Sh.str) (sh_0_1 : Sem Sh.str) (sh_0_2 : Sem Sh.str) (lh_0_3 : List (Sem Sh.str)) (lh_0_4 : List (Sem shCol)) (sh_0_5 : Sem Sh.str) (lh_0_6 : List (Sem Sh.str)) (lh_0_7 : List (Sem (Sh.str.pr Sh.str))) (sh_0_8 : Str) (ih_0_9 : Int) (ih_0_10 : Int) (sh_0_11 : Str) (sh_0_12 : Str) (lh_0_13 : List (Sem Sh.expr)) (lh_0_14 : List (Sem shVal)) (lh_0_15 : List (Sem (Sh.str.pr Sh.expr))) (sh_0_16 : Str) (ih_0_17 : Int) (ih_0_18 : Int) (sh_0_19 : Str) (sh_0_20 : Str) (lh_0_21 : List (Sem Sh.expr)) (sh_0_22 : Sem Sh.str) : St := {
  tmps :=
    [AV.any, AV.ptr 0 0, AV.any, AV.str s3, AV.any, AV.any, AV.any, AV.any, AV.any, AV.any, AV.any, AV.any, AV.any, AV.any, AV.any, AV.any, AV.any, AV.any,
      AV.any, AV.any, AV.any, AV.any, AV.any, AV.any, AV.any, AV.any, AV.any, AV.any, AV.any, AV.any, AV.any, AV.any, AV.any, AV.any, AV.any, AV.any, AV.any,
      AV.sl (Sh.str.pr Sh.str) l37, AV.int IntKind.i64 i38, AV.int IntKind.i64 i39, AV.any, AV.any, AV.any, AV.any, AV.any, AV.any, AV.any, AV.any, AV.any,
      AV.any, AV.any, AV.any, AV.any, AV.any, AV.any, AV.any, AV.any, AV.any, AV.any],
  heap :=
    [AO.box
        [AV.str sh_0_0, AV.str sh_0_1, AV.str sh_0_2, AV.sl Sh.str lh_0_3, AV.sl shCol lh_0_4, AV.str sh_0_5,
        AV.sl Sh.str lh_0_6, AV.sl (Sh.str.pr Sh.str) lh_0_7, AV.str sh_0_8, AV.int IntKind.i64 ih_0_9, AV.int IntKind.i64 ih_0_10, AV.str sh_0_11,
        AV.str sh_0_12, AV.sl Sh.expr lh_0_13, AV.sl shVal lh_0_14, AV.sl (Sh.str.pr Sh.expr) lh_0_15,
        AV.str sh_0_16, AV.int IntKind.i64 ih_0_17, AV.int IntKind.i64 ih_0_18, AV.str sh_0_19, AV.str sh_0_20, AV.sl Sh.expr lh_0_21, AV.str sh_0_22]] }
theorem on90_5 (s3 : Str) (l24 : List (Sem Sh.str)) (i25 : Int) (i26 : Int) (sh_0_0 : Sem Sh.str) (sh_0_1 : Sem Sh.str) (sh_0_2 : Sem Sh.str) (lh_0_3 : List (Sem Sh.str)) (lh_0_4 : List (Sem shCol)) (sh_0_5 : Sem Sh.str) (lh_0_6 : List (Sem Sh.str)) (lh_0_7 : List (Sem (Sh.str.pr Sh.str))) (sh_0_8 : Str) (ih_0_9 : Int) (ih_0_10 : Int) (sh_0_11 : Str) (sh_0_12 : Str) (lh_0_13 : List (Sem Sh.expr)) (lh_0_14 : List (Sem shVal)) (lh_0_15 : List (Sem (Sh.str.pr Sh.expr))) (sh_0_16 : Str) (ih_0_17 : Int) (ih_0_18 : Int) (sh_0_19 : Str) (sh_0_20 : Str) (lh_0_21 : List (Sem Sh.expr)) (sh_0_22 : Sem Sh.str) : run (env40) 0 kp90 (Func.results Tryz.f90).toList 400 (headK Tryz.f90 5) (s90_5 s3 l24 i25 i26 sh_0_0 sh_0_1 sh_0_2 lh_0_3 lh_0_4 sh_0_5 lh_0_6 lh_0_7 sh_0_8 ih_0_9 ih_0_10 sh_0_11 sh_0_12 lh_0_13 lh_0_14 lh_0_15 sh_0_16 ih_0_17 ih_0_18 sh_0_19 sh_0_20 lh_0_21 sh_0_22) =
  Tr.br (decide (i26 < i25))
  (Tr.chk (inB i26 l24.length)
    (Tr.chk (decide ([32, 44, 32, 85, 78, 73, 81, 85, 69, 32, 40, 32].length + List.length (l24.getD i26.toNat (dflt Sh.str)) ≤ 1099511627776))
      (Tr.chk (decide (List.length ([32, 44, 32, 85, 78, 73, 81, 85, 69, 32, 40, 32] ++ l24.getD i26.toNat (dflt Sh.str)) + [32, 41].length ≤ 1099511627776))
        (Tr.chk
        (decide
        (List.length s3 + List.length ([32, 44, 32, 85, 78, 73, 81, 85, 69, 32, 40, 32] ++ l24.getD i26.toNat (dflt Sh.str) ++ [32, 41]) ≤ 1099511627776))
        (Tr.ok
        (Leaf.head 5 (headK Tryz.f90 5)
        (s90_5 (s3 ++ ([32, 44, 32, 85, 78, 73, 81, 85, 69, 32, 40, 32] ++ l24.getD i26.toNat (dflt Sh.str) ++ [32, 41])) l24 i25
        (IntKind.i64.wrap (i26 + 1)) sh_0_0 sh_0_1 sh_0_2 lh_0_3 lh_0_4 sh_0_5 lh_0_6 lh_0_7 sh_0_8 ih_0_9 ih_0_10 sh_0_11 sh_0_12 lh_0_13 lh_0_14
        lh_0_15 sh_0_16 ih_0_17 ih_0_18 sh_0_19 sh_0_20 lh_0_21 sh_0_22)))))))
  (Tr.ok
    (Leaf.head 10 (headK Tryz.f90 10)
      (s90_10 s3 lh_0_7 (↑lh_0_7.length : Int) 0 sh_0_0 sh_0_1 sh_0_2 lh_0_3 lh_0_4 sh_0_5 lh_0_6 lh_0_7 sh_0_8 ih_0_9 ih_0_10 sh_0_11 sh_0_12 lh_0_13 lh_0_14
        lh_0_15 sh_0_16 ih_0_17 ih_0_18 sh_0_19 sh_0_20 lh_0_21 sh_0_22))) := by kernel_rfl
theorem on90_10 (s3 : Str) (l37 : List (Sem (Sh.str.pr Sh.str))) (i38 : Int) (i39 : Int) (sh_0_0 : Sem Sh.str) (sh_0_1 : Sem Sh.str) (sh_0_2 : Sem Sh.str) (lh_0_3 : List (Sem Sh.str)) (lh_0_4 : List (Sem shCol)) (sh_0_5 : Sem Sh.str) (lh_0_6 : List (Sem Sh.str)) (lh_0_7 : List (Sem (Sh.str.pr Sh.str))) (sh_0_8 : Str) (ih_0_9 : Int) (ih_0_10 : Int) (sh_0_11 : Str) (sh_0_12 : Str) (lh_0_13 : List (Sem Sh.expr)) (lh_0_14 : List (Sem shVal)) (lh_0_15 : List (Sem (Sh.str.pr Sh.expr))) (sh_0_16 : Str) (ih_0_17 : Int) (ih_0_18 : Int) (sh_0_19 : Str) (sh_0_20 : Str) (lh_0_21 : List (Sem Sh.expr)) (sh_0_22 : Sem Sh.str) : run (env40) 0 kp90 (Func.results Tryz.f90).toList 400 (headK Tryz.f90 10) (s90_10 s3 l37 i38 i39 sh_0_0 sh_0_1 sh_0_2 lh_0_3 lh_0_4 sh_0_5 lh_0_6 lh_0_7 sh_0_8 ih_0_9 ih_0_10 sh_0_11 sh_0_12 lh_0_13 lh_0_14 lh_0_15 sh_0_16 ih_0_17 ih_0_18 sh_0_19 sh_0_20 lh_0_21 sh_0_22) =
  Tr.br (decide (i39 < i38))
  (Tr.chk (inB i39 l37.length)
    (Tr.chk
      (decide
        ([32, 44, 32, 82, 69, 70, 69, 82, 69, 78, 67, 69, 83, 32, 40, 32].length + List.length (l37.getD i39.toNat (dflt (Sh.str.pr Sh.str))).fst ≤
        1099511627776))
      (Tr.chk
        (decide
        (List.length ([32, 44, 32, 82, 69, 70, 69, 82, 69, 78, 67, 69, 83, 32, 40, 32] ++ (l37.getD i39.toNat (dflt (Sh.str.pr Sh.str))).fst) +
        [32, 41, 32].length ≤
        1099511627776))
        (Tr.chk
        (decide
        (List.length
        ([32, 44, 32, 82, 69, 70, 69, 82, 69, 78, 67, 69, 83, 32, 40, 32] ++ (l37.getD i39.toNat (dflt (Sh.str.pr Sh.str))).fst ++ [32, 41, 32]) +
        List.length (l37.getD i39.toNat (dflt (Sh.str.pr Sh.str))).snd ≤
        1099511627776))
        (Tr.chk
        (decide
        (List.length s3 +
        List.length
        ([32, 44, 32, 82, 69, 70, 69, 82, 69, 78, 67, 69, 83, 32, 40, 32] ++ (l37.getD i39.toNat (dflt (Sh.str.pr Sh.str))).fst ++ [32, 41, 32] ++
        (l37.getD i39.toNat (dflt (Sh.str.pr Sh.str))).snd) ≤
        1099511627776))
        (Tr.ok
        (Leaf.head 10 (headK Tryz.f90 10)
        (s90_10
        (s3 ++
        ([32, 44, 32, 82, 69, 70, 69, 82, 69, 78, 67, 69, 83, 32, 40, 32] ++ (l37.getD i39.toNat (dflt (Sh.str.pr Sh.str))).fst ++ [32, 41, 32] ++
        (l37.getD i39.toNat (dflt (Sh.str.pr Sh.str))).snd))
        l37 i38 (IntKind.i64.wrap (i39 + 1)) sh_0_0 sh_0_1 sh_0_2 lh_0_3 lh_0_4 sh_0_5 lh_0_6 lh_0_7 sh_0_8 ih_0_9 ih_0_10 sh_0_11 sh_0_12 lh_0_13
        lh_0_14 lh_0_15 sh_0_16 ih_0_17 ih_0_18 sh_0_19 sh_0_20 lh_0_21 sh_0_22))))))))
  (Tr.chk (chTextC [32, 44, 32] (ExprT.mk sh_0_8 (ih_0_9, ih_0_10, sh_0_11) sh_0_12 lh_0_13))
    (Tr.chk (decide (List.length s3 + List.length (chText [32, 44, 32] (ExprT.mk sh_0_8 (ih_0_9, ih_0_10, sh_0_11) sh_0_12 lh_0_13)) ≤ 1099511627776))
      (Tr.chk (decide (List.length (s3 ++ chText [32, 44, 32] (ExprT.mk sh_0_8 (ih_0_9, ih_0_10, sh_0_11) sh_0_12 lh_0_13)) + [32, 41].length ≤ 1099511627776))
        (Tr.ok (Leaf.ret (AV.str (s3 ++ chText [32, 44, 32] (ExprT.mk sh_0_8 (ih_0_9, ih_0_10, sh_0_11) sh_0_12 lh_0_13) ++ [32, 41])) []))))) := by kernel_rfl
def created_10 (sh_0_0 : Sem Sh.str) (sh_0_1 : Sem Sh.str) (sh_0_2 : Sem Sh.str) (lh_0_3 : List (Sem Sh.str)) (lh_0_4 : List (Sem shCol)) (sh_0_5 : Sem Sh.str) (lh_0_6 : List (Sem Sh.str)) (lh_0_7 : List (Sem (Sh.str.pr Sh.str))) (sh_0_8 : Str) (ih_0_9 : Int) (ih_0_10 : Int) (sh_0_11 : Str) (sh_0_12 : Str) (lh_0_13 : List (Sem Sh.expr)) (lh_0_14 : List (Sem shVal)) (lh_0_15 : List (Sem (Sh.str.pr Sh.expr))) (sh_0_16 : Str) (ih_0_17 : Int) (ih_0_18 : Int) (sh_0_19 : Str) (sh_0_20 : Str) (lh_0_21 : List (Sem Sh.expr)) (sh_0_22 : Sem Sh.str) : List (Sem (Sh.str.pr Sh.str)) → Int → Str → Sem Sh.str
  | [], i39, s3 => (s3 ++ chText [32, 44, 32] (ExprT.mk sh_0_8 (ih_0_9, ih_0_10, sh_0_11) sh_0_12 lh_0_13) ++ [32, 41])
  | x :: r, i39, s3 => (created_10 sh_0_0 sh_0_1 sh_0_2 lh_0_3 lh_0_4 sh_0_5 lh_0_6 lh_0_7 sh_0_8 ih_0_9 ih_0_10 sh_0_11 sh_0_12 lh_0_13 lh_0_14 lh_0_15 sh_0_16 ih_0_17 ih_0_18 sh_0_19
  sh_0_20 lh_0_21 sh_0_22 r (i39 + 1) (s3 ++ ([32, 44, 32, 82, 69, 70, 69, 82, 69, 78, 67, 69, 83, 32, 40, 32] ++ x.fst ++ [32, 41, 32] ++ x.snd)))
def createdC_10 (sh_0_0 : Sem Sh.str) (sh_0_1 : Sem Sh.str) (sh_0_2 : Sem Sh.str) (lh_0_3 : List (Sem Sh.str)) (lh_0_4 : List (Sem shCol)) (sh_0_5 : Sem Sh.str) (lh_0_6 : List (Sem Sh.str)) (lh_0_7 : List (Sem (Sh.str.pr Sh.str))) (sh_0_8 : Str) (ih_0_9 : Int) (ih_0_10 : Int) (sh_0_11 : Str) (sh_0_12 : Str) (lh_0_13 : List (Sem Sh.expr)) (lh_0_14 : List (Sem shVal)) (lh_0_15 : List (Sem (Sh.str.pr Sh.expr))) (sh_0_16 : Str) (ih_0_17 : Int) (ih_0_18 : Int) (sh_0_19 : Str) (sh_0_20 : Str) (lh_0_21 : List (Sem Sh.expr)) (sh_0_22 : Sem Sh.str) : List (Sem (Sh.str.pr Sh.str)) → Int → Str → Bool
  | [], i39, s3 => (if chTextC [32, 44, 32] (ExprT.mk sh_0_8 (ih_0_9, ih_0_10, sh_0_11) sh_0_12 lh_0_13) = true then
  if decide (List.length s3 + List.length (chText [32, 44, 32] (ExprT.mk sh_0_8 (ih_0_9, ih_0_10, sh_0_11) sh_0_12 lh_0_13)) ≤ 1099511627776) = true then
    if
        decide (List.length (s3 ++ chText [32, 44, 32] (ExprT.mk sh_0_8 (ih_0_9, ih_0_10, sh_0_11) sh_0_12 lh_0_13)) + [32, 41].length ≤ 1099511627776) =
        true then
      true
    else false
  else false
else false)
  | x :: r, i39, s3 => (if decide ([32, 44, 32, 82, 69, 70, 69, 82, 69, 78, 67, 69, 83, 32, 40, 32].length + List.length x.fst ≤ 1099511627776) = true then
  if decide (List.length ([32, 44, 32, 82, 69, 70, 69, 82, 69, 78, 67, 69, 83, 32, 40, 32] ++ x.fst) + [32, 41, 32].length ≤ 1099511627776) = true then
    if
        decide (List.length ([32, 44, 32, 82, 69, 70, 69, 82, 69, 78, 67, 69, 83, 32, 40, 32] ++ x.fst ++ [32, 41, 32]) + List.length x.snd ≤ 1099511627776) =
        true then
      if
        decide
        (List.length s3 + List.length ([32, 44, 32, 82, 69, 70, 69, 82, 69, 78, 67, 69, 83, 32, 40, 32] ++ x.fst ++ [32, 41, 32] ++ x.snd) ≤
        1099511627776) =
        true then
        createdC_10 sh_0_0 sh_0_1 sh_0_2 lh_0_3 lh_0_4 sh_0_5 lh_0_6 lh_0_7 sh_0_8 ih_0_9 ih_0_10 sh_0_11 sh_0_12 lh_0_13 lh_0_14 lh_0_15 sh_0_16 ih_0_17
        ih_0_18 sh_0_19 sh_0_20 lh_0_21 sh_0_22 r (i39 + 1)
        (s3 ++ ([32, 44, 32, 82, 69, 70, 69, 82, 69, 78, 67, 69, 83, 32, 40, 32] ++ x.fst ++ [32, 41, 32] ++ x.snd))
      else false
    else false
  else false
else false)
theorem at90_10 {C : Ctx} (hC : ∀ id, C.ρ0 id = none) (sh_0_0 : Sem Sh.str) (sh_0_1 : Sem Sh.str) (sh_0_2 : Sem Sh.str) (lh_0_3 : List (Sem Sh.str)) (lh_0_4 : List (Sem shCol)) (sh_0_5 : Sem Sh.str) (lh_0_6 : List (Sem Sh.str)) (lh_0_7 : List (Sem (Sh.str.pr Sh.str))) (sh_0_8 : Str) (ih_0_9 : Int) (ih_0_10 : Int) (sh_0_11 : Str) (sh_0_12 : Str) (lh_0_13 : List (Sem Sh.expr)) (lh_0_14 : List (Sem shVal)) (lh_0_15 : List (Sem (Sh.str.pr Sh.expr))) (sh_0_16 : Str) (ih_0_17 : Int) (ih_0_18 : Int) (sh_0_19 : Str) (sh_0_20 : Str) (lh_0_21 : List (Sem Sh.expr)) (sh_0_22 : Sem Sh.str) (l37 : List (Sem (Sh.str.pr Sh.str))) (hl : l37.length ≤ maxStr) : ∀ (m i : Nat) (s3 : Str), l37.length - i = m → i ≤ l37.length → createdC_10 sh_0_0 sh_0_1 sh_0_2 lh_0_3 lh_0_4 sh_0_5 lh_0_6 lh_0_7 sh_0_8 ih_0_9 ih_0_10 sh_0_11 sh_0_12 lh_0_13 lh_0_14 lh_0_15 sh_0_16 ih_0_17 ih_0_18 sh_0_19 sh_0_20 lh_0_21 sh_0_22 (l37.drop i) i s3 = true →
    Reach (env40) C 90 (headK Tryz.f90 10) (s90_10 s3 l37 (l37.length : Int) (i : Int) sh_0_0 sh_0_1 sh_0_2 lh_0_3 lh_0_4 sh_0_5 lh_0_6 lh_0_7 sh_0_8 ih_0_9 ih_0_10 sh_0_11 sh_0_12 lh_0_13 lh_0_14 lh_0_15 sh_0_16 ih_0_17 ih_0_18 sh_0_19 sh_0_20 lh_0_21 sh_0_22) (fun r h => resOf h [Sh.str] r = some (created_10 sh_0_0 sh_0_1 sh_0_2 lh_0_3 lh_0_4 sh_0_5 lh_0_6 lh_0_7 sh_0_8 ih_0_9 ih_0_10 sh_0_11 sh_0_12 lh_0_13 lh_0_14 lh_0_15 sh_0_16 ih_0_17 ih_0_18 sh_0_19 sh_0_20 lh_0_21 sh_0_22 (l37.drop i) i s3, ())) := by
  intro m
  induction m with
  | zero =>
    intro i s3 hm hi hc
    obtain rfl : i = l37.length := by omega
    rw [List.drop_length] at hc ⊢
    refine reach_ok env40_all env40_mix (ok90) (fun id _ => hC id) (on90_10 _ _ _ _ _ _ _ _ _ _ _ _ _ _ _ _ _ _ _ _ _ _ _ _ _ _ _) ?_
    rw [createdC_10] at hc
    generalize hy : created_10 sh_0_0 sh_0_1 sh_0_2 lh_0_3 lh_0_4 sh_0_5 lh_0_6 lh_0_7 sh_0_8 ih_0_9 ih_0_10 sh_0_11 sh_0_12 lh_0_13 lh_0_14 lh_0_15 sh_0_16 ih_0_17 ih_0_18 sh_0_19 sh_0_20 lh_0_21 sh_0_22 [] _ s3 = y
    rw [created_10] at hy
    simp only [ExprT.eta, lt_dec', cond_false, Tr.val_brF]
    repeat' (first | (with_reducible refine OptOk_br (fun hsp => ?_) (fun hsp => ?_) <;> first | (rw [if_pos hsp] at hy; try rw [if_pos hsp] at hc) | (rw [if_neg (ne_t hsp)] at hy; try rw [if_neg (ne_t hsp)] at hc)) | (have hgi := guard_ite hc; with_reducible refine OptOk_chk hgi.1 ?_; replace hc := hgi.2; clear hgi) | with_reducible refine OptOk_chkT ?_)
    all_goals first | (cases hc; done) | (subst hy; first | (change Reach _ _ _ _ _ _; apply at90_5s hC <;> first | assumption | exact hc) | rfl)
  | succ m IH =>
    intro i s3 hm hi hc
    have hlt : i < l37.length := by omega
    have IH := IH (i + 1)
    have hcast : ((i : Int) + 1) = ((i + 1 : Nat) : Int) := by omega
    have hwr := wrap_add i (by omega)
    rw [List.drop_eq_getElem_cons hlt] at hc ⊢
    refine reach_ok env40_all env40_mix (ok90) (fun id _ => hC id) (on90_10 _ _ _ _ _ _ _ _ _ _ _ _ _ _ _ _ _ _ _ _ _ _ _ _ _ _ _) ?_
    rw [createdC_10] at hc
    generalize hy : created_10 sh_0_0 sh_0_1 sh_0_2 lh_0_3 lh_0_4 sh_0_5 lh_0_6 lh_0_7 sh_0_8 ih_0_9 ih_0_10 sh_0_11 sh_0_12 lh_0_13 lh_0_14 lh_0_15 sh_0_16 ih_0_17 ih_0_18 sh_0_19 sh_0_20 lh_0_21 sh_0_22 (l37[i] :: l37.drop (i + 1)) (i : Int) s3 = y
    rw [created_10] at hy
    simp only [ExprT.eta, lt_dec hlt, inB_of hlt, getD_at l37 _ hlt, hwr, cond_true, Tr.val_brT, Tr.val_chkT]
    clear hwr
    try simp only [inB_of hlt] at hy
    simp only [hcast] at hy
    try simp only [inB_of hlt] at hc
    try simp only [hcast] at hc
    repeat' (first | (with_reducible refine OptOk_br (fun hsp => ?_) (fun hsp => ?_) <;> first | (rw [if_pos hsp] at hy; try rw [if_pos hsp] at hc) | (rw [if_neg (ne_t hsp)] at hy; try rw [if_neg (ne_t hsp)] at hc)) | (have hgi := guard_ite hc; with_reducible refine OptOk_chk hgi.1 ?_; replace hc := hgi.2; clear hgi) | with_reducible refine OptOk_chkT ?_)
    all_goals first | (cases hc; done) | (subst hy; first | (change Reach _ _ _ _ _ _; apply IH <;> first | omega | assumption) | (change Reach _ _ _ _ _ _; apply at90_5s hC <;> first | assumption | exact hc) | rfl)
theorem at90_10s {C : Ctx} (hC : ∀ id, C.ρ0 id = none) (sh_0_0 : Sem Sh.str) (sh_0_1 : Sem Sh.str) (sh_0_2 : Sem Sh.str) (lh_0_3 : List (Sem Sh.str)) (lh_0_4 : List (Sem shCol)) (sh_0_5 : Sem Sh.str) (lh_0_6 : List (Sem Sh.str)) (lh_0_7 : List (Sem (Sh.str.pr Sh.str))) (sh_0_8 : Str) (ih_0_9 : Int) (ih_0_10 : Int) (sh_0_11 : Str) (sh_0_12 : Str) (lh_0_13 : List (Sem Sh.expr)) (lh_0_14 : List (Sem shVal)) (lh_0_15 : List (Sem (Sh.str.pr Sh.expr))) (sh_0_16 : Str) (ih_0_17 : Int) (ih_0_18 : Int) (sh_0_19 : Str) (sh_0_20 : Str) (lh_0_21 : List (Sem Sh.expr)) (sh_0_22 : Sem Sh.str) (l37 : List (Sem (Sh.str.pr Sh.str))) (s3 : Str) (hc : createdC_10 sh_0_0 sh_0_1 sh_0_2 lh_0_3 lh_0_4 sh_0_5 lh_0_6 lh_0_7 sh_0_8 ih_0_9 ih_0_10 sh_0_11 sh_0_12 lh_0_13 lh_0_14 lh_0_15 sh_0_16 ih_0_17 ih_0_18 sh_0_19 sh_0_20 lh_0_21 sh_0_22 l37 0 s3 = true) :
    Reach (env40) C 90 (headK Tryz.f90 10) (s90_10 s3 l37 (l37.length : Int) 0 sh_0_0 sh_0_1 sh_0_2 lh_0_3 lh_0_4 sh_0_5 lh_0_6 lh_0_7 sh_0_8 ih_0_9 ih_0_10 sh_0_11 sh_0_12 lh_0_13 lh_0_14 lh_0_15 sh_0_16 ih_0_17 ih_0_18 sh_0_19 sh_0_20 lh_0_21 sh_0_22) (fun r h => resOf h [Sh.str] r = some (created_10 sh_0_0 sh_0_1 sh_0_2 lh_0_3 lh_0_4 sh_0_5 lh_0_6 lh_0_7 sh_0_8 ih_0_9 ih_0_10 sh_0_11 sh_0_12 lh_0_13 lh_0_14 lh_0_15 sh_0_16 ih_0_17 ih_0_18 sh_0_19 sh_0_20 lh_0_21 sh_0_22 l37 0 s3, ())) :=
  Reach.len 37 (Sh.str.pr Sh.str) l37 rfl fun hl => at90_10 hC sh_0_0 sh_0_1 sh_0_2 lh_0_3 lh_0_4 sh_0_5 lh_0_6 lh_0_7 sh_0_8 ih_0_9 ih_0_10 sh_0_11 sh_0_12 lh_0_13 lh_0_14 lh_0_15 sh_0_16 ih_0_17 ih_0_18 sh_0_19 sh_0_20 lh_0_21 sh_0_22 l37 hl _ 0 s3 rfl (Nat.zero_le _) hc
def created_5 (sh_0_0 : Sem Sh.str) (sh_0_1 : Sem Sh.str) (sh_0_2 : Sem Sh.str) (lh_0_3 : List (Sem Sh.str)) (lh_0_4 : List (Sem shCol)) (sh_0_5 : Sem Sh.str) (lh_0_6 : List (Sem Sh.str)) (lh_0_7 : List (Sem (Sh.str.pr Sh.str))) (sh_0_8 : Str) (ih_0_9 : Int) (ih_0_10 : Int) (sh_0_11 : Str) (sh_0_12 : Str) (lh_0_13 : List (Sem Sh.expr)) (lh_0_14 : List (Sem shVal)) (lh_0_15 : List (Sem (Sh.str.pr Sh.expr))) (sh_0_16 : Str) (ih_0_17 : Int) (ih_0_18 : Int) (sh_0_19 : Str) (sh_0_20 : Str) (lh_0_21 : List (Sem Sh.expr)) (sh_0_22 : Sem Sh.str) : List (Sem Sh.str) → Int → Str → Sem Sh.str
  | [], i26, s3 => (created_10 sh_0_0 sh_0_1 sh_0_2 lh_0_3 lh_0_4 sh_0_5 lh_0_6 lh_0_7 sh_0_8 ih_0_9 ih_0_10 sh_0_11 sh_0_12 lh_0_13 lh_0_14 lh_0_15 sh_0_16 ih_0_17 ih_0_18 sh_0_19
  sh_0_20 lh_0_21 sh_0_22 lh_0_7 0 s3)
  | x :: r, i26, s3 => (created_5 sh_0_0 sh_0_1 sh_0_2 lh_0_3 lh_0_4 sh_0_5 lh_0_6 lh_0_7 sh_0_8 ih_0_9 ih_0_10 sh_0_11 sh_0_12 lh_0_13 lh_0_14 lh_0_15 sh_0_16 ih_0_17 ih_0_18 sh_0_19
  sh_0_20 lh_0_21 sh_0_22 r (i26 + 1) (s3 ++ ([32, 44, 32, 85, 78, 73, 81, 85, 69, 32, 40, 32] ++ x ++ [32, 41])))
def createdC_5 (sh_0_0 : Sem Sh.str) (sh_0_1 : Sem Sh.str) (sh_0_2 : Sem Sh.str) (lh_0_3 : List (Sem Sh.str)) (lh_0_4 : List (Sem shCol)) (sh_0_5 : Sem Sh.str) (lh_0_6 : List (Sem Sh.str)) (lh_0_7 : List (Sem (Sh.str.pr Sh.str))) (sh_0_8 : Str) (ih_0_9 : Int) (ih_0_10 : Int) (sh_0_11 : Str) (sh_0_12 : Str) (lh_0_13 : List (Sem Sh.expr)) (lh_0_14 : List (Sem shVal)) (lh_0_15 : List (Sem (Sh.str.pr Sh.expr))) (sh_0_16 : Str) (ih_0_17 : Int) (ih_0_18 : Int) (sh_0_19 : Str) (sh_0_20 : Str) (lh_0_21 : List (Sem Sh.expr)) (sh_0_22 : Sem Sh.str) : List (Sem Sh.str) → Int → Str → Bool
  | [], i26, s3 => (createdC_10 sh_0_0 sh_0_1 sh_0_2 lh_0_3 lh_0_4 sh_0_5 lh_0_6 lh_0_7 sh_0_8 ih_0_9 ih_0_10 sh_0_11 sh_0_12 lh_0_13 lh_0_14 lh_0_15 sh_0_16 ih_0_17 ih_0_18
  sh_0_19 sh_0_20 lh_0_21 sh_0_22 lh_0_7 0 s3)
  | x :: r, i26, s3 => (if decide ([32, 44, 32, 85, 78, 73, 81, 85, 69, 32, 40, 32].length + List.length x ≤ 1099511627776) = true then
  if decide (List.length ([32, 44, 32, 85, 78, 73, 81, 85, 69, 32, 40, 32] ++ x) + [32, 41].length ≤ 1099511627776) = true then
    if decide (List.length s3 + List.length ([32, 44, 32, 85, 78, 73, 81, 85, 69, 32, 40, 32] ++ x ++ [32, 41]) ≤ 1099511627776) = true then
      createdC_5 sh_0_0 sh_0_1 sh_0_2 lh_0_3 lh_0_4 sh_0_5 lh_0_6 lh_0_7 sh_0_8 ih_0_9 ih_0_10 sh_0_11 sh_0_12 lh_0_13 lh_0_14 lh_0_15 sh_0_16 ih_0_17 ih_0_18
        sh_0_19 sh_0_20 lh_0_21 sh_0_22 r (i26 + 1) (s3 ++ ([32, 44, 32, 85, 78, 73, 81, 85, 69, 32, 40, 32] ++ x ++ [32, 41]))
    else false
  else false
else false)
theorem at90_5 {C : Ctx} (hC : ∀ id, C.ρ0 id = none) (sh_0_0 : Sem Sh.str) (sh_0_1 : Sem Sh.str) (sh_0_2 : Sem Sh.str) (lh_0_3 : List (Sem Sh.str)) (lh_0_4 : List (Sem shCol)) (sh_0_5 : Sem Sh.str) (lh_0_6 : List (Sem Sh.str)) (lh_0_7 : List (Sem (Sh.str.pr Sh.str))) (sh_0_8 : Str) (ih_0_9 : Int) (ih_0_10 : Int) (sh_0_11 : Str) (sh_0_12 : Str) (lh_0_13 : List (Sem Sh.expr)) (lh_0_14 : List (Sem shVal)) (lh_0_15 : List (Sem (Sh.str.pr Sh.expr))) (sh_0_16 : Str) (ih_0_17 : Int) (ih_0_18 : Int) (sh_0_19 : Str) (sh_0_20 : Str) (lh_0_21 : List (Sem Sh.expr)) (sh_0_22 : Sem Sh.str) (l24 : List (Sem Sh.str)) (hl : l24.length ≤ maxStr) : ∀ (m i : Nat) (s3 : Str), l24.length - i = m → i ≤ l24.length → createdC_5 sh_0_0 sh_0_1 sh_0_2 lh_0_3 lh_0_4 sh_0_5 lh_0_6 lh_0_7 sh_0_8 ih_0_9 ih_0_10 sh_0_11 sh_0_12 lh_0_13 lh_0_14 lh_0_15 sh_0_16 ih_0_17 ih_0_18 sh_0_19 sh_0_20 lh_0_21 sh_0_22 (l24.drop i) i s3 = true →
    Reach (env40) C 90 (headK Tryz.f90 5) (s90_5 s3 l24 (l24.length : Int) (i : Int) sh_0_0 sh_0_1 sh_0_2 lh_0_3 lh_0_4 sh_0_5 lh_0_6 lh_0_7 sh_0_8 ih_0_9 ih_0_10 sh_0_11 sh_0_12 lh_0_13 lh_0_14 lh_0_15 sh_0_16 ih_0_17 ih_0_18 sh_0_19 sh_0_20 lh_0_21 sh_0_22) (fun r h => resOf h [Sh.str] r = some (created_5 sh_0_0 sh_0_1 sh_0_2 lh_0_3 lh_0_4 sh_0_5 lh_0_6 lh_0_7 sh_0_8 ih_0_9 ih_0_10 sh_0_11 sh_0_12 lh_0_13 lh_0_14 lh_0_15 sh_0_16 ih_0_17 ih_0_18 sh_0_19 sh_0_20 lh_0_21 sh_0_22 (l24.drop i) i s3, ())) := by
  intro m
  induction m with
  | zero =>
    intro i s3 hm hi hc
    obtain rfl : i = l24.length := by omega
    rw [List.drop_length] at hc ⊢
    refine reach_ok env40_all env40_mix (ok90) (fun id _ => hC id) (on90_5 _ _ _ _ _ _ _ _ _ _ _ _ _ _ _ _ _ _ _ _ _ _ _ _ _ _ _) ?_
    rw [createdC_5] at hc
    generalize hy : created_5 sh_0_0 sh_0_1 sh_0_2 lh_0_3 lh_0_4 sh_0_5 lh_0_6 lh_0_7 sh_0_8 ih_0_9 ih_0_10 sh_0_11 sh_0_12 lh_0_13 lh_0_14 lh_0_15 sh_0_16 ih_0_17 ih_0_18 sh_0_19 sh_0_20 lh_0_21 sh_0_22 [] _ s3 = y
    rw [created_5] at hy
    simp only [ExprT.eta, lt_dec', cond_false, Tr.val_brF]
    repeat' (first | (with_reducible refine OptOk_br (fun hsp => ?_) (fun hsp => ?_) <;> first | (rw [if_pos hsp] at hy; try rw [if_pos hsp] at hc) | (rw [if_neg (ne_t hsp)] at hy; try rw [if_neg (ne_t hsp)] at hc)) | (have hgi := guard_ite hc; with_reducible refine OptOk_chk hgi.1 ?_; replace hc := hgi.2; clear hgi) | with_reducible refine OptOk_chkT ?_)
    all_goals first | (cases hc; done) | (subst hy; first | (change Reach _ _ _ _ _ _; apply at90_10s hC <;> first | assumption | exact hc) | rfl)
  | succ m IH =>
    intro i s3 hm hi hc
    have hlt : i < l24.length := by omega
    have IH := IH (i + 1)
    have hcast : ((i : Int) + 1) = ((i + 1 : Nat) : Int) := by omega
    have hwr := wrap_add i (by omega)
    rw [List.drop_eq_getElem_cons hlt] at hc ⊢
    refine reach_ok env40_all env40_mix (ok90) (fun id _ => hC id) (on90_5 _ _ _ _ _ _ _ _ _ _ _ _ _ _ _ _ _ _ _ _ _ _ _ _ _ _ _) ?_
    rw [createdC_5] at hc
    generalize hy : created_5 sh_0_0 sh_0_1 sh_0_2 lh_0_3 lh_0_4 sh_0_5 lh_0_6 lh_0_7 sh_0_8 ih_0_9 ih_0_10 sh_0_11 sh_0_12 lh_0_13 lh_0_14 lh_0_15 sh_0_16 ih_0_17 ih_0_18 sh_0_19 sh_0_20 lh_0_21 sh_0_22 (l24[i] :: l24.drop (i + 1)) (i : Int) s3 = y
    rw [created_5] at hy
    simp only [ExprT.eta, lt_dec hlt, inB_of hlt, getD_at l24 _ hlt, hwr, cond_true, Tr.val_brT, Tr.val_chkT]
    clear hwr
    try simp only [inB_of hlt] at hy
    simp only [hcast] at hy
    try simp only [inB_of hlt] at hc
    try simp only [hcast] at hc
    repeat' (first | (with_reducible refine OptOk_br (fun hsp => ?_) (fun hsp => ?_) <;> first | (rw [if_pos hsp] at hy; try rw [if_pos hsp] at hc) | (rw [if_neg (ne_t hsp)] at hy; try rw [if_neg (ne_t hsp)] at hc)) | (have hgi := guard_ite hc; with_reducible refine OptOk_chk hgi.1 ?_; replace hc := hgi.2; clear hgi) | with_reducible refine OptOk_chkT ?_)
    all_goals first | (cases hc; done) | (subst hy; first | (change Reach _ _ _ _ _ _; apply IH <;> first | omega | assumption) | (change Reach _ _ _ _ _ _; apply at90_10s hC <;> first | assumption | exact hc) | rfl)
theorem at90_5s {C : Ctx} (hC : ∀ id, C.ρ0 id = none) (sh_0_0 : Sem Sh.str) (sh_0_1 : Sem Sh.str) (sh_0_2 : Sem Sh.str) (lh_0_3 : List (Sem Sh.str)) (lh_0_4 : List (Sem shCol)) (sh_0_5 : Sem Sh.str) (lh_0_6 : List (Sem Sh.str)) (lh_0_7 : List (Sem (Sh.str.pr Sh.str))) (sh_0_8 : Str) (ih_0_9 : Int) (ih_0_10 : Int) (sh_0_11 : Str) (sh_0_12 : Str) (lh_0_13 : List (Sem Sh.expr)) (lh_0_14 : List (Sem shVal)) (lh_0_15 : List (Sem (Sh.str.pr Sh.expr))) (sh_0_16 : Str) (ih_0_17 : Int) (ih_0_18 : Int) (sh_0_19 : Str) (sh_0_20 : Str) (lh_0_21 : List (Sem Sh.expr)) (sh_0_22 : Sem Sh.str) (l24 : List (Sem Sh.str)) (s3 : Str) (hc : createdC_5 sh_0_0 sh_0_1 sh_0_2 lh_0_3 lh_0_4 sh_0_5 lh_0_6 lh_0_7 sh_0_8 ih_0_9 ih_0_10 sh_0_11 sh_0_12 lh_0_13 lh_0_14 lh_0_15 sh_0_16 ih_0_17 ih_0_18 sh_0_19 sh_0_20 lh_0_21 sh_0_22 l24 0 s3 = true) :
    Reach (env40) C 90 (headK Tryz.f90 5) (s90_5 s3 l24 (l24.length : Int) 0 sh_0_0 sh_0_1 sh_0_2 lh_0_3 lh_0_4 sh_0_5 lh_0_6 lh_0_7 sh_0_8 ih_0_9 ih_0_10 sh_0_11 sh_0_12 lh_0_13 lh_0_14 lh_0_15 sh_0_16 ih_0_17 ih_0_18 sh_0_19 sh_0_20 lh_0_21 sh_0_22) (fun r h => resOf h [Sh.str] r = some (created_5 sh_0_0 sh_0_1 sh_0_2 lh_0_3 lh_0_4 sh_0_5 lh_0_6 lh_0_7 sh_0_8 ih_0_9 ih_0_10 sh_0_11 sh_0_12 lh_0_13 lh_0_14 lh_0_15 sh_0_16 ih_0_17 ih_0_18 sh_0_19 sh_0_20 lh_0_21 sh_0_22 l24 0 s3, ())) :=
  Reach.len 24 (Sh.str) l24 rfl fun hl => at90_5 hC sh_0_0 sh_0_1 sh_0_2 lh_0_3 lh_0_4 sh_0_5 lh_0_6 lh_0_7 sh_0_8 ih_0_9 ih_0_10 sh_0_11 sh_0_12 lh_0_13 lh_0_14 lh_0_15 sh_0_16 ih_0_17 ih_0_18 sh_0_19 sh_0_20 lh_0_21 sh_0_22 l24 hl _ 0 s3 rfl (Nat.zero_le _) hc
def created (x0 : Sem shStmt) : Sem Sh.str :=
  (created_5 x0.fst x0.snd.fst x0.snd.snd.fst x0.snd.snd.snd.fst x0.snd.snd.snd.snd.fst x0.snd.snd.snd.snd.snd.fst x0.snd.snd.snd.snd.snd.snd.fst
  x0.snd.snd.snd.snd.snd.snd.snd.fst (ExprT.op x0.snd.snd.snd.snd.snd.snd.snd.snd.fst) (ExprT.v x0.snd.snd.snd.snd.snd.snd.snd.snd.fst).fst
  (ExprT.v x0.snd.snd.snd.snd.snd.snd.snd.snd.fst).snd.fst (ExprT.v x0.snd.snd.snd.snd.snd.snd.snd.snd.fst).snd.snd
  (ExprT.s x0.snd.snd.snd.snd.snd.snd.snd.snd.fst) (ExprT.l x0.snd.snd.snd.snd.snd.snd.snd.snd.fst) x0.snd.snd.snd.snd.snd.snd.snd.snd.snd.fst
  x0.snd.snd.snd.snd.snd.snd.snd.snd.snd.snd.fst (ExprT.op x0.snd.snd.snd.snd.snd.snd.snd.snd.snd.snd.snd.fst)
  (ExprT.v x0.snd.snd.snd.snd.snd.snd.snd.snd.snd.snd.snd.fst).fst (ExprT.v x0.snd.snd.snd.snd.snd.snd.snd.snd.snd.snd.snd.fst).snd.fst
  (ExprT.v x0.snd.snd.snd.snd.snd.snd.snd.snd.snd.snd.snd.fst).snd.snd (ExprT.s x0.snd.snd.snd.snd.snd.snd.snd.snd.snd.snd.snd.fst)
  (ExprT.l x0.snd.snd.snd.snd.snd.snd.snd.snd.snd.snd.snd.fst) x0.snd.snd.snd.snd.snd.snd.snd.snd.snd.snd.snd.snd x0.snd.snd.snd.snd.snd.snd.fst 0
  ([67, 82, 69, 65, 84, 69, 32, 84, 65, 66, 76, 69, 32] ++ x0.snd.fst ++ [32, 40, 32] ++ colTexts x0.snd.snd.snd.snd.fst ++
    ([32, 44, 32, 75, 69, 89, 32, 40, 32] ++ x0.snd.snd.snd.snd.snd.fst ++ [32, 41])))
def createdC (x0 : Sem shStmt) : Bool :=
  (if decide ([67, 82, 69, 65, 84, 69, 32, 84, 65, 66, 76, 69, 32].length + List.length x0.snd.fst ≤ 1099511627776) = true then
  if decide (List.length ([67, 82, 69, 65, 84, 69, 32, 84, 65, 66, 76, 69, 32] ++ x0.snd.fst) + [32, 40, 32].length ≤ 1099511627776) = true then
    if colTextsC x0.snd.snd.snd.snd.fst = true then
      if
        decide
        (List.length ([67, 82, 69, 65, 84, 69, 32, 84, 65, 66, 76, 69, 32] ++ x0.snd.fst ++ [32, 40, 32]) +
        List.length (colTexts x0.snd.snd.snd.snd.fst) ≤
        1099511627776) =
        true then
        if decide ([32, 44, 32, 75, 69, 89, 32, 40, 32].length + List.length x0.snd.snd.snd.snd.snd.fst ≤ 1099511627776) = true then
        if decide (List.length ([32, 44, 32, 75, 69, 89, 32, 40, 32] ++ x0.snd.snd.snd.snd.snd.fst) + [32, 41].length ≤ 1099511627776) = true then
        if
        decide
        (List.length ([67, 82, 69, 65, 84, 69, 32, 84, 65, 66, 76, 69, 32] ++ x0.snd.fst ++ [32, 40, 32] ++ colTexts x0.snd.snd.snd.snd.fst) +
        List.length ([32, 44, 32, 75, 69, 89, 32, 40, 32] ++ x0.snd.snd.snd.snd.snd.fst ++ [32, 41]) ≤
        1099511627776) =
        true then
        createdC_5 x0.fst x0.snd.fst x0.snd.snd.fst x0.snd.snd.snd.fst x0.snd.snd.snd.snd.fst x0.snd.snd.snd.snd.snd.fst x0.snd.snd.snd.snd.snd.snd.fst
        x0.snd.snd.snd.snd.snd.snd.snd.fst (ExprT.op x0.snd.snd.snd.snd.snd.snd.snd.snd.fst) (ExprT.v x0.snd.snd.snd.snd.snd.snd.snd.snd.fst).fst
        (ExprT.v x0.snd.snd.snd.snd.snd.snd.snd.snd.fst).snd.fst (ExprT.v x0.snd.snd.snd.snd.snd.snd.snd.snd.fst).snd.snd
        (ExprT.s x0.snd.snd.snd.snd.snd.snd.snd.snd.fst) (ExprT.l x0.snd.snd.snd.snd.snd.snd.snd.snd.fst) x0.snd.snd.snd.snd.snd.snd.snd.snd.snd.fst
        x0.snd.snd.snd.snd.snd.snd.snd.snd.snd.snd.fst (ExprT.op x0.snd.snd.snd.snd.snd.snd.snd.snd.snd.snd.snd.fst)
        (ExprT.v x0.snd.snd.snd.snd.snd.snd.snd.snd.snd.snd.snd.fst).fst (ExprT.v x0.snd.snd.snd.snd.snd.snd.snd.snd.snd.snd.snd.fst).snd.fst
        (ExprT.v x0.snd.snd.snd.snd.snd.snd.snd.snd.snd.snd.snd.fst).snd.snd (ExprT.s x0.snd.snd.snd.snd.snd.snd.snd.snd.snd.snd.snd.fst)
        (ExprT.l x0.snd.snd.snd.snd.snd.snd.snd.snd.snd.snd.snd.fst) x0.snd.snd.snd.snd.snd.snd.snd.snd.snd.snd.snd.snd x0.snd.snd.snd.snd.snd.snd.fst 0
        ([67, 82, 69, 65, 84, 69, 32, 84, 65, 66, 76, 69, 32] ++ x0.snd.fst ++ [32, 40, 32] ++ colTexts x0.snd.snd.snd.snd.fst ++
        ([32, 44, 32, 75, 69, 89, 32, 40, 32] ++ x0.snd.snd.snd.snd.snd.fst ++ [32, 41]))
        else false
        else false
        else false
      else false
    else false
  else false
else false)
def F90 : FSem := plainC [shStmt] [Sh.str] (fun x => createdC x.1) fun x => (created x.1, ())
theorem FOk90 : FOk (env40).P (env40).gl 90 F90 := by
  refine FOk_plainC (ok90) fun x hc C hC => ?_
  unfold createdC at hc
  refine reach_ok env40_all env40_mix (ok90) (fun id _ => hC id) (go90 x.1) ?_
  generalize hy : created x.1 = y
  unfold created at hy
  try simp only [ExprT.eta]
  repeat' (first | (with_reducible refine OptOk_br (fun hsp => ?_) (fun hsp => ?_) <;> first | (rw [if_pos hsp] at hy; try rw [if_pos hsp] at hc) | (rw [if_neg (ne_t hsp)] at hy; try rw [if_neg (ne_t hsp)] at hc)) | (have hgi := guard_ite hc; with_reducible refine OptOk_chk hgi.1 ?_; replace hc := hgi.2; clear hgi) | with_reducible refine OptOk_chkT ?_)
  all_goals first | (cases hc; done) | (subst hy; first | (change Reach _ _ _ _ _ _; apply at90_5s hC <;> first | assumption | exact hc) | (change Reach _ _ _ _ _ _; apply at90_10s hC <;> first | assumption | exact hc) | rfl)

noncomputable def env41 : Env := (((env40.add 81 F81).add 95 F95).add 90 F90)
theorem env41_all : EnvAll env41 := (EnvAll.addS (EnvAll.addS (EnvAll.addS env40_all (SameE.refl env40) FOk81) ((SameE.refl env40).add _ _) FOk95) (((SameE.refl env40).add _ _).add _ _) FOk90)
theorem env41_mix : env41.P.follows .mixedOrders = true := (mix_add (mix_add (mix_add env40_mix _ _) _ _) _ _)
end Cad

namespace Cad
open Go Go.Proofs
set_option maxHeartbeats 4000000

abbrev kp67 : Nat → Keep := fun j => { }
theorem ok67 : fnChk (env41).P 67 Tryz.f67 1 := by refine ⟨?_, ?_, ?_, ?_⟩ <;> kernel_rfl
theorem go67 (x0 : Sem shStmt) : run (env41) 0 kp67 (Func.results Tryz.f67).toList 400 (bodyOf Tryz.f67) (initSt (Func.ntmps Tryz.f67) [datum shStmt x0] []) =
  Tr.br (x0.fst == [99, 114, 101, 97, 116, 101])
  (Tr.chk
    (bif
        bif sName x0.snd.fst then
        creates
        (x0.fst, x0.snd.fst, x0.snd.snd.fst, x0.snd.snd.snd.fst, x0.snd.snd.snd.snd.fst, x0.snd.snd.snd.snd.snd.fst, x0.snd.snd.snd.snd.snd.snd.fst,
        x0.snd.snd.snd.snd.snd.snd.snd.fst,
        ExprT.mk (ExprT.op x0.snd.snd.snd.snd.snd.snd.snd.snd.fst) (ExprT.v x0.snd.snd.snd.snd.snd.snd.snd.snd.fst)
        (ExprT.s x0.snd.snd.snd.snd.snd.snd.snd.snd.fst) (ExprT.l x0.snd.snd.snd.snd.snd.snd.snd.snd.fst),
        x0.snd.snd.snd.snd.snd.snd.snd.snd.snd.fst, x0.snd.snd.snd.snd.snd.snd.snd.snd.snd.snd.fst,
        ExprT.mk (ExprT.op x0.snd.snd.snd.snd.snd.snd.snd.snd.snd.snd.snd.fst) (ExprT.v x0.snd.snd.snd.snd.snd.snd.snd.snd.snd.snd.snd.fst)
        (ExprT.s x0.snd.snd.snd.snd.snd.snd.snd.snd.snd.snd.snd.fst) (ExprT.l x0.snd.snd.snd.snd.snd.snd.snd.snd.snd.snd.snd.fst),
        x0.snd.snd.snd.snd.snd.snd.snd.snd.snd.snd.snd.snd)
        else false then
      sEmptyC
        (x0.fst, [], x0.snd.snd.fst, x0.snd.snd.snd.fst, [], [], [], [], ExprT.mk [] (0, 0, []) [] [], x0.snd.snd.snd.snd.snd.snd.snd.snd.snd.fst,
        x0.snd.snd.snd.snd.snd.snd.snd.snd.snd.snd.fst,
        ExprT.mk (ExprT.op x0.snd.snd.snd.snd.snd.snd.snd.snd.snd.snd.snd.fst) (ExprT.v x0.snd.snd.snd.snd.snd.snd.snd.snd.snd.snd.snd.fst)
        (ExprT.s x0.snd.snd.snd.snd.snd.snd.snd.snd.snd.snd.snd.fst) (ExprT.l x0.snd.snd.snd.snd.snd.snd.snd.snd.snd.snd.snd.fst),
        x0.snd.snd.snd.snd.snd.snd.snd.snd.snd.snd.snd.snd)
    else true)
    (Tr.ok
      (Leaf.ret
        (AV.bool
        (bif
        bif sName x0.snd.fst then
        creates
        (x0.fst, x0.snd.fst, x0.snd.snd.fst, x0.snd.snd.snd.fst, x0.snd.snd.snd.snd.fst, x0.snd.snd.snd.snd.snd.fst, x0.snd.snd.snd.snd.snd.snd.fst,
        x0.snd.snd.snd.snd.snd.snd.snd.fst,
        ExprT.mk (ExprT.op x0.snd.snd.snd.snd.snd.snd.snd.snd.fst) (ExprT.v x0.snd.snd.snd.snd.snd.snd.snd.snd.fst)
        (ExprT.s x0.snd.snd.snd.snd.snd.snd.snd.snd.fst) (ExprT.l x0.snd.snd.snd.snd.snd.snd.snd.snd.fst),
        x0.snd.snd.snd.snd.snd.snd.snd.snd.snd.fst, x0.snd.snd.snd.snd.snd.snd.snd.snd.snd.snd.fst,
        ExprT.mk (ExprT.op x0.snd.snd.snd.snd.snd.snd.snd.snd.snd.snd.snd.fst) (ExprT.v x0.snd.snd.snd.snd.snd.snd.snd.snd.snd.snd.snd.fst)
        (ExprT.s x0.snd.snd.snd.snd.snd.snd.snd.snd.snd.snd.snd.fst) (ExprT.l x0.snd.snd.snd.snd.snd.snd.snd.snd.snd.snd.snd.fst),
        x0.snd.snd.snd.snd.snd.snd.snd.snd.snd.snd.snd.snd)
        else false then
        sEmpty
        (x0.fst, [], x0.snd.snd.fst, x0.snd.snd.snd.fst, [], [], [], [], ExprT.mk [] (0, 0, []) [] [], x0.snd.snd.snd.snd.snd.snd.snd.snd.snd.fst,
        x0.snd.snd.snd.snd.snd.snd.snd.snd.snd.snd.fst,
        ExprT.mk (ExprT.op x0.snd.snd.snd.snd.snd.snd.snd.snd.snd.snd.snd.fst) (ExprT.v x0.snd.snd.snd.snd.snd.snd.snd.snd.snd.snd.snd.fst)
        (ExprT.s x0.snd.snd.snd.snd.snd.snd.snd.snd.snd.snd.snd.fst) (ExprT.l x0.snd.snd.snd.snd.snd.snd.snd.snd.snd.snd.snd.fst),
        x0.snd.snd.snd.snd.snd.snd.snd.snd.snd.snd.snd.snd)
        else false))
        [])))
  (Tr.br (x0.fst == [100, 114, 111, 112])
    (Tr.chk
      (bif sName x0.snd.fst then
        sEmptyC
        (x0.fst, [], x0.snd.snd.fst, x0.snd.snd.snd.fst, x0.snd.snd.snd.snd.fst, x0.snd.snd.snd.snd.snd.fst, x0.snd.snd.snd.snd.snd.snd.fst,
        x0.snd.snd.snd.snd.snd.snd.snd.fst,
        ExprT.mk (ExprT.op x0.snd.snd.snd.snd.snd.snd.snd.snd.fst) (ExprT.v x0.snd.snd.snd.snd.snd.snd.snd.snd.fst)
        (ExprT.s x0.snd.snd.snd.snd.snd.snd.snd.snd.fst) (ExprT.l x0.snd.snd.snd.snd.snd.snd.snd.snd.fst),
        x0.snd.snd.snd.snd.snd.snd.snd.snd.snd.fst, x0.snd.snd.snd.snd.snd.snd.snd.snd.snd.snd.fst,
        ExprT.mk (ExprT.op x0.snd.snd.snd.snd.snd.snd.snd.snd.snd.snd.snd.fst) (ExprT.v x0.snd.snd.snd.snd.snd.snd.snd.snd.snd.snd.snd.fst)
        (ExprT.s x0.snd.snd.snd.snd.snd.snd.snd.snd.snd.snd.snd.fst) (ExprT.l x0.snd.snd.snd.snd.snd.snd.snd.snd.snd.snd.snd.fst),
        x0.snd.snd.snd.snd.snd.snd.snd.snd.snd.snd.snd.snd)
      else true)
      (Tr.ok
        (Leaf.ret
        (AV.bool
        (bif sName x0.snd.fst then
        sEmpty
        (x0.fst, [], x0.snd.snd.fst, x0.snd.snd.snd.fst, x0.snd.snd.snd.snd.fst, x0.snd.snd.snd.snd.snd.fst, x0.snd.snd.snd.snd.snd.snd.fst,
        x0.snd.snd.snd.snd.snd.snd.snd.fst,
        ExprT.mk (ExprT.op x0.snd.snd.snd.snd.snd.snd.snd.snd.fst) (ExprT.v x0.snd.snd.snd.snd.snd.snd.snd.snd.fst)
        (ExprT.s x0.snd.snd.snd.snd.snd.snd.snd.snd.fst) (ExprT.l x0.snd.snd.snd.snd.snd.snd.snd.snd.fst),
        x0.snd.snd.snd.snd.snd.snd.snd.snd.snd.fst, x0.snd.snd.snd.snd.snd.snd.snd.snd.snd.snd.fst,
        ExprT.mk (ExprT.op x0.snd.snd.snd.snd.snd.snd.snd.snd.snd.snd.snd.fst) (ExprT.v x0.snd.snd.snd.snd.snd.snd.snd.snd.snd.snd.snd.fst)
        (ExprT.s x0.snd.snd.snd.snd.snd.snd.snd.snd.snd.snd.snd.fst) (ExprT.l x0.snd.snd.snd.snd.snd.snd.snd.snd.snd.snd.snd.fst),
        x0.snd.snd.snd.snd.snd.snd.snd.snd.snd.snd.snd.snd)
        else false))
        [])))
    (Tr.br (x0.fst == [105, 110, 115, 101, 114, 116])
      (Tr.chk
        (bif
        bif sName x0.snd.fst then
        bif
        bif decide ((↑(List.length x0.snd.snd.snd.snd.snd.snd.snd.snd.snd.fst) : Int) < 1) then true
        else decide ((↑(List.length x0.snd.snd.snd.snd.snd.snd.snd.snd.snd.fst) : Int) > 12) then
        false
        else !decide (ixFrom (fun x => !vMay x) x0.snd.snd.snd.snd.snd.snd.snd.snd.snd.fst 0 ≥ 0)
        else false then
        sEmptyC
        (x0.fst, [], x0.snd.snd.fst, x0.snd.snd.snd.fst, x0.snd.snd.snd.snd.fst, x0.snd.snd.snd.snd.snd.fst, x0.snd.snd.snd.snd.snd.snd.fst,
        x0.snd.snd.snd.snd.snd.snd.snd.fst,
        ExprT.mk (ExprT.op x0.snd.snd.snd.snd.snd.snd.snd.snd.fst) (ExprT.v x0.snd.snd.snd.snd.snd.snd.snd.snd.fst)
        (ExprT.s x0.snd.snd.snd.snd.snd.snd.snd.snd.fst) (ExprT.l x0.snd.snd.snd.snd.snd.snd.snd.snd.fst),
        [], x0.snd.snd.snd.snd.snd.snd.snd.snd.snd.snd.fst,
        ExprT.mk (ExprT.op x0.snd.snd.snd.snd.snd.snd.snd.snd.snd.snd.snd.fst) (ExprT.v x0.snd.snd.snd.snd.snd.snd.snd.snd.snd.snd.snd.fst)
        (ExprT.s x0.snd.snd.snd.snd.snd.snd.snd.snd.snd.snd.snd.fst) (ExprT.l x0.snd.snd.snd.snd.snd.snd.snd.snd.snd.snd.snd.fst),
        x0.snd.snd.snd.snd.snd.snd.snd.snd.snd.snd.snd.snd)
        else true)
        (Tr.ok
        (Leaf.ret
        (AV.bool
        (bif
        bif sName x0.snd.fst then
        bif
        bif decide ((↑(List.length x0.snd.snd.snd.snd.snd.snd.snd.snd.snd.fst) : Int) < 1) then true
        else decide ((↑(List.length x0.snd.snd.snd.snd.snd.snd.snd.snd.snd.fst) : Int) > 12) then
        false
        else !decide (ixFrom (fun x => !vMay x) x0.snd.snd.snd.snd.snd.snd.snd.snd.snd.fst 0 ≥ 0)
        else false then
        sEmpty
        (x0.fst, [], x0.snd.snd.fst, x0.snd.snd.snd.fst, x0.snd.snd.snd.snd.fst, x0.snd.snd.snd.snd.snd.fst, x0.snd.snd.snd.snd.snd.snd.fst,
        x0.snd.snd.snd.snd.snd.snd.snd.fst,
        ExprT.mk (ExprT.op x0.snd.snd.snd.snd.snd.snd.snd.snd.fst) (ExprT.v x0.snd.snd.snd.snd.snd.snd.snd.snd.fst)
        (ExprT.s x0.snd.snd.snd.snd.snd.snd.snd.snd.fst) (ExprT.l x0.snd.snd.snd.snd.snd.snd.snd.snd.fst),
        [], x0.snd.snd.snd.snd.snd.snd.snd.snd.snd.snd.fst,
        ExprT.mk (ExprT.op x0.snd.snd.snd.snd.snd.snd.snd.snd.snd.snd.snd.fst) (ExprT.v x0.snd.snd.snd.snd.snd.snd.snd.snd.snd.snd.snd.fst)
        (ExprT.s x0.snd.snd.snd.snd.snd.snd.snd.snd.snd.snd.snd.fst) (ExprT.l x0.snd.snd.snd.snd.snd.snd.snd.snd.snd.snd.snd.fst),
        x0.snd.snd.snd.snd.snd.snd.snd.snd.snd.snd.snd.snd)
        else false))
        [])))
      (Tr.br (x0.fst == [117, 112, 100, 97, 116, 101])
        (Tr.chk
        (bif
        bif sName x0.snd.fst then
        bif
        bif decide ((↑(List.length x0.snd.snd.snd.snd.snd.snd.snd.snd.snd.snd.fst) : Int) < 1) then true
        else decide ((↑(List.length x0.snd.snd.snd.snd.snd.snd.snd.snd.snd.snd.fst) : Int) > 8) then
        false
        else
        bif !decide (ixFrom (fun x => !setOk x) x0.snd.snd.snd.snd.snd.snd.snd.snd.snd.snd.fst 0 ≥ 0) then
        eMaybe
        (ExprT.mk (ExprT.op x0.snd.snd.snd.snd.snd.snd.snd.snd.snd.snd.snd.fst) (ExprT.v x0.snd.snd.snd.snd.snd.snd.snd.snd.snd.snd.snd.fst)
        (ExprT.s x0.snd.snd.snd.snd.snd.snd.snd.snd.snd.snd.snd.fst) (ExprT.l x0.snd.snd.snd.snd.snd.snd.snd.snd.snd.snd.snd.fst))
        else false
        else false then
        sEmptyC
        (x0.fst, [], x0.snd.snd.fst, x0.snd.snd.snd.fst, x0.snd.snd.snd.snd.fst, x0.snd.snd.snd.snd.snd.fst, x0.snd.snd.snd.snd.snd.snd.fst,
        x0.snd.snd.snd.snd.snd.snd.snd.fst,
        ExprT.mk (ExprT.op x0.snd.snd.snd.snd.snd.snd.snd.snd.fst) (ExprT.v x0.snd.snd.snd.snd.snd.snd.snd.snd.fst)
        (ExprT.s x0.snd.snd.snd.snd.snd.snd.snd.snd.fst) (ExprT.l x0.snd.snd.snd.snd.snd.snd.snd.snd.fst),
        x0.snd.snd.snd.snd.snd.snd.snd.snd.snd.fst, [], ExprT.mk [] (0, 0, []) [] [], x0.snd.snd.snd.snd.snd.snd.snd.snd.snd.snd.snd.snd)
        else true)
        (Tr.ok
        (Leaf.ret
        (AV.bool
        (bif
        bif sName x0.snd.fst then
        bif
        bif decide ((↑(List.length x0.snd.snd.snd.snd.snd.snd.snd.snd.snd.snd.fst) : Int) < 1) then true
        else decide ((↑(List.length x0.snd.snd.snd.snd.snd.snd.snd.snd.snd.snd.fst) : Int) > 8) then
        false
        else
        bif !decide (ixFrom (fun x => !setOk x) x0.snd.snd.snd.snd.snd.snd.snd.snd.snd.snd.fst 0 ≥ 0) then
        eMaybe
        (ExprT.mk (ExprT.op x0.snd.snd.snd.snd.snd.snd.snd.snd.snd.snd.snd.fst) (ExprT.v x0.snd.snd.snd.snd.snd.snd.snd.snd.snd.snd.snd.fst)
        (ExprT.s x0.snd.snd.snd.snd.snd.snd.snd.snd.snd.snd.snd.fst) (ExprT.l x0.snd.snd.snd.snd.snd.snd.snd.snd.snd.snd.snd.fst))
        else false
        else false then
        sEmpty
        (x0.fst, [], x0.snd.snd.fst, x0.snd.snd.snd.fst, x0.snd.snd.snd.snd.fst, x0.snd.snd.snd.snd.snd.fst, x0.snd.snd.snd.snd.snd.snd.fst,
        x0.snd.snd.snd.snd.snd.snd.snd.fst,
        ExprT.mk (ExprT.op x0.snd.snd.snd.snd.snd.snd.snd.snd.fst) (ExprT.v x0.snd.snd.snd.snd.snd.snd.snd.snd.fst)
        (ExprT.s x0.snd.snd.snd.snd.snd.snd.snd.snd.fst) (ExprT.l x0.snd.snd.snd.snd.snd.snd.snd.snd.fst),
        x0.snd.snd.snd.snd.snd.snd.snd.snd.snd.fst, [], ExprT.mk [] (0, 0, []) [] [], x0.snd.snd.snd.snd.snd.snd.snd.snd.snd.snd.snd.snd)
        else false))
        [])))
        (Tr.br (x0.fst == [100, 101, 108, 101, 116, 101])
        (Tr.chk
        (bif
        bif sName x0.snd.fst then
        eMaybe
        (ExprT.mk (ExprT.op x0.snd.snd.snd.snd.snd.snd.snd.snd.snd.snd.snd.fst) (ExprT.v x0.snd.snd.snd.snd.snd.snd.snd.snd.snd.snd.snd.fst)
        (ExprT.s x0.snd.snd.snd.snd.snd.snd.snd.snd.snd.snd.snd.fst) (ExprT.l x0.snd.snd.snd.snd.snd.snd.snd.snd.snd.snd.snd.fst))
        else false then
        sEmptyC
        (x0.fst, [], x0.snd.snd.fst, x0.snd.snd.snd.fst, x0.snd.snd.snd.snd.fst, x0.snd.snd.snd.snd.snd.fst, x0.snd.snd.snd.snd.snd.snd.fst,
        x0.snd.snd.snd.snd.snd.snd.snd.fst,
        ExprT.mk (ExprT.op x0.snd.snd.snd.snd.snd.snd.snd.snd.fst) (ExprT.v x0.snd.snd.snd.snd.snd.snd.snd.snd.fst)
        (ExprT.s x0.snd.snd.snd.snd.snd.snd.snd.snd.fst) (ExprT.l x0.snd.snd.snd.snd.snd.snd.snd.snd.fst),
        x0.snd.snd.snd.snd.snd.snd.snd.snd.snd.fst, x0.snd.snd.snd.snd.snd.snd.snd.snd.snd.snd.fst, ExprT.mk [] (0, 0, []) [] [],
        x0.snd.snd.snd.snd.snd.snd.snd.snd.snd.snd.snd.snd)
        else true)
        (Tr.ok
        (Leaf.ret
        (AV.bool
        (bif
        bif sName x0.snd.fst then
        eMaybe
        (ExprT.mk (ExprT.op x0.snd.snd.snd.snd.snd.snd.snd.snd.snd.snd.snd.fst) (ExprT.v x0.snd.snd.snd.snd.snd.snd.snd.snd.snd.snd.snd.fst)
        (ExprT.s x0.snd.snd.snd.snd.snd.snd.snd.snd.snd.snd.snd.fst) (ExprT.l x0.snd.snd.snd.snd.snd.snd.snd.snd.snd.snd.snd.fst))
        else false then
        sEmpty
        (x0.fst, [], x0.snd.snd.fst, x0.snd.snd.snd.fst, x0.snd.snd.snd.snd.fst, x0.snd.snd.snd.snd.snd.fst, x0.snd.snd.snd.snd.snd.snd.fst,
        x0.snd.snd.snd.snd.snd.snd.snd.fst,
        ExprT.mk (ExprT.op x0.snd.snd.snd.snd.snd.snd.snd.snd.fst) (ExprT.v x0.snd.snd.snd.snd.snd.snd.snd.snd.fst)
        (ExprT.s x0.snd.snd.snd.snd.snd.snd.snd.snd.fst) (ExprT.l x0.snd.snd.snd.snd.snd.snd.snd.snd.fst),
        x0.snd.snd.snd.snd.snd.snd.snd.snd.snd.fst, x0.snd.snd.snd.snd.snd.snd.snd.snd.snd.snd.fst, ExprT.mk [] (0, 0, []) [] [],
        x0.snd.snd.snd.snd.snd.snd.snd.snd.snd.snd.snd.snd)
        else false))
        [])))
        (Tr.br (x0.fst == [115, 101, 108, 101, 99, 116])
        (Tr.chk
        (bif
        bif sName x0.snd.fst then
        eMaybe
        (ExprT.mk (ExprT.op x0.snd.snd.snd.snd.snd.snd.snd.snd.snd.snd.snd.fst) (ExprT.v x0.snd.snd.snd.snd.snd.snd.snd.snd.snd.snd.snd.fst)
        (ExprT.s x0.snd.snd.snd.snd.snd.snd.snd.snd.snd.snd.snd.fst) (ExprT.l x0.snd.snd.snd.snd.snd.snd.snd.snd.snd.snd.snd.fst))
        else false then
        sEmptyC
        (x0.fst, [], x0.snd.snd.fst, x0.snd.snd.snd.fst, x0.snd.snd.snd.snd.fst, x0.snd.snd.snd.snd.snd.fst, x0.snd.snd.snd.snd.snd.snd.fst,
        x0.snd.snd.snd.snd.snd.snd.snd.fst,
        ExprT.mk (ExprT.op x0.snd.snd.snd.snd.snd.snd.snd.snd.fst) (ExprT.v x0.snd.snd.snd.snd.snd.snd.snd.snd.fst)
        (ExprT.s x0.snd.snd.snd.snd.snd.snd.snd.snd.fst) (ExprT.l x0.snd.snd.snd.snd.snd.snd.snd.snd.fst),
        x0.snd.snd.snd.snd.snd.snd.snd.snd.snd.fst, x0.snd.snd.snd.snd.snd.snd.snd.snd.snd.snd.fst, ExprT.mk [] (0, 0, []) [] [],
        x0.snd.snd.snd.snd.snd.snd.snd.snd.snd.snd.snd.snd)
        else true)
        (Tr.ok
        (Leaf.ret
        (AV.bool
        (bif
        bif sName x0.snd.fst then
        eMaybe
        (ExprT.mk (ExprT.op x0.snd.snd.snd.snd.snd.snd.snd.snd.snd.snd.snd.fst) (ExprT.v x0.snd.snd.snd.snd.snd.snd.snd.snd.snd.snd.snd.fst)
        (ExprT.s x0.snd.snd.snd.snd.snd.snd.snd.snd.snd.snd.snd.fst) (ExprT.l x0.snd.snd.snd.snd.snd.snd.snd.snd.snd.snd.snd.fst))
        else false then
        sEmpty
        (x0.fst, [], x0.snd.snd.fst, x0.snd.snd.snd.fst, x0.snd.snd.snd.snd.fst, x0.snd.snd.snd.snd.snd.fst, x0.snd.snd.snd.snd.snd.snd.fst,
        x0.snd.snd.snd.snd.snd.snd.snd.fst,
        ExprT.mk (ExprT.op x0.snd.snd.snd.snd.snd.snd.snd.snd.fst) (ExprT.v x0.snd.snd.snd.snd.snd.snd.snd.snd.fst)
        (ExprT.s x0.snd.snd.snd.snd.snd.snd.snd.snd.fst) (ExprT.l x0.snd.snd.snd.snd.snd.snd.snd.snd.fst),
        x0.snd.snd.snd.snd.snd.snd.snd.snd.snd.fst, x0.snd.snd.snd.snd.snd.snd.snd.snd.snd.snd.fst, ExprT.mk [] (0, 0, []) [] [],
        x0.snd.snd.snd.snd.snd.snd.snd.snd.snd.snd.snd.snd)
        else false))
        [])))
        (Tr.br (x0.fst == [114, 101, 97, 100])
        (Tr.chk
        (bif bif sName x0.snd.fst then sName x0.snd.snd.snd.snd.snd.snd.snd.snd.snd.snd.snd.snd else false then
        sEmptyC
        (x0.fst, [], x0.snd.snd.fst, x0.snd.snd.snd.fst, x0.snd.snd.snd.snd.fst, x0.snd.snd.snd.snd.snd.fst, x0.snd.snd.snd.snd.snd.snd.fst,
        x0.snd.snd.snd.snd.snd.snd.snd.fst,
        ExprT.mk (ExprT.op x0.snd.snd.snd.snd.snd.snd.snd.snd.fst) (ExprT.v x0.snd.snd.snd.snd.snd.snd.snd.snd.fst)
        (ExprT.s x0.snd.snd.snd.snd.snd.snd.snd.snd.fst) (ExprT.l x0.snd.snd.snd.snd.snd.snd.snd.snd.fst),
        x0.snd.snd.snd.snd.snd.snd.snd.snd.snd.fst, x0.snd.snd.snd.snd.snd.snd.snd.snd.snd.snd.fst,
        ExprT.mk (ExprT.op x0.snd.snd.snd.snd.snd.snd.snd.snd.snd.snd.snd.fst) (ExprT.v x0.snd.snd.snd.snd.snd.snd.snd.snd.snd.snd.snd.fst)
        (ExprT.s x0.snd.snd.snd.snd.snd.snd.snd.snd.snd.snd.snd.fst) (ExprT.l x0.snd.snd.snd.snd.snd.snd.snd.snd.snd.snd.snd.fst),
        [])
        else true)
        (Tr.ok
        (Leaf.ret
        (AV.bool
        (bif bif sName x0.snd.fst then sName x0.snd.snd.snd.snd.snd.snd.snd.snd.snd.snd.snd.snd else false then
        sEmpty
        (x0.fst, [], x0.snd.snd.fst, x0.snd.snd.snd.fst, x0.snd.snd.snd.snd.fst, x0.snd.snd.snd.snd.snd.fst, x0.snd.snd.snd.snd.snd.snd.fst,
        x0.snd.snd.snd.snd.snd.snd.snd.fst,
        ExprT.mk (ExprT.op x0.snd.snd.snd.snd.snd.snd.snd.snd.fst) (ExprT.v x0.snd.snd.snd.snd.snd.snd.snd.snd.fst)
        (ExprT.s x0.snd.snd.snd.snd.snd.snd.snd.snd.fst) (ExprT.l x0.snd.snd.snd.snd.snd.snd.snd.snd.fst),
        x0.snd.snd.snd.snd.snd.snd.snd.snd.snd.fst, x0.snd.snd.snd.snd.snd.snd.snd.snd.snd.snd.fst,
        ExprT.mk (ExprT.op x0.snd.snd.snd.snd.snd.snd.snd.snd.snd.snd.snd.fst) (ExprT.v x0.snd.snd.snd.snd.snd.snd.snd.snd.snd.snd.snd.fst)
        (ExprT.s x0.snd.snd.snd.snd.snd.snd.snd.snd.snd.snd.snd.fst) (ExprT.l x0.snd.snd.snd.snd.snd.snd.snd.snd.snd.snd.snd.fst),
        [])
        else false))
        [])))
        (Tr.br (x0.fst == [119, 114, 105, 116, 101])
        (Tr.chk
        (bif bif sName x0.snd.fst then sName x0.snd.snd.snd.snd.snd.snd.snd.snd.snd.snd.snd.snd else false then
        sEmptyC
        (x0.fst, [], x0.snd.snd.fst, x0.snd.snd.snd.fst, x0.snd.snd.snd.snd.fst, x0.snd.snd.snd.snd.snd.fst, x0.snd.snd.snd.snd.snd.snd.fst,
        x0.snd.snd.snd.snd.snd.snd.snd.fst,
        ExprT.mk (ExprT.op x0.snd.snd.snd.snd.snd.snd.snd.snd.fst) (ExprT.v x0.snd.snd.snd.snd.snd.snd.snd.snd.fst)
        (ExprT.s x0.snd.snd.snd.snd.snd.snd.snd.snd.fst) (ExprT.l x0.snd.snd.snd.snd.snd.snd.snd.snd.fst),
        x0.snd.snd.snd.snd.snd.snd.snd.snd.snd.fst, x0.snd.snd.snd.snd.snd.snd.snd.snd.snd.snd.fst,
        ExprT.mk (ExprT.op x0.snd.snd.snd.snd.snd.snd.snd.snd.snd.snd.snd.fst) (ExprT.v x0.snd.snd.snd.snd.snd.snd.snd.snd.snd.snd.snd.fst)
        (ExprT.s x0.snd.snd.snd.snd.snd.snd.snd.snd.snd.snd.snd.fst) (ExprT.l x0.snd.snd.snd.snd.snd.snd.snd.snd.snd.snd.snd.fst),
        [])
        else true)
        (Tr.ok
        (Leaf.ret
        (AV.bool
        (bif bif sName x0.snd.fst then sName x0.snd.snd.snd.snd.snd.snd.snd.snd.snd.snd.snd.snd else false then
        sEmpty
        (x0.fst, [], x0.snd.snd.fst, x0.snd.snd.snd.fst, x0.snd.snd.snd.snd.fst, x0.snd.snd.snd.snd.snd.fst, x0.snd.snd.snd.snd.snd.snd.fst,
        x0.snd.snd.snd.snd.snd.snd.snd.fst,
        ExprT.mk (ExprT.op x0.snd.snd.snd.snd.snd.snd.snd.snd.fst) (ExprT.v x0.snd.snd.snd.snd.snd.snd.snd.snd.fst)
        (ExprT.s x0.snd.snd.snd.snd.snd.snd.snd.snd.fst) (ExprT.l x0.snd.snd.snd.snd.snd.snd.snd.snd.fst),
        x0.snd.snd.snd.snd.snd.snd.snd.snd.snd.fst, x0.snd.snd.snd.snd.snd.snd.snd.snd.snd.snd.fst,
        ExprT.mk (ExprT.op x0.snd.snd.snd.snd.snd.snd.snd.snd.snd.snd.snd.fst)
        (ExprT.v x0.snd.snd.snd.snd.snd.snd.snd.snd.snd.snd.snd.fst) (ExprT.s x0.snd.snd.snd.snd.snd.snd.snd.snd.snd.snd.snd.fst)
        (ExprT.l x0.snd.snd.snd.snd.snd.snd.snd.snd.snd.snd.snd.fst),
        [])
        else false))
        [])))
        (Tr.br (x0.fst == [117, 110, 114, 101, 97, 100])
        (Tr.chk
        (bif bif sName x0.snd.fst then sName x0.snd.snd.snd.snd.snd.snd.snd.snd.snd.snd.snd.snd else false then
        sEmptyC
        (x0.fst, [], x0.snd.snd.fst, x0.snd.snd.snd.fst, x0.snd.snd.snd.snd.fst, x0.snd.snd.snd.snd.snd.fst, x0.snd.snd.snd.snd.snd.snd.fst,
        x0.snd.snd.snd.snd.snd.snd.snd.fst,
        ExprT.mk (ExprT.op x0.snd.snd.snd.snd.snd.snd.snd.snd.fst) (ExprT.v x0.snd.snd.snd.snd.snd.snd.snd.snd.fst)
        (ExprT.s x0.snd.snd.snd.snd.snd.snd.snd.snd.fst) (ExprT.l x0.snd.snd.snd.snd.snd.snd.snd.snd.fst),
        x0.snd.snd.snd.snd.snd.snd.snd.snd.snd.fst, x0.snd.snd.snd.snd.snd.snd.snd.snd.snd.snd.fst,
        ExprT.mk (ExprT.op x0.snd.snd.snd.snd.snd.snd.snd.snd.snd.snd.snd.fst) (ExprT.v x0.snd.snd.snd.snd.snd.snd.snd.snd.snd.snd.snd.fst)
        (ExprT.s x0.snd.snd.snd.snd.snd.snd.snd.snd.snd.snd.snd.fst) (ExprT.l x0.snd.snd.snd.snd.snd.snd.snd.snd.snd.snd.snd.fst),
        [])
        else true)
        (Tr.ok
        (Leaf.ret
        (AV.bool
        (bif bif sName x0.snd.fst then sName x0.snd.snd.snd.snd.snd.snd.snd.snd.snd.snd.snd.snd else false then
        sEmpty
        (x0.fst, [], x0.snd.snd.fst, x0.snd.snd.snd.fst, x0.snd.snd.snd.snd.fst, x0.snd.snd.snd.snd.snd.fst,
        x0.snd.snd.snd.snd.snd.snd.fst, x0.snd.snd.snd.snd.snd.snd.snd.fst,
        ExprT.mk (ExprT.op x0.snd.snd.snd.snd.snd.snd.snd.snd.fst) (ExprT.v x0.snd.snd.snd.snd.snd.snd.snd.snd.fst)
        (ExprT.s x0.snd.snd.snd.snd.snd.snd.snd.snd.fst) (ExprT.l x0.snd.snd.snd.snd.snd.snd.snd.snd.fst),
        x0.snd.snd.snd.snd.snd.snd.snd.snd.snd.fst, x0.snd.snd.snd.snd.snd.snd.snd.snd.snd.snd.fst,
        ExprT.mk (ExprT.op x0.snd.snd.snd.snd.snd.snd.snd.snd.snd.snd.snd.fst)
        (ExprT.v x0.snd.snd.snd.snd.snd.snd.snd.snd.snd.snd.snd.fst) (ExprT.s x0.snd.snd.snd.snd.snd.snd.snd.snd.snd.snd.snd.fst)
        (ExprT.l x0.snd.snd.snd.snd.snd.snd.snd.snd.snd.snd.snd.fst),
        [])
        else false))
        [])))
        (Tr.br (x0.fst == [117, 110, 119, 114, 105, 116, 101])
        (Tr.chk
        (bif bif sName x0.snd.fst then sName x0.snd.snd.snd.snd.snd.snd.snd.snd.snd.snd.snd.snd else false then
        sEmptyC
        (x0.fst, [], x0.snd.snd.fst, x0.snd.snd.snd.fst, x0.snd.snd.snd.snd.fst, x0.snd.snd.snd.snd.snd.fst, x0.snd.snd.snd.snd.snd.snd.fst,
        x0.snd.snd.snd.snd.snd.snd.snd.fst,
        ExprT.mk (ExprT.op x0.snd.snd.snd.snd.snd.snd.snd.snd.fst) (ExprT.v x0.snd.snd.snd.snd.snd.snd.snd.snd.fst)
        (ExprT.s x0.snd.snd.snd.snd.snd.snd.snd.snd.fst) (ExprT.l x0.snd.snd.snd.snd.snd.snd.snd.snd.fst),
        x0.snd.snd.snd.snd.snd.snd.snd.snd.snd.fst, x0.snd.snd.snd.snd.snd.snd.snd.snd.snd.snd.fst,
        ExprT.mk (ExprT.op x0.snd.snd.snd.snd.snd.snd.snd.snd.snd.snd.snd.fst) (ExprT.v x0.snd.snd.snd.snd.snd.snd.snd.snd.snd.snd.snd.fst)
        (ExprT.s x0.snd.snd.snd.snd.snd.snd.snd.snd.snd.snd.snd.fst) (ExprT.l x0.snd.snd.snd.snd.snd.snd.snd.snd.snd.snd.snd.fst),
        [])
        else true)
        (Tr.ok
        (Leaf.ret
        (AV.bool
        (bif bif sName x0.snd.fst then sName x0.snd.snd.snd.snd.snd.snd.snd.snd.snd.snd.snd.snd else false then
        sEmpty
        (x0.fst, [], x0.snd.snd.fst, x0.snd.snd.snd.fst, x0.snd.snd.snd.snd.fst, x0.snd.snd.snd.snd.snd.fst,
        x0.snd.snd.snd.snd.snd.snd.fst, x0.snd.snd.snd.snd.snd.snd.snd.fst,
        ExprT.mk (ExprT.op x0.snd.snd.snd.snd.snd.snd.snd.snd.fst) (ExprT.v x0.snd.snd.snd.snd.snd.snd.snd.snd.fst)
        (ExprT.s x0.snd.snd.snd.snd.snd.snd.snd.snd.fst) (ExprT.l x0.snd.snd.snd.snd.snd.snd.snd.snd.fst),
        x0.snd.snd.snd.snd.snd.snd.snd.snd.snd.fst, x0.snd.snd.snd.snd.snd.snd.snd.snd.snd.snd.fst,
        ExprT.mk (ExprT.op x0.snd.snd.snd.snd.snd.snd.snd.snd.snd.snd.snd.fst)
        (ExprT.v x0.snd.snd.snd.snd.snd.snd.snd.snd.snd.snd.snd.fst) (ExprT.s x0.snd.snd.snd.snd.snd.snd.snd.snd.snd.snd.snd.fst)
        (ExprT.l x0.snd.snd.snd.snd.snd.snd.snd.snd.snd.snd.snd.fst),
        [])
        else false))
        [])))
        (Tr.br (x0.fst == [99, 111, 112, 121])
        (Tr.chk
        (bif
        bif sName x0.snd.fst then
        bif sName x0.snd.snd.fst then
        bif
        bif decide ((↑(List.length x0.snd.snd.snd.fst) : Int) < 1) then true
        else decide ((↑(List.length x0.snd.snd.snd.fst) : Int) > 8) then
        false
        else
        bif !decide (ixFrom (fun x => !sName x) x0.snd.snd.snd.fst 0 ≥ 0) then
        eMaybe
        (ExprT.mk (ExprT.op x0.snd.snd.snd.snd.snd.snd.snd.snd.fst) (ExprT.v x0.snd.snd.snd.snd.snd.snd.snd.snd.fst)
        (ExprT.s x0.snd.snd.snd.snd.snd.snd.snd.snd.fst) (ExprT.l x0.snd.snd.snd.snd.snd.snd.snd.snd.fst))
        else false
        else false
        else false then
        sEmptyC
        (x0.fst, [], [], [], x0.snd.snd.snd.snd.fst, x0.snd.snd.snd.snd.snd.fst, x0.snd.snd.snd.snd.snd.snd.fst,
        x0.snd.snd.snd.snd.snd.snd.snd.fst, ExprT.mk [] (0, 0, []) [] [], x0.snd.snd.snd.snd.snd.snd.snd.snd.snd.fst,
        x0.snd.snd.snd.snd.snd.snd.snd.snd.snd.snd.fst,
        ExprT.mk (ExprT.op x0.snd.snd.snd.snd.snd.snd.snd.snd.snd.snd.snd.fst)
        (ExprT.v x0.snd.snd.snd.snd.snd.snd.snd.snd.snd.snd.snd.fst) (ExprT.s x0.snd.snd.snd.snd.snd.snd.snd.snd.snd.snd.snd.fst)
        (ExprT.l x0.snd.snd.snd.snd.snd.snd.snd.snd.snd.snd.snd.fst),
        x0.snd.snd.snd.snd.snd.snd.snd.snd.snd.snd.snd.snd)
        else true)
        (Tr.ok
        (Leaf.ret
        (AV.bool
        (bif
        bif sName x0.snd.fst then
        bif sName x0.snd.snd.fst then
        bif
        bif decide ((↑(List.length x0.snd.snd.snd.fst) : Int) < 1) then true
        else decide ((↑(List.length x0.snd.snd.snd.fst) : Int) > 8) then
        false
        else
        bif !decide (ixFrom (fun x => !sName x) x0.snd.snd.snd.fst 0 ≥ 0) then
        eMaybe
        (ExprT.mk (ExprT.op x0.snd.snd.snd.snd.snd.snd.snd.snd.fst) (ExprT.v x0.snd.snd.snd.snd.snd.snd.snd.snd.fst)
        (ExprT.s x0.snd.snd.snd.snd.snd.snd.snd.snd.fst) (ExprT.l x0.snd.snd.snd.snd.snd.snd.snd.snd.fst))
        else false
        else false
        else false then
        sEmpty
        (x0.fst, [], [], [], x0.snd.snd.snd.snd.fst, x0.snd.snd.snd.snd.snd.fst, x0.snd.snd.snd.snd.snd.snd.fst,
        x0.snd.snd.snd.snd.snd.snd.snd.fst, ExprT.mk [] (0, 0, []) [] [], x0.snd.snd.snd.snd.snd.snd.snd.snd.snd.fst,
        x0.snd.snd.snd.snd.snd.snd.snd.snd.snd.snd.fst,
        ExprT.mk (ExprT.op x0.snd.snd.snd.snd.snd.snd.snd.snd.snd.snd.snd.fst)
        (ExprT.v x0.snd.snd.snd.snd.snd.snd.snd.snd.snd.snd.snd.fst) (ExprT.s x0.snd.snd.snd.snd.snd.snd.snd.snd.snd.snd.snd.fst)
        (ExprT.l x0.snd.snd.snd.snd.snd.snd.snd.snd.snd.snd.snd.fst),
        x0.snd.snd.snd.snd.snd.snd.snd.snd.snd.snd.snd.snd)
        else false))
        [])))
        (Tr.br (x0.fst == [106, 111, 105, 110])
        (Tr.chk
        (bif
        bif sName x0.snd.fst then
        bif sName x0.snd.snd.fst then
        bif sName x0.snd.snd.snd.snd.snd.fst then
        bif sName x0.snd.snd.snd.snd.snd.snd.snd.snd.snd.snd.snd.snd then
        eMaybe
        (ExprT.mk (ExprT.op x0.snd.snd.snd.snd.snd.snd.snd.snd.fst) (ExprT.v x0.snd.snd.snd.snd.snd.snd.snd.snd.fst)
        (ExprT.s x0.snd.snd.snd.snd.snd.snd.snd.snd.fst) (ExprT.l x0.snd.snd.snd.snd.snd.snd.snd.snd.fst))
        else false
        else false
        else false
        else false then
        sEmptyC
        (x0.fst, [], [], x0.snd.snd.snd.fst, x0.snd.snd.snd.snd.fst, [], x0.snd.snd.snd.snd.snd.snd.fst,
        x0.snd.snd.snd.snd.snd.snd.snd.fst, ExprT.mk [] (0, 0, []) [] [], x0.snd.snd.snd.snd.snd.snd.snd.snd.snd.fst,
        x0.snd.snd.snd.snd.snd.snd.snd.snd.snd.snd.fst,
        ExprT.mk (ExprT.op x0.snd.snd.snd.snd.snd.snd.snd.snd.snd.snd.snd.fst)
        (ExprT.v x0.snd.snd.snd.snd.snd.snd.snd.snd.snd.snd.snd.fst) (ExprT.s x0.snd.snd.snd.snd.snd.snd.snd.snd.snd.snd.snd.fst)
        (ExprT.l x0.snd.snd.snd.snd.snd.snd.snd.snd.snd.snd.snd.fst),
        [])
        else true)
        (Tr.ok
        (Leaf.ret
        (AV.bool
        (bif
        bif sName x0.snd.fst then
        bif sName x0.snd.snd.fst then
        bif sName x0.snd.snd.snd.snd.snd.fst then
        bif sName x0.snd.snd.snd.snd.snd.snd.snd.snd.snd.snd.snd.snd then
        eMaybe
        (ExprT.mk (ExprT.op x0.snd.snd.snd.snd.snd.snd.snd.snd.fst) (ExprT.v x0.snd.snd.snd.snd.snd.snd.snd.snd.fst)
        (ExprT.s x0.snd.snd.snd.snd.snd.snd.snd.snd.fst) (ExprT.l x0.snd.snd.snd.snd.snd.snd.snd.snd.fst))
        else false
        else false
        else false
        else false then
        sEmpty
        (x0.fst, [], [], x0.snd.snd.snd.fst, x0.snd.snd.snd.snd.fst, [], x0.snd.snd.snd.snd.snd.snd.fst,
        x0.snd.snd.snd.snd.snd.snd.snd.fst, ExprT.mk [] (0, 0, []) [] [], x0.snd.snd.snd.snd.snd.snd.snd.snd.snd.fst,
        x0.snd.snd.snd.snd.snd.snd.snd.snd.snd.snd.fst,
        ExprT.mk (ExprT.op x0.snd.snd.snd.snd.snd.snd.snd.snd.snd.snd.snd.fst)
        (ExprT.v x0.snd.snd.snd.snd.snd.snd.snd.snd.snd.snd.snd.fst)
        (ExprT.s x0.snd.snd.snd.snd.snd.snd.snd.snd.snd.snd.snd.fst)
        (ExprT.l x0.snd.snd.snd.snd.snd.snd.snd.snd.snd.snd.snd.fst),
        [])
        else false))
        [])))
        (Tr.br (x0.fst == [103, 114, 111, 117, 112])
        (Tr.chk
        (bif
        bif sName x0.snd.fst then
        bif sName x0.snd.snd.fst then
        bif
        bif decide ((↑(List.length x0.snd.snd.snd.fst) : Int) < 2) then true
        else decide ((↑(List.length x0.snd.snd.snd.fst) : Int) > 2) then
        false
        else
        bif !decide (ixFrom (fun x => !sName x) x0.snd.snd.snd.fst 0 ≥ 0) then
        eMaybe
        (ExprT.mk (ExprT.op x0.snd.snd.snd.snd.snd.snd.snd.snd.fst) (ExprT.v x0.snd.snd.snd.snd.snd.snd.snd.snd.fst)
        (ExprT.s x0.snd.snd.snd.snd.snd.snd.snd.snd.fst) (ExprT.l x0.snd.snd.snd.snd.snd.snd.snd.snd.fst))
        else false
        else false
        else false then
        sEmptyC
        (x0.fst, [], [], [], x0.snd.snd.snd.snd.fst, x0.snd.snd.snd.snd.snd.fst, x0.snd.snd.snd.snd.snd.snd.fst,
        x0.snd.snd.snd.snd.snd.snd.snd.fst, ExprT.mk [] (0, 0, []) [] [], x0.snd.snd.snd.snd.snd.snd.snd.snd.snd.fst,
        x0.snd.snd.snd.snd.snd.snd.snd.snd.snd.snd.fst,
        ExprT.mk (ExprT.op x0.snd.snd.snd.snd.snd.snd.snd.snd.snd.snd.snd.fst)
        (ExprT.v x0.snd.snd.snd.snd.snd.snd.snd.snd.snd.snd.snd.fst) (ExprT.s x0.snd.snd.snd.snd.snd.snd.snd.snd.snd.snd.snd.fst)
        (ExprT.l x0.snd.snd.snd.snd.snd.snd.snd.snd.snd.snd.snd.fst),
        x0.snd.snd.snd.snd.snd.snd.snd.snd.snd.snd.snd.snd)
        else true)
        (Tr.ok
        (Leaf.ret
        (AV.bool
        (bif
        bif sName x0.snd.fst then
        bif sName x0.snd.snd.fst then
        bif
        bif decide ((↑(List.length x0.snd.snd.snd.fst) : Int) < 2) then true
        else decide ((↑(List.length x0.snd.snd.snd.fst) : Int) > 2) then
        false
        else
        bif !decide (ixFrom (fun x => !sName x) x0.snd.snd.snd.fst 0 ≥ 0) then
        eMaybe
        (ExprT.mk (ExprT.op x0.snd.snd.snd.snd.snd.snd.snd.snd.fst) (ExprT.v x0.snd.snd.snd.snd.snd.snd.snd.snd.fst)
        (ExprT.s x0.snd.snd.snd.snd.snd.snd.snd.snd.fst) (ExprT.l x0.snd.snd.snd.snd.snd.snd.snd.snd.fst))
        else false
        else false
        else false then
        sEmpty
        (x0.fst, [], [], [], x0.snd.snd.snd.snd.fst, x0.snd.snd.snd.snd.snd.fst, x0.snd.snd.snd.snd.snd.snd.fst,
        x0.snd.snd.snd.snd.snd.snd.snd.fst, ExprT.mk [] (0, 0, []) [] [], x0.snd.snd.snd.snd.snd.snd.snd.snd.snd.fst,
        x0.snd.snd.snd.snd.snd.snd.snd.snd.snd.snd.fst,
        ExprT.mk (ExprT.op x0.snd.snd.snd.snd.snd.snd.snd.snd.snd.snd.snd.fst)
        (ExprT.v x0.snd.snd.snd.snd.snd.snd.snd.snd.snd.snd.snd.fst)
        (ExprT.s x0.snd.snd.snd.snd.snd.snd.snd.snd.snd.snd.snd.fst)
        (ExprT.l x0.snd.snd.snd.snd.snd.snd.snd.snd.snd.snd.snd.fst),
        x0.snd.snd.snd.snd.snd.snd.snd.snd.snd.snd.snd.snd)
        else false))
        [])))
        (Tr.ok (Leaf.ret (AV.kb false) [])))))))))))))) := by kernel_rfl
def sParts (x0 : Sem shStmt) : Sem Sh.bool :=
  (if (x0.fst == [99, 114, 101, 97, 116, 101]) = true then
  bif bif sName x0.snd.fst then creates x0 else false then
    sEmpty (x0.fst, [], x0.snd.snd.fst, x0.snd.snd.snd.fst, [], [], [], [], ExprT.mk [] (0, 0, []) [] [], x0.snd.snd.snd.snd.snd.snd.snd.snd.snd)
  else false
else
  if (x0.fst == [100, 114, 111, 112]) = true then bif sName x0.snd.fst then sEmpty (x0.fst, [], x0.snd.snd) else false
  else
    if (x0.fst == [105, 110, 115, 101, 114, 116]) = true then
      bif
        bif sName x0.snd.fst then
        bif
        bif decide ((↑(List.length x0.snd.snd.snd.snd.snd.snd.snd.snd.snd.fst) : Int) < 1) then true
        else decide ((↑(List.length x0.snd.snd.snd.snd.snd.snd.snd.snd.snd.fst) : Int) > 12) then
        false
        else !decide (ixFrom (fun x => !vMay x) x0.snd.snd.snd.snd.snd.snd.snd.snd.snd.fst 0 ≥ 0)
        else false then
        sEmpty
        (x0.fst, [], x0.snd.snd.fst, x0.snd.snd.snd.fst, x0.snd.snd.snd.snd.fst, x0.snd.snd.snd.snd.snd.fst, x0.snd.snd.snd.snd.snd.snd.fst,
        x0.snd.snd.snd.snd.snd.snd.snd.fst, x0.snd.snd.snd.snd.snd.snd.snd.snd.fst, [], x0.snd.snd.snd.snd.snd.snd.snd.snd.snd.snd)
      else false
    else
      if (x0.fst == [117, 112, 100, 97, 116, 101]) = true then
        bif
        bif sName x0.snd.fst then
        bif
        bif decide ((↑(List.length x0.snd.snd.snd.snd.snd.snd.snd.snd.snd.snd.fst) : Int) < 1) then true
        else decide ((↑(List.length x0.snd.snd.snd.snd.snd.snd.snd.snd.snd.snd.fst) : Int) > 8) then
        false
        else
        bif !decide (ixFrom (fun x => !setOk x) x0.snd.snd.snd.snd.snd.snd.snd.snd.snd.snd.fst 0 ≥ 0) then
        eMaybe x0.snd.snd.snd.snd.snd.snd.snd.snd.snd.snd.snd.fst
        else false
        else false then
        sEmpty
        (x0.fst, [], x0.snd.snd.fst, x0.snd.snd.snd.fst, x0.snd.snd.snd.snd.fst, x0.snd.snd.snd.snd.snd.fst, x0.snd.snd.snd.snd.snd.snd.fst,
        x0.snd.snd.snd.snd.snd.snd.snd.fst, x0.snd.snd.snd.snd.snd.snd.snd.snd.fst, x0.snd.snd.snd.snd.snd.snd.snd.snd.snd.fst, [],
        ExprT.mk [] (0, 0, []) [] [], x0.snd.snd.snd.snd.snd.snd.snd.snd.snd.snd.snd.snd)
        else false
      else
        if (x0.fst == [100, 101, 108, 101, 116, 101]) = true then
        bif bif sName x0.snd.fst then eMaybe x0.snd.snd.snd.snd.snd.snd.snd.snd.snd.snd.snd.fst else false then
        sEmpty
        (x0.fst, [], x0.snd.snd.fst, x0.snd.snd.snd.fst, x0.snd.snd.snd.snd.fst, x0.snd.snd.snd.snd.snd.fst, x0.snd.snd.snd.snd.snd.snd.fst,
        x0.snd.snd.snd.snd.snd.snd.snd.fst, x0.snd.snd.snd.snd.snd.snd.snd.snd.fst, x0.snd.snd.snd.snd.snd.snd.snd.snd.snd.fst,
        x0.snd.snd.snd.snd.snd.snd.snd.snd.snd.snd.fst, ExprT.mk [] (0, 0, []) [] [], x0.snd.snd.snd.snd.snd.snd.snd.snd.snd.snd.snd.snd)
        else false
        else
        if (x0.fst == [115, 101, 108, 101, 99, 116]) = true then
        bif bif sName x0.snd.fst then eMaybe x0.snd.snd.snd.snd.snd.snd.snd.snd.snd.snd.snd.fst else false then
        sEmpty
        (x0.fst, [], x0.snd.snd.fst, x0.snd.snd.snd.fst, x0.snd.snd.snd.snd.fst, x0.snd.snd.snd.snd.snd.fst, x0.snd.snd.snd.snd.snd.snd.fst,
        x0.snd.snd.snd.snd.snd.snd.snd.fst, x0.snd.snd.snd.snd.snd.snd.snd.snd.fst, x0.snd.snd.snd.snd.snd.snd.snd.snd.snd.fst,
        x0.snd.snd.snd.snd.snd.snd.snd.snd.snd.snd.fst, ExprT.mk [] (0, 0, []) [] [], x0.snd.snd.snd.snd.snd.snd.snd.snd.snd.snd.snd.snd)
        else false
        else
        if (x0.fst == [114, 101, 97, 100]) = true then
        bif bif sName x0.snd.fst then sName x0.snd.snd.snd.snd.snd.snd.snd.snd.snd.snd.snd.snd else false then
        sEmpty
        (x0.fst, [], x0.snd.snd.fst, x0.snd.snd.snd.fst, x0.snd.snd.snd.snd.fst, x0.snd.snd.snd.snd.snd.fst, x0.snd.snd.snd.snd.snd.snd.fst,
        x0.snd.snd.snd.snd.snd.snd.snd.fst, x0.snd.snd.snd.snd.snd.snd.snd.snd.fst, x0.snd.snd.snd.snd.snd.snd.snd.snd.snd.fst,
        x0.snd.snd.snd.snd.snd.snd.snd.snd.snd.snd.fst, x0.snd.snd.snd.snd.snd.snd.snd.snd.snd.snd.snd.fst, [])
        else false
        else
        if (x0.fst == [119, 114, 105, 116, 101]) = true then
        bif bif sName x0.snd.fst then sName x0.snd.snd.snd.snd.snd.snd.snd.snd.snd.snd.snd.snd else false then
        sEmpty
        (x0.fst, [], x0.snd.snd.fst, x0.snd.snd.snd.fst, x0.snd.snd.snd.snd.fst, x0.snd.snd.snd.snd.snd.fst, x0.snd.snd.snd.snd.snd.snd.fst,
        x0.snd.snd.snd.snd.snd.snd.snd.fst, x0.snd.snd.snd.snd.snd.snd.snd.snd.fst, x0.snd.snd.snd.snd.snd.snd.snd.snd.snd.fst,
        x0.snd.snd.snd.snd.snd.snd.snd.snd.snd.snd.fst, x0.snd.snd.snd.snd.snd.snd.snd.snd.snd.snd.snd.fst, [])
        else false
        else
        if (x0.fst == [117, 110, 114, 101, 97, 100]) = true then
        bif bif sName x0.snd.fst then sName x0.snd.snd.snd.snd.snd.snd.snd.snd.snd.snd.snd.snd else false then
        sEmpty
        (x0.fst, [], x0.snd.snd.fst, x0.snd.snd.snd.fst, x0.snd.snd.snd.snd.fst, x0.snd.snd.snd.snd.snd.fst, x0.snd.snd.snd.snd.snd.snd.fst,
        x0.snd.snd.snd.snd.snd.snd.snd.fst, x0.snd.snd.snd.snd.snd.snd.snd.snd.fst, x0.snd.snd.snd.snd.snd.snd.snd.snd.snd.fst,
        x0.snd.snd.snd.snd.snd.snd.snd.snd.snd.snd.fst, x0.snd.snd.snd.snd.snd.snd.snd.snd.snd.snd.snd.fst, [])
        else false
        else
        if (x0.fst == [117, 110, 119, 114, 105, 116, 101]) = true then
        bif bif sName x0.snd.fst then sName x0.snd.snd.snd.snd.snd.snd.snd.snd.snd.snd.snd.snd else false then
        sEmpty
        (x0.fst, [], x0.snd.snd.fst, x0.snd.snd.snd.fst, x0.snd.snd.snd.snd.fst, x0.snd.snd.snd.snd.snd.fst, x0.snd.snd.snd.snd.snd.snd.fst,
        x0.snd.snd.snd.snd.snd.snd.snd.fst, x0.snd.snd.snd.snd.snd.snd.snd.snd.fst, x0.snd.snd.snd.snd.snd.snd.snd.snd.snd.fst,
        x0.snd.snd.snd.snd.snd.snd.snd.snd.snd.snd.fst, x0.snd.snd.snd.snd.snd.snd.snd.snd.snd.snd.snd.fst, [])
        else false
        else
        if (x0.fst == [99, 111, 112, 121]) = true then
        bif
        bif sName x0.snd.fst then
        bif sName x0.snd.snd.fst then
        bif
        bif decide ((↑(List.length x0.snd.snd.snd.fst) : Int) < 1) then true
        else decide ((↑(List.length x0.snd.snd.snd.fst) : Int) > 8) then
        false
        else
        bif !decide (ixFrom (fun x => !sName x) x0.snd.snd.snd.fst 0 ≥ 0) then eMaybe x0.snd.snd.snd.snd.snd.snd.snd.snd.fst else false
        else false
        else false then
        sEmpty
        (x0.fst, [], [], [], x0.snd.snd.snd.snd.fst, x0.snd.snd.snd.snd.snd.fst, x0.snd.snd.snd.snd.snd.snd.fst,
        x0.snd.snd.snd.snd.snd.snd.snd.fst, ExprT.mk [] (0, 0, []) [] [], x0.snd.snd.snd.snd.snd.snd.snd.snd.snd)
        else false
        else
        if (x0.fst == [106, 111, 105, 110]) = true then
        bif
        bif sName x0.snd.fst then
        bif sName x0.snd.snd.fst then
        bif sName x0.snd.snd.snd.snd.snd.fst then
        bif sName x0.snd.snd.snd.snd.snd.snd.snd.snd.snd.snd.snd.snd then eMaybe x0.snd.snd.snd.snd.snd.snd.snd.snd.fst else false
        else false
        else false
        else false then
        sEmpty
        (x0.fst, [], [], x0.snd.snd.snd.fst, x0.snd.snd.snd.snd.fst, [], x0.snd.snd.snd.snd.snd.snd.fst, x0.snd.snd.snd.snd.snd.snd.snd.fst,
        ExprT.mk [] (0, 0, []) [] [], x0.snd.snd.snd.snd.snd.snd.snd.snd.snd.fst, x0.snd.snd.snd.snd.snd.snd.snd.snd.snd.snd.fst,
        x0.snd.snd.snd.snd.snd.snd.snd.snd.snd.snd.snd.fst, [])
        else false
        else
        if (x0.fst == [103, 114, 111, 117, 112]) = true then
        bif
        bif sName x0.snd.fst then
        bif sName x0.snd.snd.fst then
        bif
        bif decide ((↑(List.length x0.snd.snd.snd.fst) : Int) < 2) then true
        else decide ((↑(List.length x0.snd.snd.snd.fst) : Int) > 2) then
        false
        else
        bif !decide (ixFrom (fun x => !sName x) x0.snd.snd.snd.fst 0 ≥ 0) then eMaybe x0.snd.snd.snd.snd.snd.snd.snd.snd.fst
        else false
        else false
        else false then
        sEmpty
        (x0.fst, [], [], [], x0.snd.snd.snd.snd.fst, x0.snd.snd.snd.snd.snd.fst, x0.snd.snd.snd.snd.snd.snd.fst,
        x0.snd.snd.snd.snd.snd.snd.snd.fst, ExprT.mk [] (0, 0, []) [] [], x0.snd.snd.snd.snd.snd.snd.snd.snd.snd)
        else false
        else false)
def sPartsC (x0 : Sem shStmt) : Bool :=
  (if (x0.fst == [99, 114, 101, 97, 116, 101]) = true then
  if
      (bif bif sName x0.snd.fst then creates x0 else false then
        sEmptyC (x0.fst, [], x0.snd.snd.fst, x0.snd.snd.snd.fst, [], [], [], [], ExprT.mk [] (0, 0, []) [] [], x0.snd.snd.snd.snd.snd.snd.snd.snd.snd)
        else true) =
        true then
    true
  else false
else
  if (x0.fst == [100, 114, 111, 112]) = true then if (bif sName x0.snd.fst then sEmptyC (x0.fst, [], x0.snd.snd) else true) = true then true else false
  else
    if (x0.fst == [105, 110, 115, 101, 114, 116]) = true then
      if
        (bif
        bif sName x0.snd.fst then
        bif
        bif decide ((↑(List.length x0.snd.snd.snd.snd.snd.snd.snd.snd.snd.fst) : Int) < 1) then true
        else decide ((↑(List.length x0.snd.snd.snd.snd.snd.snd.snd.snd.snd.fst) : Int) > 12) then
        false
        else !decide (ixFrom (fun x => !vMay x) x0.snd.snd.snd.snd.snd.snd.snd.snd.snd.fst 0 ≥ 0)
        else false then
        sEmptyC
        (x0.fst, [], x0.snd.snd.fst, x0.snd.snd.snd.fst, x0.snd.snd.snd.snd.fst, x0.snd.snd.snd.snd.snd.fst, x0.snd.snd.snd.snd.snd.snd.fst,
        x0.snd.snd.snd.snd.snd.snd.snd.fst, x0.snd.snd.snd.snd.snd.snd.snd.snd.fst, [], x0.snd.snd.snd.snd.snd.snd.snd.snd.snd.snd)
        else true) =
        true then
        true
      else false
    else
      if (x0.fst == [117, 112, 100, 97, 116, 101]) = true then
        if
        (bif
        bif sName x0.snd.fst then
        bif
        bif decide ((↑(List.length x0.snd.snd.snd.snd.snd.snd.snd.snd.snd.snd.fst) : Int) < 1) then true
        else decide ((↑(List.length x0.snd.snd.snd.snd.snd.snd.snd.snd.snd.snd.fst) : Int) > 8) then
        false
        else
        bif !decide (ixFrom (fun x => !setOk x) x0.snd.snd.snd.snd.snd.snd.snd.snd.snd.snd.fst 0 ≥ 0) then
        eMaybe x0.snd.snd.snd.snd.snd.snd.snd.snd.snd.snd.snd.fst
        else false
        else false then
        sEmptyC
        (x0.fst, [], x0.snd.snd.fst, x0.snd.snd.snd.fst, x0.snd.snd.snd.snd.fst, x0.snd.snd.snd.snd.snd.fst, x0.snd.snd.snd.snd.snd.snd.fst,
        x0.snd.snd.snd.snd.snd.snd.snd.fst, x0.snd.snd.snd.snd.snd.snd.snd.snd.fst, x0.snd.snd.snd.snd.snd.snd.snd.snd.snd.fst, [],
        ExprT.mk [] (0, 0, []) [] [], x0.snd.snd.snd.snd.snd.snd.snd.snd.snd.snd.snd.snd)
        else true) =
        true then
        true
        else false
      else
        if (x0.fst == [100, 101, 108, 101, 116, 101]) = true then
        if
        (bif bif sName x0.snd.fst then eMaybe x0.snd.snd.snd.snd.snd.snd.snd.snd.snd.snd.snd.fst else false then
        sEmptyC
        (x0.fst, [], x0.snd.snd.fst, x0.snd.snd.snd.fst, x0.snd.snd.snd.snd.fst, x0.snd.snd.snd.snd.snd.fst, x0.snd.snd.snd.snd.snd.snd.fst,
        x0.snd.snd.snd.snd.snd.snd.snd.fst, x0.snd.snd.snd.snd.snd.snd.snd.snd.fst, x0.snd.snd.snd.snd.snd.snd.snd.snd.snd.fst,
        x0.snd.snd.snd.snd.snd.snd.snd.snd.snd.snd.fst, ExprT.mk [] (0, 0, []) [] [], x0.snd.snd.snd.snd.snd.snd.snd.snd.snd.snd.snd.snd)
        else true) =
        true then
        true
        else false
        else
        if (x0.fst == [115, 101, 108, 101, 99, 116]) = true then
        if
        (bif bif sName x0.snd.fst then eMaybe x0.snd.snd.snd.snd.snd.snd.snd.snd.snd.snd.snd.fst else false then
        sEmptyC
        (x0.fst, [], x0.snd.snd.fst, x0.snd.snd.snd.fst, x0.snd.snd.snd.snd.fst, x0.snd.snd.snd.snd.snd.fst, x0.snd.snd.snd.snd.snd.snd.fst,
        x0.snd.snd.snd.snd.snd.snd.snd.fst, x0.snd.snd.snd.snd.snd.snd.snd.snd.fst, x0.snd.snd.snd.snd.snd.snd.snd.snd.snd.fst,
        x0.snd.snd.snd.snd.snd.snd.snd.snd.snd.snd.fst, ExprT.mk [] (0, 0, []) [] [], x0.snd.snd.snd.snd.snd.snd.snd.snd.snd.snd.snd.snd)
        else true) =
        true then
        true
        else false
        else
        if (x0.fst == [114, 101, 97, 100]) = true then
        if
        (bif bif sName x0.snd.fst then sName x0.snd.snd.snd.snd.snd.snd.snd.snd.snd.snd.snd.snd else false then
        sEmptyC
        (x0.fst, [], x0.snd.snd.fst, x0.snd.snd.snd.fst, x0.snd.snd.snd.snd.fst, x0.snd.snd.snd.snd.snd.fst, x0.snd.snd.snd.snd.snd.snd.fst,
        x0.snd.snd.snd.snd.snd.snd.snd.fst, x0.snd.snd.snd.snd.snd.snd.snd.snd.fst, x0.snd.snd.snd.snd.snd.snd.snd.snd.snd.fst,
        x0.snd.snd.snd.snd.snd.snd.snd.snd.snd.snd.fst, x0.snd.snd.snd.snd.snd.snd.snd.snd.snd.snd.snd.fst, [])
        else true) =
        true then
        true
        else false
        else
        if (x0.fst == [119, 114, 105, 116, 101]) = true then
        if
        (bif bif sName x0.snd.fst then sName x0.snd.snd.snd.snd.snd.snd.snd.snd.snd.snd.snd.snd else false then
        sEmptyC
        (x0.fst, [], x0.snd.snd.fst, x0.snd.snd.snd.fst, x0.snd.snd.snd.snd.fst, x0.snd.snd.snd.snd.snd.fst, x0.snd.snd.snd.snd.snd.snd.fst,
        x0.snd.snd.snd.snd.snd.snd.snd.fst, x0.snd.snd.snd.snd.snd.snd.snd.snd.fst, x0.snd.snd.snd.snd.snd.snd.snd.snd.snd.fst,
        x0.snd.snd.snd.snd.snd.snd.snd.snd.snd.snd.fst, x0.snd.snd.snd.snd.snd.snd.snd.snd.snd.snd.snd.fst, [])
        else true) =
        true then
        true
        else false
        else
        if (x0.fst == [117, 110, 114, 101, 97, 100]) = true then
        if
        (bif bif sName x0.snd.fst then sName x0.snd.snd.snd.snd.snd.snd.snd.snd.snd.snd.snd.snd else false then
        sEmptyC
        (x0.fst, [], x0.snd.snd.fst, x0.snd.snd.snd.fst, x0.snd.snd.snd.snd.fst, x0.snd.snd.snd.snd.snd.fst, x0.snd.snd.snd.snd.snd.snd.fst,
        x0.snd.snd.snd.snd.snd.snd.snd.fst, x0.snd.snd.snd.snd.snd.snd.snd.snd.fst, x0.snd.snd.snd.snd.snd.snd.snd.snd.snd.fst,
        x0.snd.snd.snd.snd.snd.snd.snd.snd.snd.snd.fst, x0.snd.snd.snd.snd.snd.snd.snd.snd.snd.snd.snd.fst, [])
        else true) =
        true then
        true
        else false
        else
        if (x0.fst == [117, 110, 119, 114, 105, 116, 101]) = true then
        if
        (bif bif sName x0.snd.fst then sName x0.snd.snd.snd.snd.snd.snd.snd.snd.snd.snd.snd.snd else false then
        sEmptyC
        (x0.fst, [], x0.snd.snd.fst, x0.snd.snd.snd.fst, x0.snd.snd.snd.snd.fst, x0.snd.snd.snd.snd.snd.fst,
        x0.snd.snd.snd.snd.snd.snd.fst, x0.snd.snd.snd.snd.snd.snd.snd.fst, x0.snd.snd.snd.snd.snd.snd.snd.snd.fst,
        x0.snd.snd.snd.snd.snd.snd.snd.snd.snd.fst, x0.snd.snd.snd.snd.snd.snd.snd.snd.snd.snd.fst,
        x0.snd.snd.snd.snd.snd.snd.snd.snd.snd.snd.snd.fst, [])
        else true) =
        true then
        true
        else false
        else
        if (x0.fst == [99, 111, 112, 121]) = true then
        if
        (bif
        bif sName x0.snd.fst then
        bif sName x0.snd.snd.fst then
        bif
        bif decide ((↑(List.length x0.snd.snd.snd.fst) : Int) < 1) then true
        else decide ((↑(List.length x0.snd.snd.snd.fst) : Int) > 8) then
        false
        else
        bif !decide (ixFrom (fun x => !sName x) x0.snd.snd.snd.fst 0 ≥ 0) then eMaybe x0.snd.snd.snd.snd.snd.snd.snd.snd.fst
        else false
        else false
        else false then
        sEmptyC
        (x0.fst, [], [], [], x0.snd.snd.snd.snd.fst, x0.snd.snd.snd.snd.snd.fst, x0.snd.snd.snd.snd.snd.snd.fst,
        x0.snd.snd.snd.snd.snd.snd.snd.fst, ExprT.mk [] (0, 0, []) [] [], x0.snd.snd.snd.snd.snd.snd.snd.snd.snd)
        else true) =
        true then
        true
        else false
        else
        if (x0.fst == [106, 111, 105, 110]) = true then
        if
        (bif
        bif sName x0.snd.fst then
        bif sName x0.snd.snd.fst then
        bif sName x0.snd.snd.snd.snd.snd.fst then
        bif sName x0.snd.snd.snd.snd.snd.snd.snd.snd.snd.snd.snd.snd then eMaybe x0.snd.snd.snd.snd.snd.snd.snd.snd.fst
        else false
        else false
        else false
        else false then
        sEmptyC
        (x0.fst, [], [], x0.snd.snd.snd.fst, x0.snd.snd.snd.snd.fst, [], x0.snd.snd.snd.snd.snd.snd.fst,
        x0.snd.snd.snd.snd.snd.snd.snd.fst, ExprT.mk [] (0, 0, []) [] [], x0.snd.snd.snd.snd.snd.snd.snd.snd.snd.fst,
        x0.snd.snd.snd.snd.snd.snd.snd.snd.snd.snd.fst, x0.snd.snd.snd.snd.snd.snd.snd.snd.snd.snd.snd.fst, [])
        else true) =
        true then
        true
        else false
        else
        if (x0.fst == [103, 114, 111, 117, 112]) = true then
        if
        (bif
        bif sName x0.snd.fst then
        bif sName x0.snd.snd.fst then
        bif
        bif decide ((↑(List.length x0.snd.snd.snd.fst) : Int) < 2) then true
        else decide ((↑(List.length x0.snd.snd.snd.fst) : Int) > 2) then
        false
        else
        bif !decide (ixFrom (fun x => !sName x) x0.snd.snd.snd.fst 0 ≥ 0) then eMaybe x0.snd.snd.snd.snd.snd.snd.snd.snd.fst
        else false
        else false
        else false then
        sEmptyC
        (x0.fst, [], [], [], x0.snd.snd.snd.snd.fst, x0.snd.snd.snd.snd.snd.fst, x0.snd.snd.snd.snd.snd.snd.fst,
        x0.snd.snd.snd.snd.snd.snd.snd.fst, ExprT.mk [] (0, 0, []) [] [], x0.snd.snd.snd.snd.snd.snd.snd.snd.snd)
        else true) =
        true then
        true
        else false
        else true)
def F67 : FSem := plainC [shStmt] [Sh.bool] (fun x => sPartsC x.1) fun x => (sParts x.1, ())
theorem FOk67 : FOk (env41).P (env41).gl 67 F67 := by
  refine FOk_plainC (ok67) fun x hc C hC => ?_
  unfold sPartsC at hc
  refine reach_ok env41_all env41_mix (ok67) (fun id _ => hC id) (go67 x.1) ?_
  generalize hy : sParts x.1 = y
  unfold sParts at hy
  try simp only [ExprT.eta]
  repeat' (first | (with_reducible refine OptOk_br (fun hsp => ?_) (fun hsp => ?_) <;> first | (rw [if_pos hsp] at hy; try rw [if_pos hsp] at hc) | (rw [if_neg (ne_t hsp)] at hy; try rw [if_neg (ne_t hsp)] at hc)) | (have hgi := guard_ite hc; with_reducible refine OptOk_chk hgi.1 ?_; replace hc := hgi.2; clear hgi) | with_reducible refine OptOk_chkT ?_)
  all_goals first | (cases hc; done) | (subst hy; first | rfl)

abbrev kp68 : Nat → Keep := fun j => { }
theorem ok68 : fnChk (env41).P 68 Tryz.f68 1 := by refine ⟨?_, ?_, ?_, ?_⟩ <;> kernel_rfl
theorem go68 (x0 : Sem shStmt) : run (env41) 0 kp68 (Func.results Tryz.f68).toList 400 (bodyOf Tryz.f68) (initSt (Func.ntmps Tryz.f68) [datum shStmt x0] []) =
  Tr.chk (decide (List.length x0.fst ≤ 140737488355328) && List.all x0.fst fun b => decide (b.toNat < 128))
  (Tr.chk (decide ([77, 73, 71, 82, 65, 84, 69, 32].length + (Lib.toUpperA x0.fst).length ≤ 1099511627776))
    (Tr.chk (decide (List.length ([77, 73, 71, 82, 65, 84, 69, 32] ++ Lib.toUpperA x0.fst) + [32].length ≤ 1099511627776))
      (Tr.chk (decide (List.length ([77, 73, 71, 82, 65, 84, 69, 32] ++ Lib.toUpperA x0.fst ++ [32]) + List.length x0.snd.fst ≤ 1099511627776))
        (Tr.chk
        (decide
        (List.length ([77, 73, 71, 82, 65, 84, 69, 32] ++ Lib.toUpperA x0.fst ++ [32] ++ x0.snd.fst) + [32, 70, 82, 79, 77, 32].length ≤ 1099511627776))
        (Tr.chk
        (decide
        (List.length ([77, 73, 71, 82, 65, 84, 69, 32] ++ Lib.toUpperA x0.fst ++ [32] ++ x0.snd.fst ++ [32, 70, 82, 79, 77, 32]) +
        List.length x0.snd.snd.fst ≤
        1099511627776))
        (Tr.br (x0.fst == [99, 114, 101, 97, 116, 101])
        (Tr.chk
        (createdC
        (x0.fst, x0.snd.fst, x0.snd.snd.fst, x0.snd.snd.snd.fst, x0.snd.snd.snd.snd.fst, x0.snd.snd.snd.snd.snd.fst, x0.snd.snd.snd.snd.snd.snd.fst,
        x0.snd.snd.snd.snd.snd.snd.snd.fst,
        ExprT.mk (ExprT.op x0.snd.snd.snd.snd.snd.snd.snd.snd.fst) (ExprT.v x0.snd.snd.snd.snd.snd.snd.snd.snd.fst)
        (ExprT.s x0.snd.snd.snd.snd.snd.snd.snd.snd.fst) (ExprT.l x0.snd.snd.snd.snd.snd.snd.snd.snd.fst),
        x0.snd.snd.snd.snd.snd.snd.snd.snd.snd.fst, x0.snd.snd.snd.snd.snd.snd.snd.snd.snd.snd.fst,
        ExprT.mk (ExprT.op x0.snd.snd.snd.snd.snd.snd.snd.snd.snd.snd.snd.fst) (ExprT.v x0.snd.snd.snd.snd.snd.snd.snd.snd.snd.snd.snd.fst)
        (ExprT.s x0.snd.snd.snd.snd.snd.snd.snd.snd.snd.snd.snd.fst) (ExprT.l x0.snd.snd.snd.snd.snd.snd.snd.snd.snd.snd.snd.fst),
        x0.snd.snd.snd.snd.snd.snd.snd.snd.snd.snd.snd.snd))
        (Tr.ok
        (Leaf.ret
        (AV.str
        (created
        (x0.fst, x0.snd.fst, x0.snd.snd.fst, x0.snd.snd.snd.fst, x0.snd.snd.snd.snd.fst, x0.snd.snd.snd.snd.snd.fst,
        x0.snd.snd.snd.snd.snd.snd.fst, x0.snd.snd.snd.snd.snd.snd.snd.fst,
        ExprT.mk (ExprT.op x0.snd.snd.snd.snd.snd.snd.snd.snd.fst) (ExprT.v x0.snd.snd.snd.snd.snd.snd.snd.snd.fst)
        (ExprT.s x0.snd.snd.snd.snd.snd.snd.snd.snd.fst) (ExprT.l x0.snd.snd.snd.snd.snd.snd.snd.snd.fst),
        x0.snd.snd.snd.snd.snd.snd.snd.snd.snd.fst, x0.snd.snd.snd.snd.snd.snd.snd.snd.snd.snd.fst,
        ExprT.mk (ExprT.op x0.snd.snd.snd.snd.snd.snd.snd.snd.snd.snd.snd.fst) (ExprT.v x0.snd.snd.snd.snd.snd.snd.snd.snd.snd.snd.snd.fst)
        (ExprT.s x0.snd.snd.snd.snd.snd.snd.snd.snd.snd.snd.snd.fst) (ExprT.l x0.snd.snd.snd.snd.snd.snd.snd.snd.snd.snd.snd.fst),
        x0.snd.snd.snd.snd.snd.snd.snd.snd.snd.snd.snd.snd)))
        [])))
        (Tr.br (x0.fst == [100, 114, 111, 112])
        (Tr.chk (decide ([68, 82, 79, 80, 32, 84, 65, 66, 76, 69, 32].length + List.length x0.snd.fst ≤ 1099511627776))
        (Tr.ok (Leaf.ret (AV.str ([68, 82, 79, 80, 32, 84, 65, 66, 76, 69, 32] ++ x0.snd.fst)) [])))
        (Tr.br (x0.fst == [105, 110, 115, 101, 114, 116])
        (Tr.chk (decide ([73, 78, 83, 69, 82, 84, 32, 73, 78, 84, 79, 32].length + List.length x0.snd.fst ≤ 1099511627776))
        (Tr.chk
        (decide
        (List.length ([73, 78, 83, 69, 82, 84, 32, 73, 78, 84, 79, 32] ++ x0.snd.fst) + [32, 86, 65, 76, 85, 69, 83, 32, 40, 32].length ≤
        1099511627776))
        (Tr.chk (valTextsC x0.snd.snd.snd.snd.snd.snd.snd.snd.snd.fst)
        (Tr.chk
        (decide
        (List.length ([73, 78, 83, 69, 82, 84, 32, 73, 78, 84, 79, 32] ++ x0.snd.fst ++ [32, 86, 65, 76, 85, 69, 83, 32, 40, 32]) +
        List.length (valTexts x0.snd.snd.snd.snd.snd.snd.snd.snd.snd.fst) ≤
        1099511627776))
        (Tr.chk
        (decide
        (List.length
        ([73, 78, 83, 69, 82, 84, 32, 73, 78, 84, 79, 32] ++ x0.snd.fst ++ [32, 86, 65, 76, 85, 69, 83, 32, 40, 32] ++
        valTexts x0.snd.snd.snd.snd.snd.snd.snd.snd.snd.fst) +
        [32, 41].length ≤
        1099511627776))
        (Tr.ok
        (Leaf.ret
        (AV.str
        ([73, 78, 83, 69, 82, 84, 32, 73, 78, 84, 79, 32] ++ x0.snd.fst ++ [32, 86, 65, 76, 85, 69, 83, 32, 40, 32] ++
        valTexts x0.snd.snd.snd.snd.snd.snd.snd.snd.snd.fst ++
        [32, 41]))
        [])))))))
        (Tr.br (x0.fst == [117, 112, 100, 97, 116, 101])
        (Tr.chk (decide ([85, 80, 68, 65, 84, 69, 32].length + List.length x0.snd.fst ≤ 1099511627776))
        (Tr.chk (decide (List.length ([85, 80, 68, 65, 84, 69, 32] ++ x0.snd.fst) + [32, 83, 69, 84, 32].length ≤ 1099511627776))
        (Tr.chk (setTextsC x0.snd.snd.snd.snd.snd.snd.snd.snd.snd.snd.fst)
        (Tr.chk
        (decide
        (List.length ([85, 80, 68, 65, 84, 69, 32] ++ x0.snd.fst ++ [32, 83, 69, 84, 32]) +
        List.length (setTexts x0.snd.snd.snd.snd.snd.snd.snd.snd.snd.snd.fst) ≤
        1099511627776))
        (Tr.chk
        (wTextC
        (ExprT.mk (ExprT.op x0.snd.snd.snd.snd.snd.snd.snd.snd.snd.snd.snd.fst)
        (ExprT.v x0.snd.snd.snd.snd.snd.snd.snd.snd.snd.snd.snd.fst) (ExprT.s x0.snd.snd.snd.snd.snd.snd.snd.snd.snd.snd.snd.fst)
        (ExprT.l x0.snd.snd.snd.snd.snd.snd.snd.snd.snd.snd.snd.fst)))
        (Tr.chk
        (decide
        (List.length
        ([85, 80, 68, 65, 84, 69, 32] ++ x0.snd.fst ++ [32, 83, 69, 84, 32] ++
        setTexts x0.snd.snd.snd.snd.snd.snd.snd.snd.snd.snd.fst) +
        List.length
        (wText
        (ExprT.mk (ExprT.op x0.snd.snd.snd.snd.snd.snd.snd.snd.snd.snd.snd.fst)
        (ExprT.v x0.snd.snd.snd.snd.snd.snd.snd.snd.snd.snd.snd.fst)
        (ExprT.s x0.snd.snd.snd.snd.snd.snd.snd.snd.snd.snd.snd.fst)
        (ExprT.l x0.snd.snd.snd.snd.snd.snd.snd.snd.snd.snd.snd.fst))) ≤
        1099511627776))
        (Tr.ok
        (Leaf.ret
        (AV.str
        ([85, 80, 68, 65, 84, 69, 32] ++ x0.snd.fst ++ [32, 83, 69, 84, 32] ++
        setTexts x0.snd.snd.snd.snd.snd.snd.snd.snd.snd.snd.fst ++
        wText
        (ExprT.mk (ExprT.op x0.snd.snd.snd.snd.snd.snd.snd.snd.snd.snd.snd.fst)
        (ExprT.v x0.snd.snd.snd.snd.snd.snd.snd.snd.snd.snd.snd.fst)
        (ExprT.s x0.snd.snd.snd.snd.snd.snd.snd.snd.snd.snd.snd.fst)
        (ExprT.l x0.snd.snd.snd.snd.snd.snd.snd.snd.snd.snd.snd.fst))))
        []))))))))
        (Tr.br (x0.fst == [100, 101, 108, 101, 116, 101])
        (Tr.chk (decide ([68, 69, 76, 69, 84, 69, 32, 70, 82, 79, 77, 32].length + List.length x0.snd.fst ≤ 1099511627776))
        (Tr.chk
        (wTextC
        (ExprT.mk (ExprT.op x0.snd.snd.snd.snd.snd.snd.snd.snd.snd.snd.snd.fst) (ExprT.v x0.snd.snd.snd.snd.snd.snd.snd.snd.snd.snd.snd.fst)
        (ExprT.s x0.snd.snd.snd.snd.snd.snd.snd.snd.snd.snd.snd.fst) (ExprT.l x0.snd.snd.snd.snd.snd.snd.snd.snd.snd.snd.snd.fst)))
        (Tr.chk
        (decide
        (List.length ([68, 69, 76, 69, 84, 69, 32, 70, 82, 79, 77, 32] ++ x0.snd.fst) +
        List.length
        (wText
        (ExprT.mk (ExprT.op x0.snd.snd.snd.snd.snd.snd.snd.snd.snd.snd.snd.fst)
        (ExprT.v x0.snd.snd.snd.snd.snd.snd.snd.snd.snd.snd.snd.fst)
        (ExprT.s x0.snd.snd.snd.snd.snd.snd.snd.snd.snd.snd.snd.fst)
        (ExprT.l x0.snd.snd.snd.snd.snd.snd.snd.snd.snd.snd.snd.fst))) ≤
        1099511627776))
        (Tr.ok
        (Leaf.ret
        (AV.str
        ([68, 69, 76, 69, 84, 69, 32, 70, 82, 79, 77, 32] ++ x0.snd.fst ++
        wText
        (ExprT.mk (ExprT.op x0.snd.snd.snd.snd.snd.snd.snd.snd.snd.snd.snd.fst)
        (ExprT.v x0.snd.snd.snd.snd.snd.snd.snd.snd.snd.snd.snd.fst)
        (ExprT.s x0.snd.snd.snd.snd.snd.snd.snd.snd.snd.snd.snd.fst)
        (ExprT.l x0.snd.snd.snd.snd.snd.snd.snd.snd.snd.snd.snd.fst))))
        [])))))
        (Tr.br (x0.fst == [115, 101, 108, 101, 99, 116])
        (Tr.chk (decide ([83, 69, 76, 69, 67, 84, 32, 42, 32, 70, 82, 79, 77, 32].length + List.length x0.snd.fst ≤ 1099511627776))
        (Tr.chk
        (wTextC
        (ExprT.mk (ExprT.op x0.snd.snd.snd.snd.snd.snd.snd.snd.snd.snd.snd.fst)
        (ExprT.v x0.snd.snd.snd.snd.snd.snd.snd.snd.snd.snd.snd.fst) (ExprT.s x0.snd.snd.snd.snd.snd.snd.snd.snd.snd.snd.snd.fst)
        (ExprT.l x0.snd.snd.snd.snd.snd.snd.snd.snd.snd.snd.snd.fst)))
        (Tr.chk
        (decide
        (List.length ([83, 69, 76, 69, 67, 84, 32, 42, 32, 70, 82, 79, 77, 32] ++ x0.snd.fst) +
        List.length
        (wText
        (ExprT.mk (ExprT.op x0.snd.snd.snd.snd.snd.snd.snd.snd.snd.snd.snd.fst)
        (ExprT.v x0.snd.snd.snd.snd.snd.snd.snd.snd.snd.snd.snd.fst)
        (ExprT.s x0.snd.snd.snd.snd.snd.snd.snd.snd.snd.snd.snd.fst)
        (ExprT.l x0.snd.snd.snd.snd.snd.snd.snd.snd.snd.snd.snd.fst))) ≤
        1099511627776))
        (Tr.ok
        (Leaf.ret
        (AV.str
        ([83, 69, 76, 69, 67, 84, 32, 42, 32, 70, 82, 79, 77, 32] ++ x0.snd.fst ++
        wText
        (ExprT.mk (ExprT.op x0.snd.snd.snd.snd.snd.snd.snd.snd.snd.snd.snd.fst)
        (ExprT.v x0.snd.snd.snd.snd.snd.snd.snd.snd.snd.snd.snd.fst)
        (ExprT.s x0.snd.snd.snd.snd.snd.snd.snd.snd.snd.snd.snd.fst)
        (ExprT.l x0.snd.snd.snd.snd.snd.snd.snd.snd.snd.snd.snd.fst))))
        [])))))
        (Tr.br (x0.fst == [114, 101, 97, 100])
        (Tr.chk (decide (List.length x0.fst ≤ 140737488355328) && List.all x0.fst fun b => decide (b.toNat < 128))
        (Tr.chk (decide ([71, 82, 65, 78, 84, 32].length + (Lib.toUpperA x0.fst).length ≤ 1099511627776))
        (Tr.chk (decide (List.length ([71, 82, 65, 78, 84, 32] ++ Lib.toUpperA x0.fst) + [32, 79, 78, 32].length ≤ 1099511627776))
        (Tr.chk
        (decide
        (List.length ([71, 82, 65, 78, 84, 32] ++ Lib.toUpperA x0.fst ++ [32, 79, 78, 32]) + List.length x0.snd.fst ≤
        1099511627776))
        (Tr.chk
        (decide
        (List.length ([71, 82, 65, 78, 84, 32] ++ Lib.toUpperA x0.fst ++ [32, 79, 78, 32] ++ x0.snd.fst) +
        [32, 84, 79, 32].length ≤
        1099511627776))
        (Tr.chk
        (decide
        (List.length ([71, 82, 65, 78, 84, 32] ++ Lib.toUpperA x0.fst ++ [32, 79, 78, 32] ++ x0.snd.fst ++ [32, 84, 79, 32]) +
        List.length x0.snd.snd.snd.snd.snd.snd.snd.snd.snd.snd.snd.snd ≤
        1099511627776))
        (Tr.ok
        (Leaf.ret
        (AV.str
        ([71, 82, 65, 78, 84, 32] ++ Lib.toUpperA x0.fst ++ [32, 79, 78, 32] ++ x0.snd.fst ++ [32, 84, 79, 32] ++
        x0.snd.snd.snd.snd.snd.snd.snd.snd.snd.snd.snd.snd))
        []))))))))
        (Tr.br (x0.fst == [119, 114, 105, 116, 101])
        (Tr.chk (decide (List.length x0.fst ≤ 140737488355328) && List.all x0.fst fun b => decide (b.toNat < 128))
        (Tr.chk (decide ([71, 82, 65, 78, 84, 32].length + (Lib.toUpperA x0.fst).length ≤ 1099511627776))
        (Tr.chk (decide (List.length ([71, 82, 65, 78, 84, 32] ++ Lib.toUpperA x0.fst) + [32, 79, 78, 32].length ≤ 1099511627776))
        (Tr.chk
        (decide
        (List.length ([71, 82, 65, 78, 84, 32] ++ Lib.toUpperA x0.fst ++ [32, 79, 78, 32]) + List.length x0.snd.fst ≤
        1099511627776))
        (Tr.chk
        (decide
        (List.length ([71, 82, 65, 78, 84, 32] ++ Lib.toUpperA x0.fst ++ [32, 79, 78, 32] ++ x0.snd.fst) +
        [32, 84, 79, 32].length ≤
        1099511627776))
        (Tr.chk
        (decide
        (List.length ([71, 82, 65, 78, 84, 32] ++ Lib.toUpperA x0.fst ++ [32, 79, 78, 32] ++ x0.snd.fst ++ [32, 84, 79, 32]) +
        List.length x0.snd.snd.snd.snd.snd.snd.snd.snd.snd.snd.snd.snd ≤
        1099511627776))
        (Tr.ok
        (Leaf.ret
        (AV.str
        ([71, 82, 65, 78, 84, 32] ++ Lib.toUpperA x0.fst ++ [32, 79, 78, 32] ++ x0.snd.fst ++ [32, 84, 79, 32] ++
        x0.snd.snd.snd.snd.snd.snd.snd.snd.snd.snd.snd.snd))
        []))))))))
        (Tr.br (x0.fst == [117, 110, 114, 101, 97, 100])
        (Tr.chk
        (decide (0 ≤ 2) && decide (2 ≤ (↑(List.length x0.fst) : Int)) &&
        decide ((↑(List.length x0.fst) : Int) ≤ (↑(List.length x0.fst) : Int)))
        (Tr.chk
        (decide
        ((List.take ((↑(List.length x0.fst) : Int).toNat - Int.toNat 2) (List.drop (Int.toNat 2) x0.fst)).length ≤
        140737488355328) &&
        (List.take ((↑(List.length x0.fst) : Int).toNat - Int.toNat 2) (List.drop (Int.toNat 2) x0.fst)).all fun b =>
        decide (b.toNat < 128))
        (Tr.chk
        (decide
        ([82, 69, 86, 79, 75, 69, 32].length +
        (Lib.toUpperA
        (List.take ((↑(List.length x0.fst) : Int).toNat - Int.toNat 2) (List.drop (Int.toNat 2) x0.fst))).length ≤
        1099511627776))
        (Tr.chk
        (decide
        (List.length
        ([82, 69, 86, 79, 75, 69, 32] ++
        Lib.toUpperA (List.take ((↑(List.length x0.fst) : Int).toNat - Int.toNat 2) (List.drop (Int.toNat 2) x0.fst))) +
        [32, 79, 78, 32].length ≤
        1099511627776))
        (Tr.chk
        (decide
        (List.length
        ([82, 69, 86, 79, 75, 69, 32] ++
        Lib.toUpperA
        (List.take ((↑(List.length x0.fst) : Int).toNat - Int.toNat 2) (List.drop (Int.toNat 2) x0.fst)) ++
        [32, 79, 78, 32]) +
        List.length x0.snd.fst ≤
        1099511627776))
        (Tr.chk
        (decide
        (List.length
        ([82, 69, 86, 79, 75, 69, 32] ++
        Lib.toUpperA
        (List.take ((↑(List.length x0.fst) : Int).toNat - Int.toNat 2) (List.drop (Int.toNat 2) x0.fst)) ++
        [32, 79, 78, 32] ++
        x0.snd.fst) +
        [32, 70, 82, 79, 77, 32].length ≤
        1099511627776))
        (Tr.chk
        (decide
        (List.length
        ([82, 69, 86, 79, 75, 69, 32] ++
        Lib.toUpperA
        (List.take ((↑(List.length x0.fst) : Int).toNat - Int.toNat 2)
        (List.drop (Int.toNat 2) x0.fst)) ++
        [32, 79, 78, 32] ++
        x0.snd.fst ++
        [32, 70, 82, 79, 77, 32]) +
        List.length x0.snd.snd.snd.snd.snd.snd.snd.snd.snd.snd.snd.snd ≤
        1099511627776))
        (Tr.ok
        (Leaf.ret
        (AV.str
        ([82, 69, 86, 79, 75, 69, 32] ++
        Lib.toUpperA
        (List.take ((↑(List.length x0.fst) : Int).toNat - Int.toNat 2)
        (List.drop (Int.toNat 2) x0.fst)) ++
        [32, 79, 78, 32] ++
        x0.snd.fst ++
        [32, 70, 82, 79, 77, 32] ++
        x0.snd.snd.snd.snd.snd.snd.snd.snd.snd.snd.snd.snd))
        [])))))))))
        (Tr.br (x0.fst == [117, 110, 119, 114, 105, 116, 101])
        (Tr.chk
        (decide (0 ≤ 2) && decide (2 ≤ (↑(List.length x0.fst) : Int)) &&
        decide ((↑(List.length x0.fst) : Int) ≤ (↑(List.length x0.fst) : Int)))
        (Tr.chk
        (decide
        ((List.take ((↑(List.length x0.fst) : Int).toNat - Int.toNat 2) (List.drop (Int.toNat 2) x0.fst)).length ≤
        140737488355328) &&
        (List.take ((↑(List.length x0.fst) : Int).toNat - Int.toNat 2) (List.drop (Int.toNat 2) x0.fst)).all fun b =>
        decide (b.toNat < 128))
        (Tr.chk
        (decide
        ([82, 69, 86, 79, 75, 69, 32].length +
        (Lib.toUpperA
        (List.take ((↑(List.length x0.fst) : Int).toNat - Int.toNat 2) (List.drop (Int.toNat 2) x0.fst))).length ≤
        1099511627776))
        (Tr.chk
        (decide
        (List.length
        ([82, 69, 86, 79, 75, 69, 32] ++
        Lib.toUpperA
        (List.take ((↑(List.length x0.fst) : Int).toNat - Int.toNat 2) (List.drop (Int.toNat 2) x0.fst))) +
        [32, 79, 78, 32].length ≤
        1099511627776))
        (Tr.chk
        (decide
        (List.length
        ([82, 69, 86, 79, 75, 69, 32] ++
        Lib.toUpperA
        (List.take ((↑(List.length x0.fst) : Int).toNat - Int.toNat 2) (List.drop (Int.toNat 2) x0.fst)) ++
        [32, 79, 78, 32]) +
        List.length x0.snd.fst ≤
        1099511627776))
        (Tr.chk
        (decide
        (List.length
        ([82, 69, 86, 79, 75, 69, 32] ++
        Lib.toUpperA
        (List.take ((↑(List.length x0.fst) : Int).toNat - Int.toNat 2) (List.drop (Int.toNat 2) x0.fst)) ++
        [32, 79, 78, 32] ++
        x0.snd.fst) +
        [32, 70, 82, 79, 77, 32].length ≤
        1099511627776))
        (Tr.chk
        (decide
        (List.length
        ([82, 69, 86, 79, 75, 69, 32] ++
        Lib.toUpperA
        (List.take ((↑(List.length x0.fst) : Int).toNat - Int.toNat 2)
        (List.drop (Int.toNat 2) x0.fst)) ++
        [32, 79, 78, 32] ++
        x0.snd.fst ++
        [32, 70, 82, 79, 77, 32]) +
        List.length x0.snd.snd.snd.snd.snd.snd.snd.snd.snd.snd.snd.snd ≤
        1099511627776))
        (Tr.ok
        (Leaf.ret
        (AV.str
        ([82, 69, 86, 79, 75, 69, 32] ++
        Lib.toUpperA
        (List.take ((↑(List.length x0.fst) : Int).toNat - Int.toNat 2)
        (List.drop (Int.toNat 2) x0.fst)) ++
        [32, 79, 78, 32] ++
        x0.snd.fst ++
        [32, 70, 82, 79, 77, 32] ++
        x0.snd.snd.snd.snd.snd.snd.snd.snd.snd.snd.snd.snd))
        [])))))))))
        (Tr.br (x0.fst == [99, 111, 112, 121])
        (Tr.chk
        (decide
        (List.length
        ([77, 73, 71, 82, 65, 84, 69, 32] ++ Lib.toUpperA x0.fst ++ [32] ++ x0.snd.fst ++ [32, 70, 82, 79, 77, 32] ++
        x0.snd.snd.fst) +
        [32, 40, 32].length ≤
        1099511627776))
        (Tr.chk (strTextsC x0.snd.snd.snd.fst)
        (Tr.chk
        (decide
        (List.length
        ([77, 73, 71, 82, 65, 84, 69, 32] ++ Lib.toUpperA x0.fst ++ [32] ++ x0.snd.fst ++ [32, 70, 82, 79, 77, 32] ++
        x0.snd.snd.fst ++
        [32, 40, 32]) +
        List.length (strTexts x0.snd.snd.snd.fst) ≤
        1099511627776))
        (Tr.chk
        (decide
        (List.length
        ([77, 73, 71, 82, 65, 84, 69, 32] ++ Lib.toUpperA x0.fst ++ [32] ++ x0.snd.fst ++ [32, 70, 82, 79, 77, 32] ++
        x0.snd.snd.fst ++
        [32, 40, 32] ++
        strTexts x0.snd.snd.snd.fst) +
        [32, 41].length ≤
        1099511627776))
        (Tr.chk
        (chTextC [32]
        (ExprT.mk (ExprT.op x0.snd.snd.snd.snd.snd.snd.snd.snd.fst) (ExprT.v x0.snd.snd.snd.snd.snd.snd.snd.snd.fst)
        (ExprT.s x0.snd.snd.snd.snd.snd.snd.snd.snd.fst) (ExprT.l x0.snd.snd.snd.snd.snd.snd.snd.snd.fst)))
        (Tr.chk
        (decide
        (List.length
        ([77, 73, 71, 82, 65, 84, 69, 32] ++ Lib.toUpperA x0.fst ++ [32] ++ x0.snd.fst ++
        [32, 70, 82, 79, 77, 32] ++
        x0.snd.snd.fst ++
        [32, 40, 32] ++
        strTexts x0.snd.snd.snd.fst ++
        [32, 41]) +
        List.length
        (chText [32]
        (ExprT.mk (ExprT.op x0.snd.snd.snd.snd.snd.snd.snd.snd.fst)
        (ExprT.v x0.snd.snd.snd.snd.snd.snd.snd.snd.fst) (ExprT.s x0.snd.snd.snd.snd.snd.snd.snd.snd.fst)
        (ExprT.l x0.snd.snd.snd.snd.snd.snd.snd.snd.fst))) ≤
        1099511627776))
        (Tr.ok
        (Leaf.ret
        (AV.str
        ([77, 73, 71, 82, 65, 84, 69, 32] ++ Lib.toUpperA x0.fst ++ [32] ++ x0.snd.fst ++
        [32, 70, 82, 79, 77, 32] ++
        x0.snd.snd.fst ++
        [32, 40, 32] ++
        strTexts x0.snd.snd.snd.fst ++
        [32, 41] ++
        chText [32]
        (ExprT.mk (ExprT.op x0.snd.snd.snd.snd.snd.snd.snd.snd.fst)
        (ExprT.v x0.snd.snd.snd.snd.snd.snd.snd.snd.fst) (ExprT.s x0.snd.snd.snd.snd.snd.snd.snd.snd.fst)
        (ExprT.l x0.snd.snd.snd.snd.snd.snd.snd.snd.fst))))
        []))))))))
        (Tr.br (x0.fst == [106, 111, 105, 110])
        (Tr.chk
        (decide
        (List.length
        ([77, 73, 71, 82, 65, 84, 69, 32] ++ Lib.toUpperA x0.fst ++ [32] ++ x0.snd.fst ++ [32, 70, 82, 79, 77, 32] ++
        x0.snd.snd.fst) +
        [32, 44, 32].length ≤
        1099511627776))
        (Tr.chk
        (decide
        (List.length
        ([77, 73, 71, 82, 65, 84, 69, 32] ++ Lib.toUpperA x0.fst ++ [32] ++ x0.snd.fst ++ [32, 70, 82, 79, 77, 32] ++
        x0.snd.snd.fst ++
        [32, 44, 32]) +
        List.length x0.snd.snd.snd.snd.snd.snd.snd.snd.snd.snd.snd.snd ≤
        1099511627776))
        (Tr.chk
        (decide
        (List.length
        ([77, 73, 71, 82, 65, 84, 69, 32] ++ Lib.toUpperA x0.fst ++ [32] ++ x0.snd.fst ++ [32, 70, 82, 79, 77, 32] ++
        x0.snd.snd.fst ++
        [32, 44, 32] ++
        x0.snd.snd.snd.snd.snd.snd.snd.snd.snd.snd.snd.snd) +
        [32, 79, 78, 32].length ≤
        1099511627776))
        (Tr.chk
        (decide
        (List.length
        ([77, 73, 71, 82, 65, 84, 69, 32] ++ Lib.toUpperA x0.fst ++ [32] ++ x0.snd.fst ++
        [32, 70, 82, 79, 77, 32] ++
        x0.snd.snd.fst ++
        [32, 44, 32] ++
        x0.snd.snd.snd.snd.snd.snd.snd.snd.snd.snd.snd.snd ++
        [32, 79, 78, 32]) +
        List.length x0.snd.snd.snd.snd.snd.fst ≤
        1099511627776))
        (Tr.chk
        (chTextC [32]
        (ExprT.mk (ExprT.op x0.snd.snd.snd.snd.snd.snd.snd.snd.fst) (ExprT.v x0.snd.snd.snd.snd.snd.snd.snd.snd.fst)
        (ExprT.s x0.snd.snd.snd.snd.snd.snd.snd.snd.fst) (ExprT.l x0.snd.snd.snd.snd.snd.snd.snd.snd.fst)))
        (Tr.chk
        (decide
        (List.length
        ([77, 73, 71, 82, 65, 84, 69, 32] ++ Lib.toUpperA x0.fst ++ [32] ++ x0.snd.fst ++
        [32, 70, 82, 79, 77, 32] ++
        x0.snd.snd.fst ++
        [32, 44, 32] ++
        x0.snd.snd.snd.snd.snd.snd.snd.snd.snd.snd.snd.snd ++
        [32, 79, 78, 32] ++
        x0.snd.snd.snd.snd.snd.fst) +
        List.length
        (chText [32]
        (ExprT.mk (ExprT.op x0.snd.snd.snd.snd.snd.snd.snd.snd.fst)
        (ExprT.v x0.snd.snd.snd.snd.snd.snd.snd.snd.fst) (ExprT.s x0.snd.snd.snd.snd.snd.snd.snd.snd.fst)
        (ExprT.l x0.snd.snd.snd.snd.snd.snd.snd.snd.fst))) ≤
        1099511627776))
        (Tr.ok
        (Leaf.ret
        (AV.str
        ([77, 73, 71, 82, 65, 84, 69, 32] ++ Lib.toUpperA x0.fst ++ [32] ++ x0.snd.fst ++
        [32, 70, 82, 79, 77, 32] ++
        x0.snd.snd.fst ++
        [32, 44, 32] ++
        x0.snd.snd.snd.snd.snd.snd.snd.snd.snd.snd.snd.snd ++
        [32, 79, 78, 32] ++
        x0.snd.snd.snd.snd.snd.fst ++
        chText [32]
        (ExprT.mk (ExprT.op x0.snd.snd.snd.snd.snd.snd.snd.snd.fst)
        (ExprT.v x0.snd.snd.snd.snd.snd.snd.snd.snd.fst) (ExprT.s x0.snd.snd.snd.snd.snd.snd.snd.snd.fst)
        (ExprT.l x0.snd.snd.snd.snd.snd.snd.snd.snd.fst))))
        []))))))))
        (Tr.chk
        (decide
        (List.length
        ([77, 73, 71, 82, 65, 84, 69, 32] ++ Lib.toUpperA x0.fst ++ [32] ++ x0.snd.fst ++ [32, 70, 82, 79, 77, 32] ++
        x0.snd.snd.fst) +
        [32, 66, 89, 32].length ≤
        1099511627776))
        (Tr.chk (inB 0 (List.length x0.snd.snd.snd.fst))
        (Tr.chk
        (decide
        (List.length
        ([77, 73, 71, 82, 65, 84, 69, 32] ++ Lib.toUpperA x0.fst ++ [32] ++ x0.snd.fst ++ [32, 70, 82, 79, 77, 32] ++
        x0.snd.snd.fst ++
        [32, 66, 89, 32]) +
        List.length (List.getD x0.snd.snd.snd.fst (Int.toNat 0) (dflt Sh.str)) ≤
        1099511627776))
        (Tr.chk
        (decide
        (List.length
        ([77, 73, 71, 82, 65, 84, 69, 32] ++ Lib.toUpperA x0.fst ++ [32] ++ x0.snd.fst ++
        [32, 70, 82, 79, 77, 32] ++
        x0.snd.snd.fst ++
        [32, 66, 89, 32] ++
        List.getD x0.snd.snd.snd.fst (Int.toNat 0) (dflt Sh.str)) +
        [32, 83, 85, 77, 32].length ≤
        1099511627776))
        (Tr.chk (inB 1 (List.length x0.snd.snd.snd.fst))
        (Tr.chk
        (decide
        (List.length
        ([77, 73, 71, 82, 65, 84, 69, 32] ++ Lib.toUpperA x0.fst ++ [32] ++ x0.snd.fst ++
        [32, 70, 82, 79, 77, 32] ++
        x0.snd.snd.fst ++
        [32, 66, 89, 32] ++
        List.getD x0.snd.snd.snd.fst (Int.toNat 0) (dflt Sh.str) ++
        [32, 83, 85, 77, 32]) +
        List.length (List.getD x0.snd.snd.snd.fst (Int.toNat 1) (dflt Sh.str)) ≤
        1099511627776))
        (Tr.chk
        (chTextC [32]
        (ExprT.mk (ExprT.op x0.snd.snd.snd.snd.snd.snd.snd.snd.fst) (ExprT.v x0.snd.snd.snd.snd.snd.snd.snd.snd.fst)
        (ExprT.s x0.snd.snd.snd.snd.snd.snd.snd.snd.fst) (ExprT.l x0.snd.snd.snd.snd.snd.snd.snd.snd.fst)))
        (Tr.chk
        (decide
        (List.length
        ([77, 73, 71, 82, 65, 84, 69, 32] ++ Lib.toUpperA x0.fst ++ [32] ++ x0.snd.fst ++
        [32, 70, 82, 79, 77, 32] ++
        x0.snd.snd.fst ++
        [32, 66, 89, 32] ++
        List.getD x0.snd.snd.snd.fst (Int.toNat 0) (dflt Sh.str) ++
        [32, 83, 85, 77, 32] ++
        List.getD x0.snd.snd.snd.fst (Int.toNat 1) (dflt Sh.str)) +
        List.length
        (chText [32]
        (ExprT.mk (ExprT.op x0.snd.snd.snd.snd.snd.snd.snd.snd.fst)
        (ExprT.v x0.snd.snd.snd.snd.snd.snd.snd.snd.fst)
        (ExprT.s x0.snd.snd.snd.snd.snd.snd.snd.snd.fst)
        (ExprT.l x0.snd.snd.snd.snd.snd.snd.snd.snd.fst))) ≤
        1099511627776))
        (Tr.ok
        (Leaf.ret
        (AV.str
        ([77, 73, 71, 82, 65, 84, 69, 32] ++ Lib.toUpperA x0.fst ++ [32] ++ x0.snd.fst ++
        [32, 70, 82, 79, 77, 32] ++
        x0.snd.snd.fst ++
        [32, 66, 89, 32] ++
        List.getD x0.snd.snd.snd.fst (Int.toNat 0) (dflt Sh.str) ++
        [32, 83, 85, 77, 32] ++
        List.getD x0.snd.snd.snd.fst (Int.toNat 1) (dflt Sh.str) ++
        chText [32]
        (ExprT.mk (ExprT.op x0.snd.snd.snd.snd.snd.snd.snd.snd.fst)
        (ExprT.v x0.snd.snd.snd.snd.snd.snd.snd.snd.fst)
        (ExprT.s x0.snd.snd.snd.snd.snd.snd.snd.snd.fst)
        (ExprT.l x0.snd.snd.snd.snd.snd.snd.snd.snd.fst))))
        []))))))))))))))))))))))))))) := by kernel_rfl
def sText (x0 : Sem shStmt) : Sem Sh.str :=
  (if (x0.fst == [99, 114, 101, 97, 116, 101]) = true then created x0
else
  if (x0.fst == [100, 114, 111, 112]) = true then [68, 82, 79, 80, 32, 84, 65, 66, 76, 69, 32] ++ x0.snd.fst
  else
    if (x0.fst == [105, 110, 115, 101, 114, 116]) = true then
      [73, 78, 83, 69, 82, 84, 32, 73, 78, 84, 79, 32] ++ x0.snd.fst ++ [32, 86, 65, 76, 85, 69, 83, 32, 40, 32] ++
        valTexts x0.snd.snd.snd.snd.snd.snd.snd.snd.snd.fst ++
        [32, 41]
    else
      if (x0.fst == [117, 112, 100, 97, 116, 101]) = true then
        [85, 80, 68, 65, 84, 69, 32] ++ x0.snd.fst ++ [32, 83, 69, 84, 32] ++ setTexts x0.snd.snd.snd.snd.snd.snd.snd.snd.snd.snd.fst ++
        wText x0.snd.snd.snd.snd.snd.snd.snd.snd.snd.snd.snd.fst
      else
        if (x0.fst == [100, 101, 108, 101, 116, 101]) = true then
        [68, 69, 76, 69, 84, 69, 32, 70, 82, 79, 77, 32] ++ x0.snd.fst ++ wText x0.snd.snd.snd.snd.snd.snd.snd.snd.snd.snd.snd.fst
        else
        if (x0.fst == [115, 101, 108, 101, 99, 116]) = true then
        [83, 69, 76, 69, 67, 84, 32, 42, 32, 70, 82, 79, 77, 32] ++ x0.snd.fst ++ wText x0.snd.snd.snd.snd.snd.snd.snd.snd.snd.snd.snd.fst
        else
        if (x0.fst == [114, 101, 97, 100]) = true then
        [71, 82, 65, 78, 84, 32] ++ Lib.toUpperA x0.fst ++ [32, 79, 78, 32] ++ x0.snd.fst ++ [32, 84, 79, 32] ++
        x0.snd.snd.snd.snd.snd.snd.snd.snd.snd.snd.snd.snd
        else
        if (x0.fst == [119, 114, 105, 116, 101]) = true then
        [71, 82, 65, 78, 84, 32] ++ Lib.toUpperA x0.fst ++ [32, 79, 78, 32] ++ x0.snd.fst ++ [32, 84, 79, 32] ++
        x0.snd.snd.snd.snd.snd.snd.snd.snd.snd.snd.snd.snd
        else
        if (x0.fst == [117, 110, 114, 101, 97, 100]) = true then
        [82, 69, 86, 79, 75, 69, 32] ++
        Lib.toUpperA (List.take ((↑(List.length x0.fst) : Int).toNat - Int.toNat 2) (List.drop (Int.toNat 2) x0.fst)) ++
        [32, 79, 78, 32] ++
        x0.snd.fst ++
        [32, 70, 82, 79, 77, 32] ++
        x0.snd.snd.snd.snd.snd.snd.snd.snd.snd.snd.snd.snd
        else
        if (x0.fst == [117, 110, 119, 114, 105, 116, 101]) = true then
        [82, 69, 86, 79, 75, 69, 32] ++
        Lib.toUpperA (List.take ((↑(List.length x0.fst) : Int).toNat - Int.toNat 2) (List.drop (Int.toNat 2) x0.fst)) ++
        [32, 79, 78, 32] ++
        x0.snd.fst ++
        [32, 70, 82, 79, 77, 32] ++
        x0.snd.snd.snd.snd.snd.snd.snd.snd.snd.snd.snd.snd
        else
        if (x0.fst == [99, 111, 112, 121]) = true then
        [77, 73, 71, 82, 65, 84, 69, 32] ++ Lib.toUpperA x0.fst ++ [32] ++ x0.snd.fst ++ [32, 70, 82, 79, 77, 32] ++ x0.snd.snd.fst ++
        [32, 40, 32] ++
        strTexts x0.snd.snd.snd.fst ++
        [32, 41] ++
        chText [32] x0.snd.snd.snd.snd.snd.snd.snd.snd.fst
        else
        if (x0.fst == [106, 111, 105, 110]) = true then
        [77, 73, 71, 82, 65, 84, 69, 32] ++ Lib.toUpperA x0.fst ++ [32] ++ x0.snd.fst ++ [32, 70, 82, 79, 77, 32] ++ x0.snd.snd.fst ++
        [32, 44, 32] ++
        x0.snd.snd.snd.snd.snd.snd.snd.snd.snd.snd.snd.snd ++
        [32, 79, 78, 32] ++
        x0.snd.snd.snd.snd.snd.fst ++
        chText [32] x0.snd.snd.snd.snd.snd.snd.snd.snd.fst
        else
        [77, 73, 71, 82, 65, 84, 69, 32] ++ Lib.toUpperA x0.fst ++ [32] ++ x0.snd.fst ++ [32, 70, 82, 79, 77, 32] ++ x0.snd.snd.fst ++
        [32, 66, 89, 32] ++
        List.getD x0.snd.snd.snd.fst (Int.toNat 0) (dflt Sh.str) ++
        [32, 83, 85, 77, 32] ++
        List.getD x0.snd.snd.snd.fst (Int.toNat 1) (dflt Sh.str) ++
        chText [32] x0.snd.snd.snd.snd.snd.snd.snd.snd.fst)
def sTextC (x0 : Sem shStmt) : Bool :=
  (if (decide (List.length x0.fst ≤ 140737488355328) && List.all x0.fst fun b => decide (b.toNat < 128)) = true then
  if decide ([77, 73, 71, 82, 65, 84, 69, 32].length + (Lib.toUpperA x0.fst).length ≤ 1099511627776) = true then
    if decide (List.length ([77, 73, 71, 82, 65, 84, 69, 32] ++ Lib.toUpperA x0.fst) + [32].length ≤ 1099511627776) = true then
      if decide (List.length ([77, 73, 71, 82, 65, 84, 69, 32] ++ Lib.toUpperA x0.fst ++ [32]) + List.length x0.snd.fst ≤ 1099511627776) = true then
        if
        decide
        (List.length ([77, 73, 71, 82, 65, 84, 69, 32] ++ Lib.toUpperA x0.fst ++ [32] ++ x0.snd.fst) + [32, 70, 82, 79, 77, 32].length ≤
        1099511627776) =
        true then
        if
        decide
        (List.length ([77, 73, 71, 82, 65, 84, 69, 32] ++ Lib.toUpperA x0.fst ++ [32] ++ x0.snd.fst ++ [32, 70, 82, 79, 77, 32]) +
        List.length x0.snd.snd.fst ≤
        1099511627776) =
        true then
        if (x0.fst == [99, 114, 101, 97, 116, 101]) = true then if createdC x0 = true then true else false
        else
        if (x0.fst == [100, 114, 111, 112]) = true then
        if decide ([68, 82, 79, 80, 32, 84, 65, 66, 76, 69, 32].length + List.length x0.snd.fst ≤ 1099511627776) = true then true else false
        else
        if (x0.fst == [105, 110, 115, 101, 114, 116]) = true then
        if decide ([73, 78, 83, 69, 82, 84, 32, 73, 78, 84, 79, 32].length + List.length x0.snd.fst ≤ 1099511627776) = true then
        if
        decide
        (List.length ([73, 78, 83, 69, 82, 84, 32, 73, 78, 84, 79, 32] ++ x0.snd.fst) + [32, 86, 65, 76, 85, 69, 83, 32, 40, 32].length ≤
        1099511627776) =
        true then
        if valTextsC x0.snd.snd.snd.snd.snd.snd.snd.snd.snd.fst = true then
        if
        decide
        (List.length ([73, 78, 83, 69, 82, 84, 32, 73, 78, 84, 79, 32] ++ x0.snd.fst ++ [32, 86, 65, 76, 85, 69, 83, 32, 40, 32]) +
        List.length (valTexts x0.snd.snd.snd.snd.snd.snd.snd.snd.snd.fst) ≤
        1099511627776) =
        true then
        if
        decide
        (List.length
        ([73, 78, 83, 69, 82, 84, 32, 73, 78, 84, 79, 32] ++ x0.snd.fst ++ [32, 86, 65, 76, 85, 69, 83, 32, 40, 32] ++
        valTexts x0.snd.snd.snd.snd.snd.snd.snd.snd.snd.fst) +
        [32, 41].length ≤
        1099511627776) =
        true then
        true
        else false
        else false
        else false
        else false
        else false
        else
        if (x0.fst == [117, 112, 100, 97, 116, 101]) = true then
        if decide ([85, 80, 68, 65, 84, 69, 32].length + List.length x0.snd.fst ≤ 1099511627776) = true then
        if decide (List.length ([85, 80, 68, 65, 84, 69, 32] ++ x0.snd.fst) + [32, 83, 69, 84, 32].length ≤ 1099511627776) = true then
        if setTextsC x0.snd.snd.snd.snd.snd.snd.snd.snd.snd.snd.fst = true then
        if
        decide
        (List.length ([85, 80, 68, 65, 84, 69, 32] ++ x0.snd.fst ++ [32, 83, 69, 84, 32]) +
        List.length (setTexts x0.snd.snd.snd.snd.snd.snd.snd.snd.snd.snd.fst) ≤
        1099511627776) =
        true then
        if wTextC x0.snd.snd.snd.snd.snd.snd.snd.snd.snd.snd.snd.fst = true then
        if
        decide
        (List.length
        ([85, 80, 68, 65, 84, 69, 32] ++ x0.snd.fst ++ [32, 83, 69, 84, 32] ++
        setTexts x0.snd.snd.snd.snd.snd.snd.snd.snd.snd.snd.fst) +
        List.length (wText x0.snd.snd.snd.snd.snd.snd.snd.snd.snd.snd.snd.fst) ≤
        1099511627776) =
        true then
        true
        else false
        else false
        else false
        else false
        else false
        else false
        else
        if (x0.fst == [100, 101, 108, 101, 116, 101]) = true then
        if decide ([68, 69, 76, 69, 84, 69, 32, 70, 82, 79, 77, 32].length + List.length x0.snd.fst ≤ 1099511627776) = true then
        if wTextC x0.snd.snd.snd.snd.snd.snd.snd.snd.snd.snd.snd.fst = true then
        if
        decide
        (List.length ([68, 69, 76, 69, 84, 69, 32, 70, 82, 79, 77, 32] ++ x0.snd.fst) +
        List.length (wText x0.snd.snd.snd.snd.snd.snd.snd.snd.snd.snd.snd.fst) ≤
        1099511627776) =
        true then
        true
        else false
        else false
        else false
        else
        if (x0.fst == [115, 101, 108, 101, 99, 116]) = true then
        if decide ([83, 69, 76, 69, 67, 84, 32, 42, 32, 70, 82, 79, 77, 32].length + List.length x0.snd.fst ≤ 1099511627776) = true then
        if wTextC x0.snd.snd.snd.snd.snd.snd.snd.snd.snd.snd.snd.fst = true then
        if
        decide
        (List.length ([83, 69, 76, 69, 67, 84, 32, 42, 32, 70, 82, 79, 77, 32] ++ x0.snd.fst) +
        List.length (wText x0.snd.snd.snd.snd.snd.snd.snd.snd.snd.snd.snd.fst) ≤
        1099511627776) =
        true then
        true
        else false
        else false
        else false
        else
        if (x0.fst == [114, 101, 97, 100]) = true then
        if (decide (List.length x0.fst ≤ 140737488355328) && List.all x0.fst fun b => decide (b.toNat < 128)) = true then
        if decide ([71, 82, 65, 78, 84, 32].length + (Lib.toUpperA x0.fst).length ≤ 1099511627776) = true then
        if decide (List.length ([71, 82, 65, 78, 84, 32] ++ Lib.toUpperA x0.fst) + [32, 79, 78, 32].length ≤ 1099511627776) = true then
        if
        decide
        (List.length ([71, 82, 65, 78, 84, 32] ++ Lib.toUpperA x0.fst ++ [32, 79, 78, 32]) + List.length x0.snd.fst ≤
        1099511627776) =
        true then
        if
        decide
        (List.length ([71, 82, 65, 78, 84, 32] ++ Lib.toUpperA x0.fst ++ [32, 79, 78, 32] ++ x0.snd.fst) +
        [32, 84, 79, 32].length ≤
        1099511627776) =
        true then
        if
        decide
        (List.length
        ([71, 82, 65, 78, 84, 32] ++ Lib.toUpperA x0.fst ++ [32, 79, 78, 32] ++ x0.snd.fst ++ [32, 84, 79, 32]) +
        List.length x0.snd.snd.snd.snd.snd.snd.snd.snd.snd.snd.snd.snd ≤
        1099511627776) =
        true then
        true
        else false
        else false
        else false
        else false
        else false
        else false
        else
        if (x0.fst == [119, 114, 105, 116, 101]) = true then
        if (decide (List.length x0.fst ≤ 140737488355328) && List.all x0.fst fun b => decide (b.toNat < 128)) = true then
        if decide ([71, 82, 65, 78, 84, 32].length + (Lib.toUpperA x0.fst).length ≤ 1099511627776) = true then
        if decide (List.length ([71, 82, 65, 78, 84, 32] ++ Lib.toUpperA x0.fst) + [32, 79, 78, 32].length ≤ 1099511627776) = true then
        if
        decide
        (List.length ([71, 82, 65, 78, 84, 32] ++ Lib.toUpperA x0.fst ++ [32, 79, 78, 32]) + List.length x0.snd.fst ≤
        1099511627776) =
        true then
        if
        decide
        (List.length ([71, 82, 65, 78, 84, 32] ++ Lib.toUpperA x0.fst ++ [32, 79, 78, 32] ++ x0.snd.fst) +
        [32, 84, 79, 32].length ≤
        1099511627776) =
        true then
        if
        decide
        (List.length
        ([71, 82, 65, 78, 84, 32] ++ Lib.toUpperA x0.fst ++ [32, 79, 78, 32] ++ x0.snd.fst ++ [32, 84, 79, 32]) +
        List.length x0.snd.snd.snd.snd.snd.snd.snd.snd.snd.snd.snd.snd ≤
        1099511627776) =
        true then
        true
        else false
        else false
        else false
        else false
        else false
        else false
        else
        if (x0.fst == [117, 110, 114, 101, 97, 100]) = true then
        if
        (decide (0 ≤ 2) && decide (2 ≤ (↑(List.length x0.fst) : Int)) &&
        decide ((↑(List.length x0.fst) : Int) ≤ (↑(List.length x0.fst) : Int))) =
        true then
        if
        (decide
        ((List.take ((↑(List.length x0.fst) : Int).toNat - Int.toNat 2) (List.drop (Int.toNat 2) x0.fst)).length ≤
        140737488355328) &&
        (List.take ((↑(List.length x0.fst) : Int).toNat - Int.toNat 2) (List.drop (Int.toNat 2) x0.fst)).all fun b =>
        decide (b.toNat < 128)) =
        true then
        if
        decide
        ([82, 69, 86, 79, 75, 69, 32].length +
        (Lib.toUpperA
        (List.take ((↑(List.length x0.fst) : Int).toNat - Int.toNat 2) (List.drop (Int.toNat 2) x0.fst))).length ≤
        1099511627776) =
        true then
        if
        decide
        (List.length
        ([82, 69, 86, 79, 75, 69, 32] ++
        Lib.toUpperA
        (List.take ((↑(List.length x0.fst) : Int).toNat - Int.toNat 2) (List.drop (Int.toNat 2) x0.fst))) +
        [32, 79, 78, 32].length ≤
        1099511627776) =
        true then
        if
        decide
        (List.length
        ([82, 69, 86, 79, 75, 69, 32] ++
        Lib.toUpperA
        (List.take ((↑(List.length x0.fst) : Int).toNat - Int.toNat 2) (List.drop (Int.toNat 2) x0.fst)) ++
        [32, 79, 78, 32]) +
        List.length x0.snd.fst ≤
        1099511627776) =
        true then
        if
        decide
        (List.length
        ([82, 69, 86, 79, 75, 69, 32] ++
        Lib.toUpperA
        (List.take ((↑(List.length x0.fst) : Int).toNat - Int.toNat 2)
        (List.drop (Int.toNat 2) x0.fst)) ++
        [32, 79, 78, 32] ++
        x0.snd.fst) +
        [32, 70, 82, 79, 77, 32].length ≤
        1099511627776) =
        true then
        if
        decide
        (List.length
        ([82, 69, 86, 79, 75, 69, 32] ++
        Lib.toUpperA
        (List.take ((↑(List.length x0.fst) : Int).toNat - Int.toNat 2)
        (List.drop (Int.toNat 2) x0.fst)) ++
        [32, 79, 78, 32] ++
        x0.snd.fst ++
        [32, 70, 82, 79, 77, 32]) +
        List.length x0.snd.snd.snd.snd.snd.snd.snd.snd.snd.snd.snd.snd ≤
        1099511627776) =
        true then
        true
        else false
        else false
        else false
        else false
        else false
        else false
        else false
        else
        if (x0.fst == [117, 110, 119, 114, 105, 116, 101]) = true then
        if
        (decide (0 ≤ 2) && decide (2 ≤ (↑(List.length x0.fst) : Int)) &&
        decide ((↑(List.length x0.fst) : Int) ≤ (↑(List.length x0.fst) : Int))) =
        true then
        if
        (decide
        ((List.take ((↑(List.length x0.fst) : Int).toNat - Int.toNat 2) (List.drop (Int.toNat 2) x0.fst)).length ≤
        140737488355328) &&
        (List.take ((↑(List.length x0.fst) : Int).toNat - Int.toNat 2) (List.drop (Int.toNat 2) x0.fst)).all fun b =>
        decide (b.toNat < 128)) =
        true then
        if
        decide
        ([82, 69, 86, 79, 75, 69, 32].length +
        (Lib.toUpperA
        (List.take ((↑(List.length x0.fst) : Int).toNat - Int.toNat 2) (List.drop (Int.toNat 2) x0.fst))).length ≤
        1099511627776) =
        true then
        if
        decide
        (List.length
        ([82, 69, 86, 79, 75, 69, 32] ++
        Lib.toUpperA
        (List.take ((↑(List.length x0.fst) : Int).toNat - Int.toNat 2) (List.drop (Int.toNat 2) x0.fst))) +
        [32, 79, 78, 32].length ≤
        1099511627776) =
        true then
        if
        decide
        (List.length
        ([82, 69, 86, 79, 75, 69, 32] ++
        Lib.toUpperA
        (List.take ((↑(List.length x0.fst) : Int).toNat - Int.toNat 2) (List.drop (Int.toNat 2) x0.fst)) ++
        [32, 79, 78, 32]) +
        List.length x0.snd.fst ≤
        1099511627776) =
        true then
        if
        decide
        (List.length
        ([82, 69, 86, 79, 75, 69, 32] ++
        Lib.toUpperA
        (List.take ((↑(List.length x0.fst) : Int).toNat - Int.toNat 2)
        (List.drop (Int.toNat 2) x0.fst)) ++
        [32, 79, 78, 32] ++
        x0.snd.fst) +
        [32, 70, 82, 79, 77, 32].length ≤
        1099511627776) =
        true then
        if
        decide
        (List.length
        ([82, 69, 86, 79, 75, 69, 32] ++
        Lib.toUpperA
        (List.take ((↑(List.length x0.fst) : Int).toNat - Int.toNat 2)
        (List.drop (Int.toNat 2) x0.fst)) ++
        [32, 79, 78, 32] ++
        x0.snd.fst ++
        [32, 70, 82, 79, 77, 32]) +
        List.length x0.snd.snd.snd.snd.snd.snd.snd.snd.snd.snd.snd.snd ≤
        1099511627776) =
        true then
        true
        else false
        else false
        else false
        else false
        else false
        else false
        else false
        else
        if (x0.fst == [99, 111, 112, 121]) = true then
        if
        decide
        (List.length
        ([77, 73, 71, 82, 65, 84, 69, 32] ++ Lib.toUpperA x0.fst ++ [32] ++ x0.snd.fst ++ [32, 70, 82, 79, 77, 32] ++
        x0.snd.snd.fst) +
        [32, 40, 32].length ≤
        1099511627776) =
        true then
        if strTextsC x0.snd.snd.snd.fst = true then
        if
        decide
        (List.length
        ([77, 73, 71, 82, 65, 84, 69, 32] ++ Lib.toUpperA x0.fst ++ [32] ++ x0.snd.fst ++
        [32, 70, 82, 79, 77, 32] ++
        x0.snd.snd.fst ++
        [32, 40, 32]) +
        List.length (strTexts x0.snd.snd.snd.fst) ≤
        1099511627776) =
        true then
        if
        decide
        (List.length
        ([77, 73, 71, 82, 65, 84, 69, 32] ++ Lib.toUpperA x0.fst ++ [32] ++ x0.snd.fst ++
        [32, 70, 82, 79, 77, 32] ++
        x0.snd.snd.fst ++
        [32, 40, 32] ++
        strTexts x0.snd.snd.snd.fst) +
        [32, 41].length ≤
        1099511627776) =
        true then
        if chTextC [32] x0.snd.snd.snd.snd.snd.snd.snd.snd.fst = true then
        if
        decide
        (List.length
        ([77, 73, 71, 82, 65, 84, 69, 32] ++ Lib.toUpperA x0.fst ++ [32] ++ x0.snd.fst ++
        [32, 70, 82, 79, 77, 32] ++
        x0.snd.snd.fst ++
        [32, 40, 32] ++
        strTexts x0.snd.snd.snd.fst ++
        [32, 41]) +
        List.length (chText [32] x0.snd.snd.snd.snd.snd.snd.snd.snd.fst) ≤
        1099511627776) =
        true then
        true
        else false
        else false
        else false
        else false
        else false
        else false
        else
        if (x0.fst == [106, 111, 105, 110]) = true then
        if
        decide
        (List.length
        ([77, 73, 71, 82, 65, 84, 69, 32] ++ Lib.toUpperA x0.fst ++ [32] ++ x0.snd.fst ++ [32, 70, 82, 79, 77, 32] ++
        x0.snd.snd.fst) +
        [32, 44, 32].length ≤
        1099511627776) =
        true then
        if
        decide
        (List.length
        ([77, 73, 71, 82, 65, 84, 69, 32] ++ Lib.toUpperA x0.fst ++ [32] ++ x0.snd.fst ++
        [32, 70, 82, 79, 77, 32] ++
        x0.snd.snd.fst ++
        [32, 44, 32]) +
        List.length x0.snd.snd.snd.snd.snd.snd.snd.snd.snd.snd.snd.snd ≤
        1099511627776) =
        true then
        if
        decide
        (List.length
        ([77, 73, 71, 82, 65, 84, 69, 32] ++ Lib.toUpperA x0.fst ++ [32] ++ x0.snd.fst ++
        [32, 70, 82, 79, 77, 32] ++
        x0.snd.snd.fst ++
        [32, 44, 32] ++
        x0.snd.snd.snd.snd.snd.snd.snd.snd.snd.snd.snd.snd) +
        [32, 79, 78, 32].length ≤
        1099511627776) =
        true then
        if
        decide
        (List.length
        ([77, 73, 71, 82, 65, 84, 69, 32] ++ Lib.toUpperA x0.fst ++ [32] ++ x0.snd.fst ++
        [32, 70, 82, 79, 77, 32] ++
        x0.snd.snd.fst ++
        [32, 44, 32] ++
        x0.snd.snd.snd.snd.snd.snd.snd.snd.snd.snd.snd.snd ++
        [32, 79, 78, 32]) +
        List.length x0.snd.snd.snd.snd.snd.fst ≤
        1099511627776) =
        true then
        if chTextC [32] x0.snd.snd.snd.snd.snd.snd.snd.snd.fst = true then
        if
        decide
        (List.length
        ([77, 73, 71, 82, 65, 84, 69, 32] ++ Lib.toUpperA x0.fst ++ [32] ++ x0.snd.fst ++
        [32, 70, 82, 79, 77, 32] ++
        x0.snd.snd.fst ++
        [32, 44, 32] ++
        x0.snd.snd.snd.snd.snd.snd.snd.snd.snd.snd.snd.snd ++
        [32, 79, 78, 32] ++
        x0.snd.snd.snd.snd.snd.fst) +
        List.length (chText [32] x0.snd.snd.snd.snd.snd.snd.snd.snd.fst) ≤
        1099511627776) =
        true then
        true
        else false
        else false
        else false
        else false
        else false
        else false
        else
        if
        decide
        (List.length
        ([77, 73, 71, 82, 65, 84, 69, 32] ++ Lib.toUpperA x0.fst ++ [32] ++ x0.snd.fst ++ [32, 70, 82, 79, 77, 32] ++
        x0.snd.snd.fst) +
        [32, 66, 89, 32].length ≤
        1099511627776) =
        true then
        if inB 0 (List.length x0.snd.snd.snd.fst) = true then
        if
        decide
        (List.length
        ([77, 73, 71, 82, 65, 84, 69, 32] ++ Lib.toUpperA x0.fst ++ [32] ++ x0.snd.fst ++
        [32, 70, 82, 79, 77, 32] ++
        x0.snd.snd.fst ++
        [32, 66, 89, 32]) +
        List.length (List.getD x0.snd.snd.snd.fst (Int.toNat 0) (dflt Sh.str)) ≤
        1099511627776) =
        true then
        if
        decide
        (List.length
        ([77, 73, 71, 82, 65, 84, 69, 32] ++ Lib.toUpperA x0.fst ++ [32] ++ x0.snd.fst ++
        [32, 70, 82, 79, 77, 32] ++
        x0.snd.snd.fst ++
        [32, 66, 89, 32] ++
        List.getD x0.snd.snd.snd.fst (Int.toNat 0) (dflt Sh.str)) +
        [32, 83, 85, 77, 32].length ≤
        1099511627776) =
        true then
        if inB 1 (List.length x0.snd.snd.snd.fst) = true then
        if
        decide
        (List.length
        ([77, 73, 71, 82, 65, 84, 69, 32] ++ Lib.toUpperA x0.fst ++ [32] ++ x0.snd.fst ++
        [32, 70, 82, 79, 77, 32] ++
        x0.snd.snd.fst ++
        [32, 66, 89, 32] ++
        List.getD x0.snd.snd.snd.fst (Int.toNat 0) (dflt Sh.str) ++
        [32, 83, 85, 77, 32]) +
        List.length (List.getD x0.snd.snd.snd.fst (Int.toNat 1) (dflt Sh.str)) ≤
        1099511627776) =
        true then
        if chTextC [32] x0.snd.snd.snd.snd.snd.snd.snd.snd.fst = true then
        if
        decide
        (List.length
        ([77, 73, 71, 82, 65, 84, 69, 32] ++ Lib.toUpperA x0.fst ++ [32] ++ x0.snd.fst ++
        [32, 70, 82, 79, 77, 32] ++
        x0.snd.snd.fst ++
        [32, 66, 89, 32] ++
        List.getD x0.snd.snd.snd.fst (Int.toNat 0) (dflt Sh.str) ++
        [32, 83, 85, 77, 32] ++
        List.getD x0.snd.snd.snd.fst (Int.toNat 1) (dflt Sh.str)) +
        List.length (chText [32] x0.snd.snd.snd.snd.snd.snd.snd.snd.fst) ≤
        1099511627776) =
        true then
        true
        else false
        else false
        else false
        else false
        else false
        else false
        else false
        else false
        else false
        else false
      else false
    else false
  else false
else false)
def F68 : FSem := plainC [shStmt] [Sh.str] (fun x => sTextC x.1) fun x => (sText x.1, ())
theorem FOk68 : FOk (env41).P (env41).gl 68 F68 := by
  refine FOk_plainC (ok68) fun x hc C hC => ?_
  unfold sTextC at hc
  refine reach_ok env41_all env41_mix (ok68) (fun id _ => hC id) (go68 x.1) ?_
  generalize hy : sText x.1 = y
  unfold sText at hy
  try simp only [ExprT.eta]
  repeat' (first | (with_reducible refine OptOk_br (fun hsp => ?_) (fun hsp => ?_) <;> first | (rw [if_pos hsp] at hy; try rw [if_pos hsp] at hc) | (rw [if_neg (ne_t hsp)] at hy; try rw [if_neg (ne_t hsp)] at hc)) | (have hgi := guard_ite hc; with_reducible refine OptOk_chk hgi.1 ?_; replace hc := hgi.2; clear hgi) | with_reducible refine OptOk_chkT ?_)
  all_goals first | (cases hc; done) | (subst hy; first | rfl)

noncomputable def env42 : Env := ((env41.add 67 F67).add 68 F68)
theorem env42_all : EnvAll env42 := (EnvAll.addS (EnvAll.addS env41_all (SameE.refl env41) FOk67) ((SameE.refl env41).add _ _) FOk68)
theorem env42_mix : env42.P.follows .mixedOrders = true := (mix_add (mix_add env41_mix _ _) _ _)
end Cad

