/- Which tables may be. What is asked of tables holds. Which rows fit. What is asked of rows holds. The library's functions over texts. -/
import Derived.Test.YtgbhkblomgiclaaGreatDoorG11
namespace Cad
open Go Go.Proofs

abbrev kp8 : Nat → Keep := fun j => if j = 4 then { slots := [1, 27, 28, 29] } else if j = 11 then { slots := [1, 5, 59, 60, 61] } else if j = 17 then { slots := [1, 5, 71, 72, 73] } else { }
abbrev s8_4 (l27 : List (Sem shCol)) (i28 : Int) (i29 : Int) (sh_0_0 : Sem Sh.str) (lh_0_1 : List (Sem shCol)) (ih_0_2 : Sem shInt) (lh_0_3 : List (Sem shInt)) (lh_0_4 : List (Sem shFor)) (sh_0_5 : Str) (ih_0_6 : Int) (ih_0_7 : Int) (sh_0_8 : Str) (sh_0_9 : Str) (lh_0_10 : List (Sem Sh.expr)) : St := {
  tmps :=
    [AV.any, AV.ptr 0 0, AV.any, AV.any, AV.any, AV.any, AV.any, AV.any, AV.any, AV.any, AV.any, AV.any, AV.any, AV.any, AV.any, AV.any, AV.any, AV.any, AV.any,
      AV.any, AV.any, AV.any, AV.any, AV.any, AV.any, AV.any, AV.any, AV.sl shCol l27, AV.int IntKind.i64 i28,
      AV.int IntKind.i64 i29, AV.any, AV.any, AV.any, AV.any, AV.any, AV.any, AV.any, AV.any, AV.any, AV.any, AV.any, AV.any, AV.any, AV.any, AV.any, AV.any,
      AV.any, AV.any, AV.any, AV.any, AV.any, AV.any, AV.any, AV.any, AV.any, AV.any, AV.any, AV.any, AV.any, AV.any, AV.any, AV.any, AV.any, AV.any, AV.any,
      AV.any, AV.any, AV.any, AV.any, AV.any, AV.any, AV.any, AV.any, AV.any, AV.any, AV.any, AV.any, AV.any, AV.any, AV.any, AV.any, AV.any, AV.any, AV.any,
      AV.any, AV.any, AV.any, AV.any, AV.any, AV.any, AV.any, AV.any, AV.any, AV.any, AV.any, AV.any, AV.any, AV.any, AV.any, AV.any, AV.any, AV.any, AV.any,
      AV.any, AV.any, AV.any, AV.any, AV.any, AV.any, AV.any],
  heap :=
    [AO.box
        [AV.str sh_0_0, AV.sl shCol lh_0_1, AV.int IntKind.i64 ih_0_2, AV.sl shInt lh_0_3,
          AV.sl shFor lh_0_4, AV.str sh_0_5, AV.int IntKind.i64 ih_0_6, AV.int IntKind.i64 ih_0_7, AV.str sh_0_8, AV.str sh_0_9,
          AV.sl Sh.expr lh_0_10]] }
theorem ok8 : fnChk (env28).P 8 Tryz.f8 1 := by refine ⟨?_, ?_, ?_, ?_⟩ <;> kernel_rfl
theorem go8 (x0 : Sem shTable) : run (env28) 0 kp8 (Func.results Tryz.f8).toList 400 (bodyOf Tryz.f8) (initSt (Func.ntmps Tryz.f8) [datum shTable x0] []) =
  Tr.br (bif !nameOk x0.fst then true else bif decide ((↑(List.length x0.snd.fst) : Int) < 1) then true else decide ((↑(List.length x0.snd.fst) : Int) > 8))
  (Tr.ok (Leaf.ret (AV.kb false) []))
  (Tr.ok
    (Leaf.head 4 (headK Tryz.f8 4)
      (s8_4 x0.snd.fst (↑(List.length x0.snd.fst) : Int) 0 x0.fst x0.snd.fst x0.snd.snd.fst x0.snd.snd.snd.fst x0.snd.snd.snd.snd.fst
        (ExprT.op x0.snd.snd.snd.snd.snd) (ExprT.v x0.snd.snd.snd.snd.snd).fst (ExprT.v x0.snd.snd.snd.snd.snd).snd.fst (ExprT.v x0.snd.snd.snd.snd.snd).snd.snd
        (ExprT.s x0.snd.snd.snd.snd.snd) (ExprT.l x0.snd.snd.snd.snd.snd)))) := by kernel_rfl
abbrev s8_11 (l59 : List (Sem shInt)) (i60 : Int) (i61 : Int) (sh_0_0 : Sem Sh.str) (lh_0_1 : List (Sem shCol)) (ih_0_2 : Sem shInt) (lh_0_3 : List (Sem shInt)) (lh_0_4 : List (Sem shFor)) (sh_0_5 : Str) (ih_0_6 : Int) (ih_0_7 : Int) (sh_0_8 : Str) (sh_0_9 : Str) (lh_0_10 : List (Sem Sh.expr)) : St := {
  tmps :=
    [AV.any, AV.ptr 0 0, AV.any, AV.any, AV.any, AV.clo (Fn.func 18) [] [AV.ptr 0 0], AV.any, AV.any, AV.any, AV.any, AV.any, AV.any, AV.any, AV.any, AV.any,
      AV.any, AV.any, AV.any, AV.any, AV.any, AV.any, AV.any, AV.any, AV.any, AV.any, AV.any, AV.any, AV.any, AV.any, AV.any, AV.any, AV.any, AV.any, AV.any,
      AV.any, AV.any, AV.any, AV.any, AV.any, AV.any, AV.any, AV.any, AV.any, AV.any, AV.any, AV.any, AV.any, AV.any, AV.any, AV.any, AV.any, AV.any, AV.any,
      AV.any, AV.any, AV.any, AV.any, AV.any, AV.any, AV.sl shInt l59, AV.int IntKind.i64 i60, AV.int IntKind.i64 i61, AV.any, AV.any, AV.any,
      AV.any, AV.any, AV.any, AV.any, AV.any, AV.any, AV.any, AV.any, AV.any, AV.any, AV.any, AV.any, AV.any, AV.any, AV.any, AV.any, AV.any, AV.any, AV.any,
      AV.any, AV.any, AV.any, AV.any, AV.any, AV.any, AV.any, AV.any, AV.any, AV.any, AV.any, AV.any, AV.any, AV.any, AV.any, AV.any, AV.any, AV.any, AV.any,
      AV.any, AV.any, AV.any, AV.any, AV.any, AV.any, AV.any],
  heap :=
    [AO.box
        [AV.str sh_0_0, AV.sl shCol lh_0_1, AV.int IntKind.i64 ih_0_2, AV.sl shInt lh_0_3,
          AV.sl shFor lh_0_4, AV.str sh_0_5, AV.int IntKind.i64 ih_0_6, AV.int IntKind.i64 ih_0_7, AV.str sh_0_8, AV.str sh_0_9,
          AV.sl Sh.expr lh_0_10]] }
theorem on8_4 (l27 : List (Sem shCol)) (i28 : Int) (i29 : Int) (sh_0_0 : Sem Sh.str) (lh_0_1 : List (Sem shCol)) (ih_0_2 : Sem shInt) (lh_0_3 : List (Sem shInt)) (lh_0_4 : List (Sem shFor)) (sh_0_5 : Str) (ih_0_6 : Int) (ih_0_7 : Int) (sh_0_8 : Str) (sh_0_9 : Str) (lh_0_10 : List (Sem Sh.expr)) : run (env28) 0 kp8 (Func.results Tryz.f8).toList 400 (headK Tryz.f8 4) (s8_4 l27 i28 i29 sh_0_0 lh_0_1 ih_0_2 lh_0_3 lh_0_4 sh_0_5 ih_0_6 ih_0_7 sh_0_8 sh_0_9 lh_0_10) =
  Tr.br (decide (i29 < i28))
  (Tr.chk (inB i29 l27.length)
    (Tr.br
      (bif !nameOk (l27.getD i29.toNat (dflt shCol)).fst then true
      else
        bif decide ((l27.getD i29.toNat (dflt shCol)).snd.fst < 1) then true
        else
          bif decide ((l27.getD i29.toNat (dflt shCol)).snd.fst > 3) then true
          else
            tPlace (sh_0_0, lh_0_1, ih_0_2, lh_0_3, lh_0_4, ExprT.mk sh_0_5 (ih_0_6, ih_0_7, sh_0_8) sh_0_9 lh_0_10)
                (l27.getD i29.toNat (dflt shCol)).fst !=
              i29)
      (Tr.ok (Leaf.ret (AV.kb false) []))
      (Tr.ok
        (Leaf.head 4 (headK Tryz.f8 4)
          (s8_4 l27 i28 (IntKind.i64.wrap (i29 + 1)) sh_0_0 lh_0_1 ih_0_2 lh_0_3 lh_0_4 sh_0_5 ih_0_6 ih_0_7 sh_0_8 sh_0_9 lh_0_10)))))
  (Tr.ok
    (Leaf.head 11 (headK Tryz.f8 11) (s8_11 lh_0_3 (↑lh_0_3.length : Int) 0 sh_0_0 lh_0_1 ih_0_2 lh_0_3 lh_0_4 sh_0_5 ih_0_6 ih_0_7 sh_0_8 sh_0_9 lh_0_10))) := by kernel_rfl
abbrev s8_17 (l71 : List (Sem shFor)) (i72 : Int) (i73 : Int) (sh_0_0 : Sem Sh.str) (lh_0_1 : List (Sem shCol)) (ih_0_2 : Sem shInt) (lh_0_3 : List (Sem shInt)) (lh_0_4 : List (Sem shFor)) (sh_0_5 : Str) (ih_0_6 : Int) (ih_0_7 : Int) (sh_0_8 : Str) (sh_0_9 : Str) (lh_0_10 : List (Sem Sh.expr)) : St := {
  tmps :=
    [AV.any, AV.ptr 0 0, AV.any, AV.any, AV.any, AV.clo (Fn.func 18) [] [AV.ptr 0 0], AV.any, AV.any, AV.any, AV.any, AV.any, AV.any, AV.any, AV.any, AV.any,
      AV.any, AV.any, AV.any, AV.any, AV.any, AV.any, AV.any, AV.any, AV.any, AV.any, AV.any, AV.any, AV.any, AV.any, AV.any, AV.any, AV.any, AV.any, AV.any,
      AV.any, AV.any, AV.any, AV.any, AV.any, AV.any, AV.any, AV.any, AV.any, AV.any, AV.any, AV.any, AV.any, AV.any, AV.any, AV.any, AV.any, AV.any, AV.any,
      AV.any, AV.any, AV.any, AV.any, AV.any, AV.any, AV.any, AV.any, AV.any, AV.any, AV.any, AV.any, AV.any, AV.any, AV.any, AV.any, AV.any, AV.any,
      AV.sl shFor l71, AV.int IntKind.i64 i72, AV.int IntKind.i64 i73, AV.any, AV.any, AV.any, AV.any, AV.any, AV.any, AV.any,
      AV.any, AV.any, AV.any, AV.any, AV.any, AV.any, AV.any, AV.any, AV.any, AV.any, AV.any, AV.any, AV.any, AV.any, AV.any, AV.any, AV.any, AV.any, AV.any,
      AV.any, AV.any, AV.any, AV.any, AV.any, AV.any, AV.any, AV.any, AV.any, AV.any],
  heap :=
    [AO.box
        [AV.str sh_0_0, AV.sl shCol lh_0_1, AV.int IntKind.i64 ih_0_2, AV.sl shInt lh_0_3,
          AV.sl shFor lh_0_4, AV.str sh_0_5, AV.int IntKind.i64 ih_0_6, AV.int IntKind.i64 ih_0_7, AV.str sh_0_8, AV.str sh_0_9,
          AV.sl Sh.expr lh_0_10]] }
theorem on8_11 (l59 : List (Sem shInt)) (i60 : Int) (i61 : Int) (sh_0_0 : Sem Sh.str) (lh_0_1 : List (Sem shCol)) (ih_0_2 : Sem shInt) (lh_0_3 : List (Sem shInt)) (lh_0_4 : List (Sem shFor)) (sh_0_5 : Str) (ih_0_6 : Int) (ih_0_7 : Int) (sh_0_8 : Str) (sh_0_9 : Str) (lh_0_10 : List (Sem Sh.expr)) : run (env28) 0 kp8 (Func.results Tryz.f8).toList 400 (headK Tryz.f8 11) (s8_11 l59 i60 i61 sh_0_0 lh_0_1 ih_0_2 lh_0_3 lh_0_4 sh_0_5 ih_0_6 ih_0_7 sh_0_8 sh_0_9 lh_0_10) =
  Tr.br (decide (i61 < i60))
  (Tr.chk (inB i61 l59.length)
    (Tr.br
      (!bif decide (l59.getD i61.toNat (dflt shInt) ≥ 0) then decide (l59.getD i61.toNat (dflt shInt) < (↑lh_0_1.length : Int))
        else false)
      (Tr.ok (Leaf.ret (AV.kb false) []))
      (Tr.ok
        (Leaf.head 11 (headK Tryz.f8 11)
          (s8_11 l59 i60 (IntKind.i64.wrap (i61 + 1)) sh_0_0 lh_0_1 ih_0_2 lh_0_3 lh_0_4 sh_0_5 ih_0_6 ih_0_7 sh_0_8 sh_0_9 lh_0_10)))))
  (Tr.ok
    (Leaf.head 17 (headK Tryz.f8 17) (s8_17 lh_0_4 (↑lh_0_4.length : Int) 0 sh_0_0 lh_0_1 ih_0_2 lh_0_3 lh_0_4 sh_0_5 ih_0_6 ih_0_7 sh_0_8 sh_0_9 lh_0_10))) := by kernel_rfl
theorem on8_17 (l71 : List (Sem shFor)) (i72 : Int) (i73 : Int) (sh_0_0 : Sem Sh.str) (lh_0_1 : List (Sem shCol)) (ih_0_2 : Sem shInt) (lh_0_3 : List (Sem shInt)) (lh_0_4 : List (Sem shFor)) (sh_0_5 : Str) (ih_0_6 : Int) (ih_0_7 : Int) (sh_0_8 : Str) (sh_0_9 : Str) (lh_0_10 : List (Sem Sh.expr)) : run (env28) 0 kp8 (Func.results Tryz.f8).toList 400 (headK Tryz.f8 17) (s8_17 l71 i72 i73 sh_0_0 lh_0_1 ih_0_2 lh_0_3 lh_0_4 sh_0_5 ih_0_6 ih_0_7 sh_0_8 sh_0_9 lh_0_10) =
  Tr.br (decide (i73 < i72))
  (Tr.chk (inB i73 l71.length)
    (Tr.br
      (!bif decide ((l71.getD i73.toNat (dflt shFor)).fst ≥ 0) then
          decide ((l71.getD i73.toNat (dflt shFor)).fst < (↑lh_0_1.length : Int))
        else false)
      (Tr.ok (Leaf.ret (AV.kb false) []))
      (Tr.br (!nameOk (l71.getD i73.toNat (dflt shFor)).snd) (Tr.ok (Leaf.ret (AV.kb false) []))
        (Tr.ok
          (Leaf.head 17 (headK Tryz.f8 17)
            (s8_17 l71 i72 (IntKind.i64.wrap (i73 + 1)) sh_0_0 lh_0_1 ih_0_2 lh_0_3 lh_0_4 sh_0_5 ih_0_6 ih_0_7 sh_0_8 sh_0_9 lh_0_10))))))
  (Tr.br (bif decide (ih_0_2 ≥ 0) then decide (ih_0_2 < (↑lh_0_1.length : Int)) else false)
    (Tr.chk (inB ih_0_2 lh_0_1.length)
      (Tr.br (lh_0_1.getD (Int.toNat ih_0_2) (dflt shCol)).snd.snd
        (Tr.ok (Leaf.ret (AV.bool (sCheck (ExprT.mk sh_0_5 (ih_0_6, ih_0_7, sh_0_8) sh_0_9 lh_0_10) lh_0_1 == 0)) [])) (Tr.ok (Leaf.ret (AV.kb false) []))))
    (Tr.ok (Leaf.ret (AV.kb false) []))) := by kernel_rfl
def tMay_17 (sh_0_0 : Sem Sh.str) (lh_0_1 : List (Sem shCol)) (ih_0_2 : Sem shInt) (lh_0_3 : List (Sem shInt)) (lh_0_4 : List (Sem shFor)) (sh_0_5 : Str) (ih_0_6 : Int) (ih_0_7 : Int) (sh_0_8 : Str) (sh_0_9 : Str) (lh_0_10 : List (Sem Sh.expr)) : List (Sem shFor) → Int → Sem Sh.bool
  | [], i73 => (if (bif decide (ih_0_2 ≥ 0) then decide (ih_0_2 < (↑lh_0_1.length : Int)) else false) = true then
  if (lh_0_1.getD (Int.toNat ih_0_2) (dflt shCol)).snd.snd = true then
    sCheck (ExprT.mk sh_0_5 (ih_0_6, ih_0_7, sh_0_8) sh_0_9 lh_0_10) lh_0_1 == 0
  else false
else false)
  | x :: r, i73 => (if (!bif decide (x.fst ≥ 0) then decide (x.fst < (↑lh_0_1.length : Int)) else false) = true then false
else if (!nameOk x.snd) = true then false else tMay_17 sh_0_0 lh_0_1 ih_0_2 lh_0_3 lh_0_4 sh_0_5 ih_0_6 ih_0_7 sh_0_8 sh_0_9 lh_0_10 r (i73 + 1))
def tMayC_17 (sh_0_0 : Sem Sh.str) (lh_0_1 : List (Sem shCol)) (ih_0_2 : Sem shInt) (lh_0_3 : List (Sem shInt)) (lh_0_4 : List (Sem shFor)) (sh_0_5 : Str) (ih_0_6 : Int) (ih_0_7 : Int) (sh_0_8 : Str) (sh_0_9 : Str) (lh_0_10 : List (Sem Sh.expr)) : List (Sem shFor) → Int → Bool
  | [], i73 => (if (bif decide (ih_0_2 ≥ 0) then decide (ih_0_2 < (↑lh_0_1.length : Int)) else false) = true then if inB ih_0_2 lh_0_1.length = true then true else false
else true)
  | x :: r, i73 => (if (!bif decide (x.fst ≥ 0) then decide (x.fst < (↑lh_0_1.length : Int)) else false) = true then true
else if (!nameOk x.snd) = true then true else tMayC_17 sh_0_0 lh_0_1 ih_0_2 lh_0_3 lh_0_4 sh_0_5 ih_0_6 ih_0_7 sh_0_8 sh_0_9 lh_0_10 r (i73 + 1))
theorem at8_17 {C : Ctx} (hC : ∀ id, C.ρ0 id = none) (sh_0_0 : Sem Sh.str) (lh_0_1 : List (Sem shCol)) (ih_0_2 : Sem shInt) (lh_0_3 : List (Sem shInt)) (lh_0_4 : List (Sem shFor)) (sh_0_5 : Str) (ih_0_6 : Int) (ih_0_7 : Int) (sh_0_8 : Str) (sh_0_9 : Str) (lh_0_10 : List (Sem Sh.expr)) (l71 : List (Sem shFor)) (hl : l71.length ≤ maxStr) : ∀ (m i : Nat), l71.length - i = m → i ≤ l71.length → tMayC_17 sh_0_0 lh_0_1 ih_0_2 lh_0_3 lh_0_4 sh_0_5 ih_0_6 ih_0_7 sh_0_8 sh_0_9 lh_0_10 (l71.drop i) i = true →
    Reach (env28) C 8 (headK Tryz.f8 17) (s8_17 l71 (l71.length : Int) (i : Int) sh_0_0 lh_0_1 ih_0_2 lh_0_3 lh_0_4 sh_0_5 ih_0_6 ih_0_7 sh_0_8 sh_0_9 lh_0_10) (fun r h => resOf h [Sh.bool] r = some (tMay_17 sh_0_0 lh_0_1 ih_0_2 lh_0_3 lh_0_4 sh_0_5 ih_0_6 ih_0_7 sh_0_8 sh_0_9 lh_0_10 (l71.drop i) i, ())) := by
  intro m
  induction m with
  | zero =>
    intro i hm hi hc
    obtain rfl : i = l71.length := by omega
    rw [List.drop_length] at hc ⊢
    refine reach_ok env28_all env28_mix (ok8) (fun id _ => hC id) (on8_17 _ _ _ _ _ _ _ _ _ _ _ _ _ _) ?_
    rw [tMayC_17] at hc
    generalize hy : tMay_17 sh_0_0 lh_0_1 ih_0_2 lh_0_3 lh_0_4 sh_0_5 ih_0_6 ih_0_7 sh_0_8 sh_0_9 lh_0_10 [] _ = y
    rw [tMay_17] at hy
    simp only [ExprT.eta, lt_dec', cond_false, Tr.val_brF]
    repeat' (first | (refine OptOk_br (fun hsp => ?_) (fun hsp => ?_) <;> first | (rw [if_pos hsp] at hy; try rw [if_pos hsp] at hc) | (rw [if_neg (ne_t hsp)] at hy; try rw [if_neg (ne_t hsp)] at hc)) | (have hgi := guard_ite hc; refine OptOk_chk hgi.1 ?_; replace hc := hgi.2; clear hgi) | refine OptOk_chkT ?_)
    all_goals (subst hy; first | (change Reach _ _ _ _ _ _; apply at8_4s hC <;> first | assumption | exact hc) | (change Reach _ _ _ _ _ _; apply at8_11s hC <;> first | assumption | exact hc) | rfl)
  | succ m IH =>
    intro i hm hi hc
    have hlt : i < l71.length := by omega
    have IH := IH (i + 1)
    have hcast : ((i : Int) + 1) = ((i + 1 : Nat) : Int) := by omega
    have hwr := wrap_add i (by omega)
    rw [List.drop_eq_getElem_cons hlt] at hc ⊢
    refine reach_ok env28_all env28_mix (ok8) (fun id _ => hC id) (on8_17 _ _ _ _ _ _ _ _ _ _ _ _ _ _) ?_
    rw [tMayC_17] at hc
    generalize hy : tMay_17 sh_0_0 lh_0_1 ih_0_2 lh_0_3 lh_0_4 sh_0_5 ih_0_6 ih_0_7 sh_0_8 sh_0_9 lh_0_10 (l71[i] :: l71.drop (i + 1)) (i : Int) = y
    rw [tMay_17] at hy
    simp only [ExprT.eta, lt_dec hlt, inB_of hlt, getD_at l71 _ hlt, hwr, cond_true, Tr.val_brT, Tr.val_chkT]
    clear hwr
    simp only [hcast] at hy
    try simp only [hcast] at hc
    repeat' (first | (refine OptOk_br (fun hsp => ?_) (fun hsp => ?_) <;> first | (rw [if_pos hsp] at hy; try rw [if_pos hsp] at hc) | (rw [if_neg (ne_t hsp)] at hy; try rw [if_neg (ne_t hsp)] at hc)) | (have hgi := guard_ite hc; refine OptOk_chk hgi.1 ?_; replace hc := hgi.2; clear hgi) | refine OptOk_chkT ?_)
    all_goals (subst hy; first | (change Reach _ _ _ _ _ _; apply IH <;> first | omega | assumption) | (change Reach _ _ _ _ _ _; apply at8_4s hC <;> first | assumption | exact hc) | (change Reach _ _ _ _ _ _; apply at8_11s hC <;> first | assumption | exact hc) | rfl)
theorem at8_17s {C : Ctx} (hC : ∀ id, C.ρ0 id = none) (sh_0_0 : Sem Sh.str) (lh_0_1 : List (Sem shCol)) (ih_0_2 : Sem shInt) (lh_0_3 : List (Sem shInt)) (lh_0_4 : List (Sem shFor)) (sh_0_5 : Str) (ih_0_6 : Int) (ih_0_7 : Int) (sh_0_8 : Str) (sh_0_9 : Str) (lh_0_10 : List (Sem Sh.expr)) (l71 : List (Sem shFor)) (hc : tMayC_17 sh_0_0 lh_0_1 ih_0_2 lh_0_3 lh_0_4 sh_0_5 ih_0_6 ih_0_7 sh_0_8 sh_0_9 lh_0_10 l71 0 = true) :
    Reach (env28) C 8 (headK Tryz.f8 17) (s8_17 l71 (l71.length : Int) 0 sh_0_0 lh_0_1 ih_0_2 lh_0_3 lh_0_4 sh_0_5 ih_0_6 ih_0_7 sh_0_8 sh_0_9 lh_0_10) (fun r h => resOf h [Sh.bool] r = some (tMay_17 sh_0_0 lh_0_1 ih_0_2 lh_0_3 lh_0_4 sh_0_5 ih_0_6 ih_0_7 sh_0_8 sh_0_9 lh_0_10 l71 0, ())) :=
  Reach.len 71 (shInt.pr Sh.str) l71 rfl fun hl => at8_17 hC sh_0_0 lh_0_1 ih_0_2 lh_0_3 lh_0_4 sh_0_5 ih_0_6 ih_0_7 sh_0_8 sh_0_9 lh_0_10 l71 hl _ 0 rfl (Nat.zero_le _) hc
def tMay_11 (sh_0_0 : Sem Sh.str) (lh_0_1 : List (Sem shCol)) (ih_0_2 : Sem shInt) (lh_0_3 : List (Sem shInt)) (lh_0_4 : List (Sem shFor)) (sh_0_5 : Str) (ih_0_6 : Int) (ih_0_7 : Int) (sh_0_8 : Str) (sh_0_9 : Str) (lh_0_10 : List (Sem Sh.expr)) : List (Sem shInt) → Int → Sem Sh.bool
  | [], i61 => (tMay_17 sh_0_0 lh_0_1 ih_0_2 lh_0_3 lh_0_4 sh_0_5 ih_0_6 ih_0_7 sh_0_8 sh_0_9 lh_0_10 lh_0_4 0)
  | x :: r, i61 => (if (!bif decide (x ≥ 0) then decide (x < (↑lh_0_1.length : Int)) else false) = true then false
else tMay_11 sh_0_0 lh_0_1 ih_0_2 lh_0_3 lh_0_4 sh_0_5 ih_0_6 ih_0_7 sh_0_8 sh_0_9 lh_0_10 r (i61 + 1))
def tMayC_11 (sh_0_0 : Sem Sh.str) (lh_0_1 : List (Sem shCol)) (ih_0_2 : Sem shInt) (lh_0_3 : List (Sem shInt)) (lh_0_4 : List (Sem shFor)) (sh_0_5 : Str) (ih_0_6 : Int) (ih_0_7 : Int) (sh_0_8 : Str) (sh_0_9 : Str) (lh_0_10 : List (Sem Sh.expr)) : List (Sem shInt) → Int → Bool
  | [], i61 => (tMayC_17 sh_0_0 lh_0_1 ih_0_2 lh_0_3 lh_0_4 sh_0_5 ih_0_6 ih_0_7 sh_0_8 sh_0_9 lh_0_10 lh_0_4 0)
  | x :: r, i61 => (if (!bif decide (x ≥ 0) then decide (x < (↑lh_0_1.length : Int)) else false) = true then true
else tMayC_11 sh_0_0 lh_0_1 ih_0_2 lh_0_3 lh_0_4 sh_0_5 ih_0_6 ih_0_7 sh_0_8 sh_0_9 lh_0_10 r (i61 + 1))
theorem at8_11 {C : Ctx} (hC : ∀ id, C.ρ0 id = none) (sh_0_0 : Sem Sh.str) (lh_0_1 : List (Sem shCol)) (ih_0_2 : Sem shInt) (lh_0_3 : List (Sem shInt)) (lh_0_4 : List (Sem shFor)) (sh_0_5 : Str) (ih_0_6 : Int) (ih_0_7 : Int) (sh_0_8 : Str) (sh_0_9 : Str) (lh_0_10 : List (Sem Sh.expr)) (l59 : List (Sem shInt)) (hl : l59.length ≤ maxStr) : ∀ (m i : Nat), l59.length - i = m → i ≤ l59.length → tMayC_11 sh_0_0 lh_0_1 ih_0_2 lh_0_3 lh_0_4 sh_0_5 ih_0_6 ih_0_7 sh_0_8 sh_0_9 lh_0_10 (l59.drop i) i = true →
    Reach (env28) C 8 (headK Tryz.f8 11) (s8_11 l59 (l59.length : Int) (i : Int) sh_0_0 lh_0_1 ih_0_2 lh_0_3 lh_0_4 sh_0_5 ih_0_6 ih_0_7 sh_0_8 sh_0_9 lh_0_10) (fun r h => resOf h [Sh.bool] r = some (tMay_11 sh_0_0 lh_0_1 ih_0_2 lh_0_3 lh_0_4 sh_0_5 ih_0_6 ih_0_7 sh_0_8 sh_0_9 lh_0_10 (l59.drop i) i, ())) := by
  intro m
  induction m with
  | zero =>
    intro i hm hi hc
    obtain rfl : i = l59.length := by omega
    rw [List.drop_length] at hc ⊢
    refine reach_ok env28_all env28_mix (ok8) (fun id _ => hC id) (on8_11 _ _ _ _ _ _ _ _ _ _ _ _ _ _) ?_
    rw [tMayC_11] at hc
    generalize hy : tMay_11 sh_0_0 lh_0_1 ih_0_2 lh_0_3 lh_0_4 sh_0_5 ih_0_6 ih_0_7 sh_0_8 sh_0_9 lh_0_10 [] _ = y
    rw [tMay_11] at hy
    simp only [ExprT.eta, lt_dec', cond_false, Tr.val_brF]
    repeat' (first | (refine OptOk_br (fun hsp => ?_) (fun hsp => ?_) <;> first | (rw [if_pos hsp] at hy; try rw [if_pos hsp] at hc) | (rw [if_neg (ne_t hsp)] at hy; try rw [if_neg (ne_t hsp)] at hc)) | (have hgi := guard_ite hc; refine OptOk_chk hgi.1 ?_; replace hc := hgi.2; clear hgi) | refine OptOk_chkT ?_)
    all_goals (subst hy; first | (change Reach _ _ _ _ _ _; apply at8_4s hC <;> first | assumption | exact hc) | (change Reach _ _ _ _ _ _; apply at8_17s hC <;> first | assumption | exact hc) | rfl)
  | succ m IH =>
    intro i hm hi hc
    have hlt : i < l59.length := by omega
    have IH := IH (i + 1)
    have hcast : ((i : Int) + 1) = ((i + 1 : Nat) : Int) := by omega
    have hwr := wrap_add i (by omega)
    rw [List.drop_eq_getElem_cons hlt] at hc ⊢
    refine reach_ok env28_all env28_mix (ok8) (fun id _ => hC id) (on8_11 _ _ _ _ _ _ _ _ _ _ _ _ _ _) ?_
    rw [tMayC_11] at hc
    generalize hy : tMay_11 sh_0_0 lh_0_1 ih_0_2 lh_0_3 lh_0_4 sh_0_5 ih_0_6 ih_0_7 sh_0_8 sh_0_9 lh_0_10 (l59[i] :: l59.drop (i + 1)) (i : Int) = y
    rw [tMay_11] at hy
    simp only [ExprT.eta, lt_dec hlt, inB_of hlt, getD_at l59 _ hlt, hwr, cond_true, Tr.val_brT, Tr.val_chkT]
    clear hwr
    simp only [hcast] at hy
    try simp only [hcast] at hc
    repeat' (first | (refine OptOk_br (fun hsp => ?_) (fun hsp => ?_) <;> first | (rw [if_pos hsp] at hy; try rw [if_pos hsp] at hc) | (rw [if_neg (ne_t hsp)] at hy; try rw [if_neg (ne_t hsp)] at hc)) | (have hgi := guard_ite hc; refine OptOk_chk hgi.1 ?_; replace hc := hgi.2; clear hgi) | refine OptOk_chkT ?_)
    all_goals (subst hy; first | (change Reach _ _ _ _ _ _; apply IH <;> first | omega | assumption) | (change Reach _ _ _ _ _ _; apply at8_4s hC <;> first | assumption | exact hc) | (change Reach _ _ _ _ _ _; apply at8_17s hC <;> first | assumption | exact hc) | rfl)
theorem at8_11s {C : Ctx} (hC : ∀ id, C.ρ0 id = none) (sh_0_0 : Sem Sh.str) (lh_0_1 : List (Sem shCol)) (ih_0_2 : Sem shInt) (lh_0_3 : List (Sem shInt)) (lh_0_4 : List (Sem shFor)) (sh_0_5 : Str) (ih_0_6 : Int) (ih_0_7 : Int) (sh_0_8 : Str) (sh_0_9 : Str) (lh_0_10 : List (Sem Sh.expr)) (l59 : List (Sem shInt)) (hc : tMayC_11 sh_0_0 lh_0_1 ih_0_2 lh_0_3 lh_0_4 sh_0_5 ih_0_6 ih_0_7 sh_0_8 sh_0_9 lh_0_10 l59 0 = true) :
    Reach (env28) C 8 (headK Tryz.f8 11) (s8_11 l59 (l59.length : Int) 0 sh_0_0 lh_0_1 ih_0_2 lh_0_3 lh_0_4 sh_0_5 ih_0_6 ih_0_7 sh_0_8 sh_0_9 lh_0_10) (fun r h => resOf h [Sh.bool] r = some (tMay_11 sh_0_0 lh_0_1 ih_0_2 lh_0_3 lh_0_4 sh_0_5 ih_0_6 ih_0_7 sh_0_8 sh_0_9 lh_0_10 l59 0, ())) :=
  Reach.len 59 (Sh.int IntKind.i64) l59 rfl fun hl => at8_11 hC sh_0_0 lh_0_1 ih_0_2 lh_0_3 lh_0_4 sh_0_5 ih_0_6 ih_0_7 sh_0_8 sh_0_9 lh_0_10 l59 hl _ 0 rfl (Nat.zero_le _) hc
def tMay_4 (sh_0_0 : Sem Sh.str) (lh_0_1 : List (Sem shCol)) (ih_0_2 : Sem shInt) (lh_0_3 : List (Sem shInt)) (lh_0_4 : List (Sem shFor)) (sh_0_5 : Str) (ih_0_6 : Int) (ih_0_7 : Int) (sh_0_8 : Str) (sh_0_9 : Str) (lh_0_10 : List (Sem Sh.expr)) : List (Sem shCol) → Int → Sem Sh.bool
  | [], i29 => (tMay_11 sh_0_0 lh_0_1 ih_0_2 lh_0_3 lh_0_4 sh_0_5 ih_0_6 ih_0_7 sh_0_8 sh_0_9 lh_0_10 lh_0_3 0)
  | x :: r, i29 => (if
    (bif !nameOk x.fst then true
      else
        bif decide (x.snd.fst < 1) then true
        else
          bif decide (x.snd.fst > 3) then true
          else tPlace (sh_0_0, lh_0_1, ih_0_2, lh_0_3, lh_0_4, ExprT.mk sh_0_5 (ih_0_6, ih_0_7, sh_0_8) sh_0_9 lh_0_10) x.fst != i29) =
      true then
  false
else tMay_4 sh_0_0 lh_0_1 ih_0_2 lh_0_3 lh_0_4 sh_0_5 ih_0_6 ih_0_7 sh_0_8 sh_0_9 lh_0_10 r (i29 + 1))
def tMayC_4 (sh_0_0 : Sem Sh.str) (lh_0_1 : List (Sem shCol)) (ih_0_2 : Sem shInt) (lh_0_3 : List (Sem shInt)) (lh_0_4 : List (Sem shFor)) (sh_0_5 : Str) (ih_0_6 : Int) (ih_0_7 : Int) (sh_0_8 : Str) (sh_0_9 : Str) (lh_0_10 : List (Sem Sh.expr)) : List (Sem shCol) → Int → Bool
  | [], i29 => (tMayC_11 sh_0_0 lh_0_1 ih_0_2 lh_0_3 lh_0_4 sh_0_5 ih_0_6 ih_0_7 sh_0_8 sh_0_9 lh_0_10 lh_0_3 0)
  | x :: r, i29 => (if
    (bif !nameOk x.fst then true
      else
        bif decide (x.snd.fst < 1) then true
        else
          bif decide (x.snd.fst > 3) then true
          else tPlace (sh_0_0, lh_0_1, ih_0_2, lh_0_3, lh_0_4, ExprT.mk sh_0_5 (ih_0_6, ih_0_7, sh_0_8) sh_0_9 lh_0_10) x.fst != i29) =
      true then
  true
else tMayC_4 sh_0_0 lh_0_1 ih_0_2 lh_0_3 lh_0_4 sh_0_5 ih_0_6 ih_0_7 sh_0_8 sh_0_9 lh_0_10 r (i29 + 1))
theorem at8_4 {C : Ctx} (hC : ∀ id, C.ρ0 id = none) (sh_0_0 : Sem Sh.str) (lh_0_1 : List (Sem shCol)) (ih_0_2 : Sem shInt) (lh_0_3 : List (Sem shInt)) (lh_0_4 : List (Sem shFor)) (sh_0_5 : Str) (ih_0_6 : Int) (ih_0_7 : Int) (sh_0_8 : Str) (sh_0_9 : Str) (lh_0_10 : List (Sem Sh.expr)) (l27 : List (Sem shCol)) (hl : l27.length ≤ maxStr) : ∀ (m i : Nat), l27.length - i = m → i ≤ l27.length → tMayC_4 sh_0_0 lh_0_1 ih_0_2 lh_0_3 lh_0_4 sh_0_5 ih_0_6 ih_0_7 sh_0_8 sh_0_9 lh_0_10 (l27.drop i) i = true →
    Reach (env28) C 8 (headK Tryz.f8 4) (s8_4 l27 (l27.length : Int) (i : Int) sh_0_0 lh_0_1 ih_0_2 lh_0_3 lh_0_4 sh_0_5 ih_0_6 ih_0_7 sh_0_8 sh_0_9 lh_0_10) (fun r h => resOf h [Sh.bool] r = some (tMay_4 sh_0_0 lh_0_1 ih_0_2 lh_0_3 lh_0_4 sh_0_5 ih_0_6 ih_0_7 sh_0_8 sh_0_9 lh_0_10 (l27.drop i) i, ())) := by
  intro m
  induction m with
  | zero =>
    intro i hm hi hc
    obtain rfl : i = l27.length := by omega
    rw [List.drop_length] at hc ⊢
    refine reach_ok env28_all env28_mix (ok8) (fun id _ => hC id) (on8_4 _ _ _ _ _ _ _ _ _ _ _ _ _ _) ?_
    rw [tMayC_4] at hc
    generalize hy : tMay_4 sh_0_0 lh_0_1 ih_0_2 lh_0_3 lh_0_4 sh_0_5 ih_0_6 ih_0_7 sh_0_8 sh_0_9 lh_0_10 [] _ = y
    rw [tMay_4] at hy
    simp only [ExprT.eta, lt_dec', cond_false, Tr.val_brF]
    repeat' (first | (refine OptOk_br (fun hsp => ?_) (fun hsp => ?_) <;> first | (rw [if_pos hsp] at hy; try rw [if_pos hsp] at hc) | (rw [if_neg (ne_t hsp)] at hy; try rw [if_neg (ne_t hsp)] at hc)) | (have hgi := guard_ite hc; refine OptOk_chk hgi.1 ?_; replace hc := hgi.2; clear hgi) | refine OptOk_chkT ?_)
    all_goals (subst hy; first | (change Reach _ _ _ _ _ _; apply at8_11s hC <;> first | assumption | exact hc) | (change Reach _ _ _ _ _ _; apply at8_17s hC <;> first | assumption | exact hc) | rfl)
  | succ m IH =>
    intro i hm hi hc
    have hlt : i < l27.length := by omega
    have IH := IH (i + 1)
    have hcast : ((i : Int) + 1) = ((i + 1 : Nat) : Int) := by omega
    have hwr := wrap_add i (by omega)
    rw [List.drop_eq_getElem_cons hlt] at hc ⊢
    refine reach_ok env28_all env28_mix (ok8) (fun id _ => hC id) (on8_4 _ _ _ _ _ _ _ _ _ _ _ _ _ _) ?_
    rw [tMayC_4] at hc
    generalize hy : tMay_4 sh_0_0 lh_0_1 ih_0_2 lh_0_3 lh_0_4 sh_0_5 ih_0_6 ih_0_7 sh_0_8 sh_0_9 lh_0_10 (l27[i] :: l27.drop (i + 1)) (i : Int) = y
    rw [tMay_4] at hy
    simp only [ExprT.eta, lt_dec hlt, inB_of hlt, getD_at l27 _ hlt, hwr, cond_true, Tr.val_brT, Tr.val_chkT]
    clear hwr
    simp only [hcast] at hy
    try simp only [hcast] at hc
    repeat' (first | (refine OptOk_br (fun hsp => ?_) (fun hsp => ?_) <;> first | (rw [if_pos hsp] at hy; try rw [if_pos hsp] at hc) | (rw [if_neg (ne_t hsp)] at hy; try rw [if_neg (ne_t hsp)] at hc)) | (have hgi := guard_ite hc; refine OptOk_chk hgi.1 ?_; replace hc := hgi.2; clear hgi) | refine OptOk_chkT ?_)
    all_goals (subst hy; first | (change Reach _ _ _ _ _ _; apply IH <;> first | omega | assumption) | (change Reach _ _ _ _ _ _; apply at8_11s hC <;> first | assumption | exact hc) | (change Reach _ _ _ _ _ _; apply at8_17s hC <;> first | assumption | exact hc) | rfl)
theorem at8_4s {C : Ctx} (hC : ∀ id, C.ρ0 id = none) (sh_0_0 : Sem Sh.str) (lh_0_1 : List (Sem shCol)) (ih_0_2 : Sem shInt) (lh_0_3 : List (Sem shInt)) (lh_0_4 : List (Sem shFor)) (sh_0_5 : Str) (ih_0_6 : Int) (ih_0_7 : Int) (sh_0_8 : Str) (sh_0_9 : Str) (lh_0_10 : List (Sem Sh.expr)) (l27 : List (Sem shCol)) (hc : tMayC_4 sh_0_0 lh_0_1 ih_0_2 lh_0_3 lh_0_4 sh_0_5 ih_0_6 ih_0_7 sh_0_8 sh_0_9 lh_0_10 l27 0 = true) :
    Reach (env28) C 8 (headK Tryz.f8 4) (s8_4 l27 (l27.length : Int) 0 sh_0_0 lh_0_1 ih_0_2 lh_0_3 lh_0_4 sh_0_5 ih_0_6 ih_0_7 sh_0_8 sh_0_9 lh_0_10) (fun r h => resOf h [Sh.bool] r = some (tMay_4 sh_0_0 lh_0_1 ih_0_2 lh_0_3 lh_0_4 sh_0_5 ih_0_6 ih_0_7 sh_0_8 sh_0_9 lh_0_10 l27 0, ())) :=
  Reach.len 27 (shCol) l27 rfl fun hl => at8_4 hC sh_0_0 lh_0_1 ih_0_2 lh_0_3 lh_0_4 sh_0_5 ih_0_6 ih_0_7 sh_0_8 sh_0_9 lh_0_10 l27 hl _ 0 rfl (Nat.zero_le _) hc
def tMay (x0 : Sem shTable) : Sem Sh.bool :=
  (if
    (bif !nameOk x0.fst then true else bif decide ((↑(List.length x0.snd.fst) : Int) < 1) then true else decide ((↑(List.length x0.snd.fst) : Int) > 8)) =
      true then
  false
else
  tMay_4 x0.fst x0.snd.fst x0.snd.snd.fst x0.snd.snd.snd.fst x0.snd.snd.snd.snd.fst (ExprT.op x0.snd.snd.snd.snd.snd) (ExprT.v x0.snd.snd.snd.snd.snd).fst
    (ExprT.v x0.snd.snd.snd.snd.snd).snd.fst (ExprT.v x0.snd.snd.snd.snd.snd).snd.snd (ExprT.s x0.snd.snd.snd.snd.snd) (ExprT.l x0.snd.snd.snd.snd.snd)
    x0.snd.fst 0)
def tMayC (x0 : Sem shTable) : Bool :=
  (if
    (bif !nameOk x0.fst then true else bif decide ((↑(List.length x0.snd.fst) : Int) < 1) then true else decide ((↑(List.length x0.snd.fst) : Int) > 8)) =
      true then
  true
else
  tMayC_4 x0.fst x0.snd.fst x0.snd.snd.fst x0.snd.snd.snd.fst x0.snd.snd.snd.snd.fst (ExprT.op x0.snd.snd.snd.snd.snd) (ExprT.v x0.snd.snd.snd.snd.snd).fst
    (ExprT.v x0.snd.snd.snd.snd.snd).snd.fst (ExprT.v x0.snd.snd.snd.snd.snd).snd.snd (ExprT.s x0.snd.snd.snd.snd.snd) (ExprT.l x0.snd.snd.snd.snd.snd)
    x0.snd.fst 0)
def F8 : FSem := plainC [shTable] [Sh.bool] (fun x => tMayC x.1) fun x => (tMay x.1, ())
theorem FOk8 : FOk (env28).P (env28).gl 8 F8 := by
  refine FOk_plainC (ok8) fun x hc C hC => ?_
  unfold tMayC at hc
  refine reach_ok env28_all env28_mix (ok8) (fun id _ => hC id) (go8 x.1) ?_
  generalize hy : tMay x.1 = y
  unfold tMay at hy
  try simp only [ExprT.eta]
  repeat' (first | (refine OptOk_br (fun hsp => ?_) (fun hsp => ?_) <;> first | (rw [if_pos hsp] at hy; try rw [if_pos hsp] at hc) | (rw [if_neg (ne_t hsp)] at hy; try rw [if_neg (ne_t hsp)] at hc)) | (have hgi := guard_ite hc; refine OptOk_chk hgi.1 ?_; replace hc := hgi.2; clear hgi) | refine OptOk_chkT ?_)
  all_goals (subst hy; first | (change Reach _ _ _ _ _ _; apply at8_4s hC <;> first | assumption | exact hc) | (change Reach _ _ _ _ _ _; apply at8_11s hC <;> first | assumption | exact hc) | (change Reach _ _ _ _ _ _; apply at8_17s hC <;> first | assumption | exact hc) | rfl)

noncomputable def env29 : Env := (env28.add 8 F8)
theorem env29_all : EnvAll env29 := (EnvAll.addS env28_all (SameE.refl env28) FOk8)
theorem env29_mix : env29.P.follows .mixedOrders = true := (mix_add env28_mix _ _)
end Cad

namespace Cad
open Go Go.Proofs

theorem tMayC_17_true {a0 a1 a2 a3 a4 a5 a6 a7 a8 a9 b0} : ∀ (l : List (Sem shFor)) (i : Int), tMayC_17 a0 a1 a2 a3 a4 a5 a6 a7 a8 a9 b0 l i = true
  | [], i => by
    rw [tMayC_17]
    split
    · rename_i h
      rw [if_pos]
      cases h1 : decide (a2 ≥ 0) <;> simp_all [inB]
    · rfl
  | x :: r, i => by
    rw [tMayC_17]
    repeat' split
    all_goals first | rfl | exact tMayC_17_true r (i + 1)
theorem tMayC_11_true {a0 a1 a2 a3 a4 a5 a6 a7 a8 a9 b0} : ∀ (l : List (Sem shInt)) (i : Int), tMayC_11 a0 a1 a2 a3 a4 a5 a6 a7 a8 a9 b0 l i = true
  | [], i => by rw [tMayC_11]; exact tMayC_17_true _ _
  | x :: r, i => by
    rw [tMayC_11]
    repeat' split
    all_goals first | rfl | exact tMayC_11_true r (i + 1)
theorem tMayC_4_true {a0 a1 a2 a3 a4 a5 a6 a7 a8 a9 b0} : ∀ (l : List (Sem shCol)) (i : Int), tMayC_4 a0 a1 a2 a3 a4 a5 a6 a7 a8 a9 b0 l i = true
  | [], i => by rw [tMayC_4]; exact tMayC_11_true _ _
  | x :: r, i => by
    rw [tMayC_4]
    split
    · rfl
    · exact tMayC_4_true r (i + 1)
theorem tMayC_true (t : Sem shTable) : tMayC t = true := by
  unfold tMayC
  split
  · rfl
  · exact tMayC_4_true _ _
def F8t : FSem := plainT [shTable] [Sh.bool] fun x => (tMay x.1, ())
theorem FOk8t : FOk env29.P env29.gl 8 F8t := FOk_tot FOk8 fun x => tMayC_true x.1

noncomputable def env30 : Env := (env29.add 8 F8t)
theorem env30_all : EnvAll env30 := (EnvAll.addS env29_all (SameE.refl env29) FOk8t)
theorem env30_mix : env30.P.follows .mixedOrders = true := (mix_add env29_mix _ _)
end Cad

namespace Cad
open Go Go.Proofs

abbrev kp10 : Nat → Keep := fun j => if j = 4 then { slots := [1, 2, 19, 20, 21] } else if j = 10 then { slots := [1, 2, 30, 31] } else { }
abbrev s10_4 (l1 : List (Sem shVal)) (l19 : List (Sem shVal)) (i20 : Int) (i21 : Int) (sh_0_0 : Sem Sh.str) (lh_0_1 : List (Sem shCol)) (ih_0_2 : Sem shInt) (lh_0_3 : List (Sem shInt)) (lh_0_4 : List (Sem shFor)) (sh_0_5 : Str) (ih_0_6 : Int) (ih_0_7 : Int) (sh_0_8 : Str) (sh_0_9 : Str) (lh_0_10 : List (Sem Sh.expr)) : St := {
  tmps :=
    [AV.any, AV.sl shVal l1, AV.ptr 0 0, AV.any, AV.any, AV.any, AV.any, AV.any, AV.any, AV.any, AV.any,
      AV.any, AV.any, AV.any, AV.any, AV.any, AV.any, AV.any, AV.any, AV.sl shVal l19,
      AV.int IntKind.i64 i20, AV.int IntKind.i64 i21, AV.any, AV.any, AV.any, AV.any, AV.any, AV.any, AV.any, AV.any, AV.any, AV.any, AV.any, AV.any, AV.any,
      AV.any, AV.any, AV.any, AV.any, AV.any, AV.any, AV.any, AV.any, AV.any, AV.any, AV.any, AV.any, AV.any, AV.any, AV.any, AV.any, AV.any, AV.any, AV.any,
      AV.any, AV.any, AV.any, AV.any, AV.any, AV.any, AV.any, AV.any, AV.any, AV.any, AV.any, AV.any, AV.any, AV.any, AV.any, AV.any, AV.any, AV.any, AV.any,
      AV.any, AV.any, AV.any, AV.any, AV.any, AV.any],
  heap :=
    [AO.box
        [AV.str sh_0_0, AV.sl shCol lh_0_1, AV.int IntKind.i64 ih_0_2, AV.sl shInt lh_0_3,
          AV.sl shFor lh_0_4, AV.str sh_0_5, AV.int IntKind.i64 ih_0_6, AV.int IntKind.i64 ih_0_7, AV.str sh_0_8, AV.str sh_0_9,
          AV.sl Sh.expr lh_0_10]] }
theorem ok10 : fnChk (env30).P 10 Tryz.f10 2 := by refine ⟨?_, ?_, ?_, ?_⟩ <;> kernel_rfl
theorem go10 (x0 : Sem shTable) (x1 : Sem shVal.sl) : run (env30) 0 kp10 (Func.results Tryz.f10).toList 400 (bodyOf Tryz.f10) (initSt (Func.ntmps Tryz.f10) [datum shTable x0, datum shVal.sl x1] []) =
  Tr.br
  (bif
      !tMay
          (x0.fst, x0.snd.fst, x0.snd.snd.fst, x0.snd.snd.snd.fst, x0.snd.snd.snd.snd.fst,
            ExprT.mk (ExprT.op x0.snd.snd.snd.snd.snd) (ExprT.v x0.snd.snd.snd.snd.snd) (ExprT.s x0.snd.snd.snd.snd.snd) (ExprT.l x0.snd.snd.snd.snd.snd)) then
    true
  else (↑(List.length x1) : Int) != (↑(List.length x0.snd.fst) : Int))
  (Tr.ok (Leaf.ret (AV.int IntKind.i64 1) []))
  (Tr.ok
    (Leaf.head 4 (headK Tryz.f10 4)
      (s10_4 x1 x1 (↑(List.length x1) : Int) 0 x0.fst x0.snd.fst x0.snd.snd.fst x0.snd.snd.snd.fst x0.snd.snd.snd.snd.fst (ExprT.op x0.snd.snd.snd.snd.snd)
        (ExprT.v x0.snd.snd.snd.snd.snd).fst (ExprT.v x0.snd.snd.snd.snd.snd).snd.fst (ExprT.v x0.snd.snd.snd.snd.snd).snd.snd (ExprT.s x0.snd.snd.snd.snd.snd)
        (ExprT.l x0.snd.snd.snd.snd.snd)))) := by kernel_rfl
abbrev s10_10 (l1 : List (Sem shVal)) (i30 : Int) (i31 : Int) (sh_0_0 : Sem Sh.str) (lh_0_1 : List (Sem shCol)) (ih_0_2 : Sem shInt) (lh_0_3 : List (Sem shInt)) (lh_0_4 : List (Sem shFor)) (sh_0_5 : Str) (ih_0_6 : Int) (ih_0_7 : Int) (sh_0_8 : Str) (sh_0_9 : Str) (lh_0_10 : List (Sem Sh.expr)) : St := {
  tmps :=
    [AV.any, AV.sl shVal l1, AV.ptr 0 0, AV.any, AV.any, AV.any, AV.any, AV.any, AV.any, AV.any, AV.any,
      AV.any, AV.any, AV.any, AV.any, AV.any, AV.any, AV.any, AV.any, AV.any, AV.any, AV.any, AV.any, AV.any, AV.any, AV.any, AV.any, AV.any, AV.any, AV.any,
      AV.int IntKind.i64 i30, AV.int IntKind.i64 i31, AV.any, AV.any, AV.any, AV.any, AV.any, AV.any, AV.any, AV.any, AV.any, AV.any, AV.any, AV.any, AV.any,
      AV.any, AV.any, AV.any, AV.any, AV.any, AV.any, AV.any, AV.any, AV.any, AV.any, AV.any, AV.any, AV.any, AV.any, AV.any, AV.any, AV.any, AV.any, AV.any,
      AV.any, AV.any, AV.any, AV.any, AV.any, AV.any, AV.any, AV.any, AV.any, AV.any, AV.any, AV.any, AV.any, AV.any, AV.any],
  heap :=
    [AO.box
        [AV.str sh_0_0, AV.sl shCol lh_0_1, AV.int IntKind.i64 ih_0_2, AV.sl shInt lh_0_3,
          AV.sl shFor lh_0_4, AV.str sh_0_5, AV.int IntKind.i64 ih_0_6, AV.int IntKind.i64 ih_0_7, AV.str sh_0_8, AV.str sh_0_9,
          AV.sl Sh.expr lh_0_10]] }
theorem on10_4 (l1 : List (Sem shVal)) (l19 : List (Sem shVal)) (i20 : Int) (i21 : Int) (sh_0_0 : Sem Sh.str) (lh_0_1 : List (Sem shCol)) (ih_0_2 : Sem shInt) (lh_0_3 : List (Sem shInt)) (lh_0_4 : List (Sem shFor)) (sh_0_5 : Str) (ih_0_6 : Int) (ih_0_7 : Int) (sh_0_8 : Str) (sh_0_9 : Str) (lh_0_10 : List (Sem Sh.expr)) : run (env30) 0 kp10 (Func.results Tryz.f10).toList 400 (headK Tryz.f10 4) (s10_4 l1 l19 i20 i21 sh_0_0 lh_0_1 ih_0_2 lh_0_3 lh_0_4 sh_0_5 ih_0_6 ih_0_7 sh_0_8 sh_0_9 lh_0_10) =
  Tr.br (decide (i21 < i20))
  (Tr.chk (inB i21 l19.length)
    (Tr.br (!vMay (l19.getD i21.toNat (dflt shVal))) (Tr.ok (Leaf.ret (AV.int IntKind.i64 1) []))
      (Tr.ok
        (Leaf.head 4 (headK Tryz.f10 4)
          (s10_4 l1 l19 i20 (IntKind.i64.wrap (i21 + 1)) sh_0_0 lh_0_1 ih_0_2 lh_0_3 lh_0_4 sh_0_5 ih_0_6 ih_0_7 sh_0_8 sh_0_9 lh_0_10)))))
  (Tr.ok (Leaf.head 10 (headK Tryz.f10 10) (s10_10 l1 (↑l1.length : Int) 0 sh_0_0 lh_0_1 ih_0_2 lh_0_3 lh_0_4 sh_0_5 ih_0_6 ih_0_7 sh_0_8 sh_0_9 lh_0_10))) := by kernel_rfl
theorem on10_10 (l1 : List (Sem shVal)) (i30 : Int) (i31 : Int) (sh_0_0 : Sem Sh.str) (lh_0_1 : List (Sem shCol)) (ih_0_2 : Sem shInt) (lh_0_3 : List (Sem shInt)) (lh_0_4 : List (Sem shFor)) (sh_0_5 : Str) (ih_0_6 : Int) (ih_0_7 : Int) (sh_0_8 : Str) (sh_0_9 : Str) (lh_0_10 : List (Sem Sh.expr)) : run (env30) 0 kp10 (Func.results Tryz.f10).toList 400 (headK Tryz.f10 10) (s10_10 l1 i30 i31 sh_0_0 lh_0_1 ih_0_2 lh_0_3 lh_0_4 sh_0_5 ih_0_6 ih_0_7 sh_0_8 sh_0_9 lh_0_10) =
  Tr.br (decide (i31 < i30))
  (Tr.chk
    (inB i31 l1.length &&
      bif (l1.getD i31.toNat (dflt shVal)).fst == 0 then inB i31 lh_0_1.length else true)
    (Tr.br
      (bif (l1.getD i31.toNat (dflt shVal)).fst == 0 then
        (lh_0_1.getD i31.toNat (dflt shCol)).snd.snd
      else false)
      (Tr.ok (Leaf.ret (AV.int IntKind.i64 8) []))
      (Tr.chk
        (inB i31 l1.length &&
          bif (l1.getD i31.toNat (dflt shVal)).fst != 0 then inB i31 l1.length && inB i31 lh_0_1.length
          else true)
        (Tr.br
          (bif (l1.getD i31.toNat (dflt shVal)).fst != 0 then
            (l1.getD i31.toNat (dflt shVal)).fst !=
              (lh_0_1.getD i31.toNat (dflt shCol)).snd.fst
          else false)
          (Tr.ok (Leaf.ret (AV.int IntKind.i64 5) []))
          (Tr.ok
            (Leaf.head 10 (headK Tryz.f10 10)
              (s10_10 l1 i30 (IntKind.i64.wrap (i31 + 1)) sh_0_0 lh_0_1 ih_0_2 lh_0_3 lh_0_4 sh_0_5 ih_0_6 ih_0_7 sh_0_8 sh_0_9 lh_0_10)))))))
  (Tr.br
    ((eEval (ExprT.mk sh_0_5 (ih_0_6, ih_0_7, sh_0_8) sh_0_9 lh_0_10) lh_0_1 l1).fst == 3 &&
      ((eEval (ExprT.mk sh_0_5 (ih_0_6, ih_0_7, sh_0_8) sh_0_9 lh_0_10) lh_0_1 l1).snd.fst == 0 &&
        ((eEval (ExprT.mk sh_0_5 (ih_0_6, ih_0_7, sh_0_8) sh_0_9 lh_0_10) lh_0_1 l1).snd.snd == [] && true)))
    (Tr.ok (Leaf.ret (AV.int IntKind.i64 9) [])) (Tr.ok (Leaf.ret (AV.int IntKind.i64 0) []))) := by kernel_rfl
def tFits_10 (sh_0_0 : Sem Sh.str) (lh_0_1 : List (Sem shCol)) (ih_0_2 : Sem shInt) (lh_0_3 : List (Sem shInt)) (lh_0_4 : List (Sem shFor)) (sh_0_5 : Str) (ih_0_6 : Int) (ih_0_7 : Int) (sh_0_8 : Str) (sh_0_9 : Str) (lh_0_10 : List (Sem Sh.expr)) (l1 : List (Sem shVal)) : List (Sem shVal) → Int → Sem shInt
  | [], i31 => (if
    ((eEval (ExprT.mk sh_0_5 (ih_0_6, ih_0_7, sh_0_8) sh_0_9 lh_0_10) lh_0_1 l1).fst == 3 &&
        ((eEval (ExprT.mk sh_0_5 (ih_0_6, ih_0_7, sh_0_8) sh_0_9 lh_0_10) lh_0_1 l1).snd.fst == 0 &&
          ((eEval (ExprT.mk sh_0_5 (ih_0_6, ih_0_7, sh_0_8) sh_0_9 lh_0_10) lh_0_1 l1).snd.snd == [] && true))) =
      true then
  9
else 0)
  | x :: r, i31 => (if (bif x.fst == 0 then (lh_0_1.getD i31.toNat (dflt shCol)).snd.snd else false) = true then 8
else
  if (bif x.fst != 0 then x.fst != (lh_0_1.getD i31.toNat (dflt shCol)).snd.fst else false) = true then 5
  else tFits_10 sh_0_0 lh_0_1 ih_0_2 lh_0_3 lh_0_4 sh_0_5 ih_0_6 ih_0_7 sh_0_8 sh_0_9 lh_0_10 l1 r (i31 + 1))
def tFitsC_10 (sh_0_0 : Sem Sh.str) (lh_0_1 : List (Sem shCol)) (ih_0_2 : Sem shInt) (lh_0_3 : List (Sem shInt)) (lh_0_4 : List (Sem shFor)) (sh_0_5 : Str) (ih_0_6 : Int) (ih_0_7 : Int) (sh_0_8 : Str) (sh_0_9 : Str) (lh_0_10 : List (Sem Sh.expr)) (l1 : List (Sem shVal)) : List (Sem shVal) → Int → Bool
  | [], i31 => (true)
  | x :: r, i31 => (if (inB i31 l1.length && bif x.fst == 0 then inB i31 lh_0_1.length else true) = true then
  if (bif x.fst == 0 then (lh_0_1.getD i31.toNat (dflt shCol)).snd.snd else false) = true then true
  else
    if (inB i31 l1.length && bif x.fst != 0 then inB i31 l1.length && inB i31 lh_0_1.length else true) = true then
      if (bif x.fst != 0 then x.fst != (lh_0_1.getD i31.toNat (dflt shCol)).snd.fst else false) = true then true
      else tFitsC_10 sh_0_0 lh_0_1 ih_0_2 lh_0_3 lh_0_4 sh_0_5 ih_0_6 ih_0_7 sh_0_8 sh_0_9 lh_0_10 l1 r (i31 + 1)
    else false
else false)
theorem at10_10 {C : Ctx} (hC : ∀ id, C.ρ0 id = none) (sh_0_0 : Sem Sh.str) (lh_0_1 : List (Sem shCol)) (ih_0_2 : Sem shInt) (lh_0_3 : List (Sem shInt)) (lh_0_4 : List (Sem shFor)) (sh_0_5 : Str) (ih_0_6 : Int) (ih_0_7 : Int) (sh_0_8 : Str) (sh_0_9 : Str) (lh_0_10 : List (Sem Sh.expr)) (l1 : List (Sem shVal)) (hl : l1.length ≤ maxStr) : ∀ (m i : Nat), l1.length - i = m → i ≤ l1.length → tFitsC_10 sh_0_0 lh_0_1 ih_0_2 lh_0_3 lh_0_4 sh_0_5 ih_0_6 ih_0_7 sh_0_8 sh_0_9 lh_0_10 l1 (l1.drop i) i = true →
    Reach (env30) C 10 (headK Tryz.f10 10) (s10_10 l1 (l1.length : Int) (i : Int) sh_0_0 lh_0_1 ih_0_2 lh_0_3 lh_0_4 sh_0_5 ih_0_6 ih_0_7 sh_0_8 sh_0_9 lh_0_10) (fun r h => resOf h [shInt] r = some (tFits_10 sh_0_0 lh_0_1 ih_0_2 lh_0_3 lh_0_4 sh_0_5 ih_0_6 ih_0_7 sh_0_8 sh_0_9 lh_0_10 l1 (l1.drop i) i, ())) := by
  intro m
  induction m with
  | zero =>
    intro i hm hi hc
    obtain rfl : i = l1.length := by omega
    rw [List.drop_length] at hc ⊢
    refine reach_ok env30_all env30_mix (ok10) (fun id _ => hC id) (on10_10 _ _ _ _ _ _ _ _ _ _ _ _ _ _) ?_
    rw [tFitsC_10] at hc
    generalize hy : tFits_10 sh_0_0 lh_0_1 ih_0_2 lh_0_3 lh_0_4 sh_0_5 ih_0_6 ih_0_7 sh_0_8 sh_0_9 lh_0_10 l1 [] _ = y
    rw [tFits_10] at hy
    simp only [ExprT.eta, lt_dec', cond_false, Tr.val_brF]
    repeat' (first | (refine OptOk_br (fun hsp => ?_) (fun hsp => ?_) <;> first | (rw [if_pos hsp] at hy; try rw [if_pos hsp] at hc) | (rw [if_neg (ne_t hsp)] at hy; try rw [if_neg (ne_t hsp)] at hc)) | (have hgi := guard_ite hc; refine OptOk_chk hgi.1 ?_; replace hc := hgi.2; clear hgi) | refine OptOk_chkT ?_)
    all_goals (subst hy; first | (change Reach _ _ _ _ _ _; apply at10_4s hC <;> first | assumption | exact hc) | rfl)
  | succ m IH =>
    intro i hm hi hc
    have hlt : i < l1.length := by omega
    have IH := IH (i + 1)
    have hcast : ((i : Int) + 1) = ((i + 1 : Nat) : Int) := by omega
    have hwr := wrap_add i (by omega)
    rw [List.drop_eq_getElem_cons hlt] at hc ⊢
    refine reach_ok env30_all env30_mix (ok10) (fun id _ => hC id) (on10_10 _ _ _ _ _ _ _ _ _ _ _ _ _ _) ?_
    rw [tFitsC_10] at hc
    generalize hy : tFits_10 sh_0_0 lh_0_1 ih_0_2 lh_0_3 lh_0_4 sh_0_5 ih_0_6 ih_0_7 sh_0_8 sh_0_9 lh_0_10 l1 (l1[i] :: l1.drop (i + 1)) (i : Int) = y
    rw [tFits_10] at hy
    simp only [ExprT.eta, lt_dec hlt, inB_of hlt, getD_at l1 _ hlt, hwr, cond_true, Tr.val_brT, Tr.val_chkT]
    clear hwr
    try simp only [inB_of hlt] at hy
    simp only [hcast] at hy
    try simp only [inB_of hlt] at hc
    try simp only [hcast] at hc
    repeat' (first | (refine OptOk_br (fun hsp => ?_) (fun hsp => ?_) <;> first | (rw [if_pos hsp] at hy; try rw [if_pos hsp] at hc) | (rw [if_neg (ne_t hsp)] at hy; try rw [if_neg (ne_t hsp)] at hc)) | (have hgi := guard_ite hc; refine OptOk_chk hgi.1 ?_; replace hc := hgi.2; clear hgi) | refine OptOk_chkT ?_)
    all_goals (subst hy; first | (change Reach _ _ _ _ _ _; apply IH <;> first | omega | assumption) | (change Reach _ _ _ _ _ _; apply at10_4s hC <;> first | assumption | exact hc) | rfl)
theorem at10_10s {C : Ctx} (hC : ∀ id, C.ρ0 id = none) (sh_0_0 : Sem Sh.str) (lh_0_1 : List (Sem shCol)) (ih_0_2 : Sem shInt) (lh_0_3 : List (Sem shInt)) (lh_0_4 : List (Sem shFor)) (sh_0_5 : Str) (ih_0_6 : Int) (ih_0_7 : Int) (sh_0_8 : Str) (sh_0_9 : Str) (lh_0_10 : List (Sem Sh.expr)) (l1 : List (Sem shVal)) (hc : tFitsC_10 sh_0_0 lh_0_1 ih_0_2 lh_0_3 lh_0_4 sh_0_5 ih_0_6 ih_0_7 sh_0_8 sh_0_9 lh_0_10 l1 l1 0 = true) :
    Reach (env30) C 10 (headK Tryz.f10 10) (s10_10 l1 (l1.length : Int) 0 sh_0_0 lh_0_1 ih_0_2 lh_0_3 lh_0_4 sh_0_5 ih_0_6 ih_0_7 sh_0_8 sh_0_9 lh_0_10) (fun r h => resOf h [shInt] r = some (tFits_10 sh_0_0 lh_0_1 ih_0_2 lh_0_3 lh_0_4 sh_0_5 ih_0_6 ih_0_7 sh_0_8 sh_0_9 lh_0_10 l1 l1 0, ())) :=
  Reach.len 1 (shVal) l1 rfl fun hl => at10_10 hC sh_0_0 lh_0_1 ih_0_2 lh_0_3 lh_0_4 sh_0_5 ih_0_6 ih_0_7 sh_0_8 sh_0_9 lh_0_10 l1 hl _ 0 rfl (Nat.zero_le _) hc
def tFits_4 (l1 : List (Sem shVal)) (sh_0_0 : Sem Sh.str) (lh_0_1 : List (Sem shCol)) (ih_0_2 : Sem shInt) (lh_0_3 : List (Sem shInt)) (lh_0_4 : List (Sem shFor)) (sh_0_5 : Str) (ih_0_6 : Int) (ih_0_7 : Int) (sh_0_8 : Str) (sh_0_9 : Str) (lh_0_10 : List (Sem Sh.expr)) : List (Sem shVal) → Int → Sem shInt
  | [], i21 => (tFits_10 sh_0_0 lh_0_1 ih_0_2 lh_0_3 lh_0_4 sh_0_5 ih_0_6 ih_0_7 sh_0_8 sh_0_9 lh_0_10 l1 l1 0)
  | x :: r, i21 => (if (!vMay x) = true then 1 else tFits_4 l1 sh_0_0 lh_0_1 ih_0_2 lh_0_3 lh_0_4 sh_0_5 ih_0_6 ih_0_7 sh_0_8 sh_0_9 lh_0_10 r (i21 + 1))
def tFitsC_4 (l1 : List (Sem shVal)) (sh_0_0 : Sem Sh.str) (lh_0_1 : List (Sem shCol)) (ih_0_2 : Sem shInt) (lh_0_3 : List (Sem shInt)) (lh_0_4 : List (Sem shFor)) (sh_0_5 : Str) (ih_0_6 : Int) (ih_0_7 : Int) (sh_0_8 : Str) (sh_0_9 : Str) (lh_0_10 : List (Sem Sh.expr)) : List (Sem shVal) → Int → Bool
  | [], i21 => (tFitsC_10 sh_0_0 lh_0_1 ih_0_2 lh_0_3 lh_0_4 sh_0_5 ih_0_6 ih_0_7 sh_0_8 sh_0_9 lh_0_10 l1 l1 0)
  | x :: r, i21 => (if (!vMay x) = true then true else tFitsC_4 l1 sh_0_0 lh_0_1 ih_0_2 lh_0_3 lh_0_4 sh_0_5 ih_0_6 ih_0_7 sh_0_8 sh_0_9 lh_0_10 r (i21 + 1))
theorem at10_4 {C : Ctx} (hC : ∀ id, C.ρ0 id = none) (l1 : List (Sem shVal)) (sh_0_0 : Sem Sh.str) (lh_0_1 : List (Sem shCol)) (ih_0_2 : Sem shInt) (lh_0_3 : List (Sem shInt)) (lh_0_4 : List (Sem shFor)) (sh_0_5 : Str) (ih_0_6 : Int) (ih_0_7 : Int) (sh_0_8 : Str) (sh_0_9 : Str) (lh_0_10 : List (Sem Sh.expr)) (l19 : List (Sem shVal)) (hl : l19.length ≤ maxStr) : ∀ (m i : Nat), l19.length - i = m → i ≤ l19.length → tFitsC_4 l1 sh_0_0 lh_0_1 ih_0_2 lh_0_3 lh_0_4 sh_0_5 ih_0_6 ih_0_7 sh_0_8 sh_0_9 lh_0_10 (l19.drop i) i = true →
    Reach (env30) C 10 (headK Tryz.f10 4) (s10_4 l1 l19 (l19.length : Int) (i : Int) sh_0_0 lh_0_1 ih_0_2 lh_0_3 lh_0_4 sh_0_5 ih_0_6 ih_0_7 sh_0_8 sh_0_9 lh_0_10) (fun r h => resOf h [shInt] r = some (tFits_4 l1 sh_0_0 lh_0_1 ih_0_2 lh_0_3 lh_0_4 sh_0_5 ih_0_6 ih_0_7 sh_0_8 sh_0_9 lh_0_10 (l19.drop i) i, ())) := by
  intro m
  induction m with
  | zero =>
    intro i hm hi hc
    obtain rfl : i = l19.length := by omega
    rw [List.drop_length] at hc ⊢
    refine reach_ok env30_all env30_mix (ok10) (fun id _ => hC id) (on10_4 _ _ _ _ _ _ _ _ _ _ _ _ _ _ _) ?_
    rw [tFitsC_4] at hc
    generalize hy : tFits_4 l1 sh_0_0 lh_0_1 ih_0_2 lh_0_3 lh_0_4 sh_0_5 ih_0_6 ih_0_7 sh_0_8 sh_0_9 lh_0_10 [] _ = y
    rw [tFits_4] at hy
    simp only [ExprT.eta, lt_dec', cond_false, Tr.val_brF]
    repeat' (first | (refine OptOk_br (fun hsp => ?_) (fun hsp => ?_) <;> first | (rw [if_pos hsp] at hy; try rw [if_pos hsp] at hc) | (rw [if_neg (ne_t hsp)] at hy; try rw [if_neg (ne_t hsp)] at hc)) | (have hgi := guard_ite hc; refine OptOk_chk hgi.1 ?_; replace hc := hgi.2; clear hgi) | refine OptOk_chkT ?_)
    all_goals (subst hy; first | (change Reach _ _ _ _ _ _; apply at10_10s hC <;> first | assumption | exact hc) | rfl)
  | succ m IH =>
    intro i hm hi hc
    have hlt : i < l19.length := by omega
    have IH := IH (i + 1)
    have hcast : ((i : Int) + 1) = ((i + 1 : Nat) : Int) := by omega
    have hwr := wrap_add i (by omega)
    rw [List.drop_eq_getElem_cons hlt] at hc ⊢
    refine reach_ok env30_all env30_mix (ok10) (fun id _ => hC id) (on10_4 _ _ _ _ _ _ _ _ _ _ _ _ _ _ _) ?_
    rw [tFitsC_4] at hc
    generalize hy : tFits_4 l1 sh_0_0 lh_0_1 ih_0_2 lh_0_3 lh_0_4 sh_0_5 ih_0_6 ih_0_7 sh_0_8 sh_0_9 lh_0_10 (l19[i] :: l19.drop (i + 1)) (i : Int) = y
    rw [tFits_4] at hy
    simp only [ExprT.eta, lt_dec hlt, inB_of hlt, getD_at l19 _ hlt, hwr, cond_true, Tr.val_brT, Tr.val_chkT]
    clear hwr
    try simp only [inB_of hlt] at hy
    simp only [hcast] at hy
    try simp only [inB_of hlt] at hc
    try simp only [hcast] at hc
    repeat' (first | (refine OptOk_br (fun hsp => ?_) (fun hsp => ?_) <;> first | (rw [if_pos hsp] at hy; try rw [if_pos hsp] at hc) | (rw [if_neg (ne_t hsp)] at hy; try rw [if_neg (ne_t hsp)] at hc)) | (have hgi := guard_ite hc; refine OptOk_chk hgi.1 ?_; replace hc := hgi.2; clear hgi) | refine OptOk_chkT ?_)
    all_goals (subst hy; first | (change Reach _ _ _ _ _ _; apply IH <;> first | omega | assumption) | (change Reach _ _ _ _ _ _; apply at10_10s hC <;> first | assumption | exact hc) | rfl)
theorem at10_4s {C : Ctx} (hC : ∀ id, C.ρ0 id = none) (l1 : List (Sem shVal)) (sh_0_0 : Sem Sh.str) (lh_0_1 : List (Sem shCol)) (ih_0_2 : Sem shInt) (lh_0_3 : List (Sem shInt)) (lh_0_4 : List (Sem shFor)) (sh_0_5 : Str) (ih_0_6 : Int) (ih_0_7 : Int) (sh_0_8 : Str) (sh_0_9 : Str) (lh_0_10 : List (Sem Sh.expr)) (l19 : List (Sem shVal)) (hc : tFitsC_4 l1 sh_0_0 lh_0_1 ih_0_2 lh_0_3 lh_0_4 sh_0_5 ih_0_6 ih_0_7 sh_0_8 sh_0_9 lh_0_10 l19 0 = true) :
    Reach (env30) C 10 (headK Tryz.f10 4) (s10_4 l1 l19 (l19.length : Int) 0 sh_0_0 lh_0_1 ih_0_2 lh_0_3 lh_0_4 sh_0_5 ih_0_6 ih_0_7 sh_0_8 sh_0_9 lh_0_10) (fun r h => resOf h [shInt] r = some (tFits_4 l1 sh_0_0 lh_0_1 ih_0_2 lh_0_3 lh_0_4 sh_0_5 ih_0_6 ih_0_7 sh_0_8 sh_0_9 lh_0_10 l19 0, ())) :=
  Reach.len 19 (shVal) l19 rfl fun hl => at10_4 hC l1 sh_0_0 lh_0_1 ih_0_2 lh_0_3 lh_0_4 sh_0_5 ih_0_6 ih_0_7 sh_0_8 sh_0_9 lh_0_10 l19 hl _ 0 rfl (Nat.zero_le _) hc
def tFits (x0 : Sem shTable) (x1 : Sem shVal.sl) : Sem shInt :=
  (if (bif !tMay x0 then true else (↑(List.length x1) : Int) != (↑(List.length x0.snd.fst) : Int)) = true then 1
else
  tFits_4 x1 x0.fst x0.snd.fst x0.snd.snd.fst x0.snd.snd.snd.fst x0.snd.snd.snd.snd.fst (ExprT.op x0.snd.snd.snd.snd.snd) (ExprT.v x0.snd.snd.snd.snd.snd).fst
    (ExprT.v x0.snd.snd.snd.snd.snd).snd.fst (ExprT.v x0.snd.snd.snd.snd.snd).snd.snd (ExprT.s x0.snd.snd.snd.snd.snd) (ExprT.l x0.snd.snd.snd.snd.snd) x1 0)
def tFitsC (x0 : Sem shTable) (x1 : Sem shVal.sl) : Bool :=
  (if (bif !tMay x0 then true else (↑(List.length x1) : Int) != (↑(List.length x0.snd.fst) : Int)) = true then true
else
  tFitsC_4 x1 x0.fst x0.snd.fst x0.snd.snd.fst x0.snd.snd.snd.fst x0.snd.snd.snd.snd.fst (ExprT.op x0.snd.snd.snd.snd.snd) (ExprT.v x0.snd.snd.snd.snd.snd).fst
    (ExprT.v x0.snd.snd.snd.snd.snd).snd.fst (ExprT.v x0.snd.snd.snd.snd.snd).snd.snd (ExprT.s x0.snd.snd.snd.snd.snd) (ExprT.l x0.snd.snd.snd.snd.snd) x1 0)
def F10 : FSem := plainC [shTable, shVal.sl] [shInt] (fun x => tFitsC x.1 x.2.1) fun x => (tFits x.1 x.2.1, ())
theorem FOk10 : FOk (env30).P (env30).gl 10 F10 := by
  refine FOk_plainC (ok10) fun x hc C hC => ?_
  unfold tFitsC at hc
  refine reach_ok env30_all env30_mix (ok10) (fun id _ => hC id) (go10 x.1 x.2.1) ?_
  generalize hy : tFits x.1 x.2.1 = y
  unfold tFits at hy
  try simp only [ExprT.eta]
  repeat' (first | (refine OptOk_br (fun hsp => ?_) (fun hsp => ?_) <;> first | (rw [if_pos hsp] at hy; try rw [if_pos hsp] at hc) | (rw [if_neg (ne_t hsp)] at hy; try rw [if_neg (ne_t hsp)] at hc)) | (have hgi := guard_ite hc; refine OptOk_chk hgi.1 ?_; replace hc := hgi.2; clear hgi) | refine OptOk_chkT ?_)
  all_goals (subst hy; first | (change Reach _ _ _ _ _ _; apply at10_4s hC <;> first | assumption | exact hc) | (change Reach _ _ _ _ _ _; apply at10_10s hC <;> first | assumption | exact hc) | rfl)

noncomputable def env31 : Env := (env30.add 10 F10)
theorem env31_all : EnvAll env31 := (EnvAll.addS env30_all (SameE.refl env30) FOk10)
theorem env31_mix : env31.P.follows .mixedOrders = true := (mix_add env30_mix _ _)
end Cad

namespace Cad
open Go Go.Proofs

theorem tFitsC_10_true {a0 a2 a3 a4 a5 a6 a7 a8 a9 b0} {cols : List (Sem shCol)} {row : List (Sem shVal)} (hl : row.length = cols.length) : ∀ (l : List (Sem shVal)) (i : Nat), i + l.length = row.length → tFitsC_10 a0 cols a2 a3 a4 a5 a6 a7 a8 a9 b0 row l i = true
  | [], i, _ => rfl
  | x :: r, i, h => by
    have h1 : i < row.length := by simp at h; omega
    have h2 : i < cols.length := by omega
    have ih := tFitsC_10_true (a0 := a0) (a2 := a2) (a3 := a3) (a4 := a4) (a5 := a5) (a6 := a6) (a7 := a7) (a8 := a8) (a9 := a9) (b0 := b0) hl r (i + 1) (by simp at h; omega)
    rw [tFitsC_10]
    simp only [inB_of h1, inB_of h2]
    rw [if_pos (by cases x.fst == 0 <;> rfl)]
    split
    · rfl
    · rw [if_pos (by cases x.fst != 0 <;> rfl)]
      split
      · rfl
      · exact ih
theorem tFitsC_4_true {a0 a2 a3 a4 a5 a6 a7 a8 a9 b0} {cols : List (Sem shCol)} {row : List (Sem shVal)} (hl : row.length = cols.length) : ∀ (l : List (Sem shVal)) (i : Int), tFitsC_4 row a0 cols a2 a3 a4 a5 a6 a7 a8 a9 b0 l i = true
  | [], i => by rw [tFitsC_4]; exact tFitsC_10_true hl row 0 (by simp)
  | x :: r, i => by
    rw [tFitsC_4]
    split
    · rfl
    · exact tFitsC_4_true hl r (i + 1)
theorem tFitsC_true (t : Sem shTable) (row : List (Sem shVal)) : tFitsC t row = true := by
  unfold tFitsC
  split
  · rfl
  · rename_i h
    refine tFitsC_4_true ?_ _ _
    cases hm : tMay t
    · rw [hm] at h; simp at h
    · rw [hm] at h
      simp at h
      omega
def F10t : FSem := plainT [shTable, shVal.sl] [shInt] fun x => (tFits x.1 x.2.1, ())
theorem FOk10t : FOk env31.P env31.gl 10 F10t := FOk_tot FOk10 fun x => tFitsC_true x.1 x.2.1

noncomputable def env32 : Env := (env31.add 10 F10t)
theorem env32_all : EnvAll env32 := (EnvAll.addS env31_all (SameE.refl env31) FOk10t)
theorem env32_mix : env32.P.follows .mixedOrders = true := (mix_add env31_mix _ _)
end Cad

namespace Cad
open Go Go.Proofs

open Go.RowKit Go.Lib in
theorem FOk63C : FOk env32.P env32.gl 63 (plainC [.str, .str] [.bool] (fun x => x.2.1.length == 1) fun x => (decide (0 ≤ Lib.indexByte x.1 (x.2.1.headD 0)), ())) := by
  refine FOk_calls ⟨Tryz.f63, by kernel_rfl, by kernel_rfl, by kernel_rfl⟩ fun x h0 res hx => ?_
  unfold plainCG at hx
  split at hx
  · simp only [Tr.val] at hx
    split at hx
    · rename_i hc
      simp only [Option.some.injEq] at hx
      subst hx
      obtain ⟨s, sub, u⟩ := x
      have hc : (sub.length == 1) = true := hc
      match sub, hc with
      | [c], _ =>
        intro C w U ρ vals _ hr hH hnew hr0 hW
        have hl := hr.len
        match vals, hl, hr with
        | [v1, v2], _, hr =>
          have h1 := hr.rv 0 (.str s) v1 rfl rfl
          have h2 := hr.rv 1 (.str [c]) v2 rfl rfl
          cases h1 with
          | str _ hs =>
          cases h2 with
          | str _ hs2 =>
          refine (Tryz.strings_Contains_one ⟨s.toArray⟩ c w).mono ?_
          rintro e w' ⟨rfl, rfl⟩
          exact post_below hH hnew hr0 hW (Below.refl _ _) (.bool _)
    · cases hx
  · simp at hx
def F63 : FSem := plainC [.str, .str] [.bool] (fun x => x.2.1.length == 1) fun x => (decide (0 ≤ Lib.indexByte x.1 (x.2.1.headD 0)), ())
theorem FOk63 : FOk env32.P env32.gl 63 F63 := FOk63C

def F89 : FSem := plainC [.str] [.str] (fun x => decide (x.1.length ≤ 140737488355328) && x.1.all fun b => decide (b.toNat < 128)) fun x => (Lib.toUpperA x.1, ())
open Go.RowKit Go.Lib in
theorem FOk89 : FOk env32.P env32.gl 89 F89 := by
  refine FOk_calls ⟨Tryz.f89, by kernel_rfl, by kernel_rfl, by kernel_rfl⟩ fun x h0 res hx => ?_
  unfold plainCG at hx
  split at hx
  · simp only [Tr.val] at hx
    split at hx
    · rename_i hc
      simp only [Option.some.injEq] at hx
      subst hx
      obtain ⟨s, u⟩ := x
      have hc : (decide (s.length ≤ 140737488355328) && s.all fun b => decide (b.toNat < 128)) = true := hc
      simp only [Bool.and_eq_true, decide_eq_true_eq] at hc
      obtain ⟨hc0, hc⟩ := hc
      intro C w U ρ vals _ hr hH hnew hr0 hW
      have hl := hr.len
      match vals, hl, hr with
      | [v1], _, hr =>
        have h1 := hr.rv 0 (.str s) v1 rfl rfl
        cases h1 with
        | str _ hs =>
        refine (Tryz.strings_ToUpper_ascii ⟨s.toArray⟩ w (by simpa [ByteArray.size] using hc0) (fun j b hj => ?_)).mono ?_
        · have hm : b ∈ s := List.mem_of_getElem? (by simpa using hj)
          simp only [List.all_eq_true, decide_eq_true_eq] at hc
          exact hc b hm
        · rintro e w' ⟨rfl, hb⟩
          have hbb := post_below (r := .str (Lib.toUpperA s)) hH hnew hr0 hW hb (.str _ (by simpa [Lib.toUpperA] using hs))
          exact hbb
    · cases hx
  · simp at hx

/-- Two digits at the most. -/
def dec2 (n : Nat) : Str := if n < 10 then [UInt8.ofNat (48 + n)] else [UInt8.ofNat (48 + n / 10), UInt8.ofNat (48 + n % 10)]
theorem dec2_ok (n : Nat) (h : n < 100) : Lib.decDigits n = dec2 n := by
  unfold dec2
  rw [Lib.decDigits]
  split
  · rfl
  · rw [Lib.decDigits, dif_pos (by omega)]
    rfl
def F125 : FSem := plainC [shInt, shInt] [.str] (fun x => decide (0 ≤ x.1) && (decide (x.1 < 100) && x.2.1 == 10)) fun x => (dec2 x.1.toNat, ())
open Go.RowKit Go.Lib in
theorem FOk125 : FOk env32.P env32.gl 125 F125 := by
  refine FOk_calls ⟨Tryz.f125, by kernel_rfl, by kernel_rfl, by kernel_rfl⟩ fun x h0 res hx => ?_
  unfold plainCG at hx
  split at hx
  · simp only [Tr.val] at hx
    split at hx
    · rename_i hc
      simp only [Option.some.injEq] at hx
      subst hx
      obtain ⟨n, b, u⟩ := x
      have hc : (decide (0 ≤ n) && (decide (n < 100) && b == 10)) = true := hc
      simp only [Bool.and_eq_true, decide_eq_true_eq, beq_iff_eq] at hc
      obtain ⟨hn0, hn1, rfl⟩ := hc
      obtain ⟨k, rfl⟩ := Int.eq_ofNat_of_zero_le hn0
      have hk : k < 100 := by
        have h9 : (k : Int) < 100 := hn1
        omega
      intro C w U ρ vals _ hr hH hnew hr0 hW
      have hl := hr.len
      match vals, hl, hr with
      | [v1, v2], _, hr =>
        have h1 := hr.rv 0 (.int .i64 (k : Int)) v1 rfl rfl
        have h2 := hr.rv 1 (.int .i64 10) v2 rfl rfl
        cases h1
        cases h2
        refine (Tryz.strconv_FormatInt_10_small k hk w).mono ?_
        rintro e w' ⟨rfl, rfl⟩
        rw [dec2_ok k hk]
        refine post_below (r := .str (dec2 k)) hH hnew hr0 hW (Below.refl _ _) (.str _ ?_)
        unfold dec2
        split <;> simp [maxStr]
    · cases hx
  · simp at hx

def F124 : FSem := plainC [.sl .str, .str] [.str] (fun x => decide (x.1.length ≤ 140737488355328) && decide ((Lib.join x.1 x.2.1).length ≤ 140737488355328)) fun x => (Lib.join x.1 x.2.1, ())
open Go.RowKit Go.Lib in
theorem FOk124 : FOk env32.P env32.gl 124 F124 := by
  refine FOk_calls ⟨Tryz.f124, by kernel_rfl, by kernel_rfl, by kernel_rfl⟩ fun x h0 res hx => ?_
  unfold plainCG at hx
  split at hx
  · simp only [Tr.val] at hx
    split at hx
    · rename_i hc
      simp only [Option.some.injEq] at hx
      subst hx
      obtain ⟨l, sep, u⟩ := x
      have hc : (decide (l.length ≤ 140737488355328) && decide ((Lib.join l sep).length ≤ 140737488355328)) = true := hc
      simp only [Bool.and_eq_true, decide_eq_true_eq] at hc
      obtain ⟨hc0, hc⟩ := hc
      have hms : maxStr = 9223372036854775807 := rfl
      intro C w U ρ vals _ hr hH hnew hr0 hW
      have hl := hr.len
      match vals, hl, hr with
      | [v1, v2], _, hr =>
        have h1 := hr.rv 0 (.sl .str l) v1 rfl rfl
        have h2 := hr.rv 1 (.str sep) v2 rfl rfl
        cases h2 with
        | str _ hs2 =>
        generalize hl0 : l = l0 at h1 hc hc0 hr
        cases h1 with
        | sl0 _ a c =>
          subst hl0
          refine (Tryz.strings_Join_none a c ⟨sep.toArray⟩ w).mono ?_
          rintro e w' ⟨rfl, rfl⟩
          exact post_below (r := .str []) hH hnew hr0 hW (Below.refl _ _) (.str _ (by simp))
        | sl _ _ b o c vals' hcc hm hb hU hcell hrr =>
          subst hl0
          have hx : ∀ (j : Nat) x, (l.map fun s => (⟨s.toArray⟩ : ByteArray))[j]? = some x → w.cell? ⟨b, o + j, none⟩ = some (.string x) := by
            intro j x hj
            simp only [List.getElem?_map, Option.map_eq_some_iff] at hj
            obtain ⟨s, hs, rfl⟩ := hj
            obtain ⟨hlt, rfl⟩ := List.getElem?_eq_some_iff.1 hs
            have h3 := hcell j 0 hlt (by simp [Sh.size])
            have h4 := hrr j hlt 0 (.str l[j]) rfl
            simp only [Sh.size, Nat.mul_one, Nat.add_zero] at h3
            rw [h3]
            generalize vals' j 0 = vv at h4
            cases h4
            rfl
          have hmap : (l.map fun s => (⟨s.toArray⟩ : ByteArray)).map (·.data.toList) = l := by
            simp [List.map_map, Function.comp_def]
          have hj := Tryz.strings_Join b o c (l.map fun s => (⟨s.toArray⟩ : ByteArray)) ⟨sep.toArray⟩ w hx hb (by simpa using hc0) (by simpa using hcc) (by rw [hmap]; exact hc)
          rw [hmap] at hj
          simp only [List.length_map] at hj
          refine hj.mono ?_
          rintro e w' ⟨rfl, hbel⟩
          exact post_below (r := .str (Lib.join l sep)) hH hnew hr0 hW hbel (.str _ (by omega))
    · cases hx
  · simp at hx

noncomputable def env33 : Env := ((((env32.add 63 F63).add 89 F89).add 125 F125).add 124 F124)
theorem env33_all : EnvAll env33 := (EnvAll.addS (EnvAll.addS (EnvAll.addS (EnvAll.addS env32_all (SameE.refl env32) FOk63) ((SameE.refl env32).add _ _) FOk89) (((SameE.refl env32).add _ _).add _ _) FOk125) ((((SameE.refl env32).add _ _).add _ _).add _ _) FOk124)
theorem env33_mix : env33.P.follows .mixedOrders = true := (mix_add (mix_add (mix_add (mix_add env32_mix _ _) _ _) _ _) _ _)
end Cad

