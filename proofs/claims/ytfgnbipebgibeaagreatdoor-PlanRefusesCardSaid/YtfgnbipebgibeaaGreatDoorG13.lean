/- Tables with rows: has, check. Bases: bound. Bases: check. Plans: places. Plans: what is there. Functions as the machine goes through them, round by round. Plans: what is wrong with a target. Plans: sources. Plans: sources, who refers. Plans: sources, who refers. Rounds with an invariant; what a variable's cells say. Few tables, few statements. Few bases. Plans: sources. Plans: the columns that are named. -/
import Derived.Test.YtfgnbipebgibeaaGreatDoorG12
namespace Cad
open Go Go.Proofs
set_option maxHeartbeats 4000000

abbrev kp124p : Nat → Keep := fun _ => { }
theorem ok124p : fnChk (env49).P 124 Tryz.f124 3 := by refine ⟨?_, ?_, ?_, ?_⟩ <;> kernel_rfl
theorem go124p (x0 : Sem shRel) (x1 : Sem shInt) (x2 : Sem shVal) : run (env49) 0 kp124p (Func.results Tryz.f124).toList 400 (bodyOf Tryz.f124) (initSt (Func.ntmps Tryz.f124) [datum shRel x0, datum shInt x1, datum shVal x2] []) = Tr.ok (Leaf.ret (AV.bool (decide (ixFrom (fun x => rHolds x x1 x2) x0.2 0 ≥ 0))) []) := by kernel_rfl
def rHas (x0 : Sem shRel) (x1 : Sem shInt) (x2 : Sem shVal) : Sem Sh.bool := (decide (ixFrom (fun x => rHolds x x1 x2) x0.2 0 ≥ 0))
def F124p : FSem := plainT [shRel, shInt, shVal] [Sh.bool] fun x => (rHas x.1 x.2.1 x.2.2.1, ())
theorem FOk124p : FOk (env49).P (env49).gl 124 F124p := by
  refine FOk_plainT (ok124p) fun x C hC => ?_
  refine reach_ok env49_all env49_mix (ok124p) (fun id _ => hC id) (go124p x.1 x.2.1 x.2.2.1) ?_
  generalize hy : rHas x.1 x.2.1 x.2.2.1 = y
  unfold rHas at hy
  try simp only [ExprT.eta, etaE_eq]
  repeat' (first | with_reducible refine obr1 hy (fun _ hy => ?_) (fun _ hy => ?_) | with_reducible refine OptOk_chkT ?_)
  all_goals first | (cases hc; done) | (subst hy; first | rfl)

abbrev kp71p : Nat → Keep := fun j => if j = 6 then { slots := [1, 18, 19, 20] } else if j = 15 then { slots := [1, 39, 40, 41] } else if j = 21 then { slots := [1, 8] } else { }
abbrev s71p_6 (l18 : List (Sem shVal.sl)) (i19 : Int) (i20 : Int) (ja0 : TS) (ja1 : LC) (ja2 : Sem shInt) (ja3 : LI) (ja4 : LF) (ja5 : Str) (ja6 : Int) (ja7 : Int) (ja8 : Str) (ja9 : Str) (ja10 : LX) (ja11 : List (Sem shVal.sl)) : St := { tmps := [ny, AV.ptr 0 0, ny, ny, ny, ny, ny, ny, ny, ny, ny, ny, ny, ny, ny, ny, ny, ny, AV.sl shVal.sl l18, ai i19, ai i20, ny, ny, ny, ny, ny, ny, ny, ny, ny, ny, ny, ny, ny, ny, ny, ny, ny, ny, ny, ny, ny, ny, ny, ny, ny, ny, ny, ny, ny, ny, ny, ny, ny, ny, ny, ny, ny, ny, ny, ny, ny, ny, ny, ny, ny, ny, ny, ny, ny, ny, ny, ny, ny, ny, ny, ny, ny, ny], heap := [AO.box [AV.str ja0, AV.sl shCol ja1, ai ja2, AV.sl shInt ja3, AV.sl shFor ja4, AV.str ja5, ai ja6, ai ja7, AV.str ja8, AV.str ja9, AV.sl Sh.expr ja10, AV.sl shVal.sl ja11]] }
theorem ok71p : fnChk (env49).P 71 Tryz.f71 1 := by refine ⟨?_, ?_, ?_, ?_⟩ <;> kernel_rfl
theorem go71p (x0 : Sem shRel) : run (env49) 0 kp71p (Func.results Tryz.f71).toList 400 (bodyOf Tryz.f71) (initSt (Func.ntmps Tryz.f71) [datum shRel x0] []) = Tr.br (!tMay (x0.1.1, x0.1.2.1, x0.1.2.2.1, x0.1.2.2.2.1, x0.1.2.2.2.2.1, etaE x0.1.2.2.2.2.2)) (Tr.ok (Leaf.ret (ai 1) [])) (Tr.br (decide ((↑(List.length x0.2) : Int) > 200)) (Tr.ok (Leaf.ret (ai 13) [])) (Tr.ok (Leaf.head 6 (headK Tryz.f71 6) (s71p_6 x0.2 (↑(List.length x0.2) : Int) 0 x0.1.1 x0.1.2.1 x0.1.2.2.1 x0.1.2.2.2.1 x0.1.2.2.2.2.1 (ExprT.op x0.1.2.2.2.2.2) (ExprT.v x0.1.2.2.2.2.2).1 (ExprT.v x0.1.2.2.2.2.2).2.1 (ExprT.v x0.1.2.2.2.2.2).2.2 (ExprT.s x0.1.2.2.2.2.2) (ExprT.l x0.1.2.2.2.2.2) x0.2)))) := by kernel_rfl
abbrev s71p_15 (l39 : LI) (i40 : Int) (i41 : Int) (ja0 : TS) (ja1 : LC) (ja2 : Sem shInt) (ja3 : LI) (ja4 : LF) (ja5 : Str) (ja6 : Int) (ja7 : Int) (ja8 : Str) (ja9 : Str) (ja10 : LX) (ja11 : List (Sem shVal.sl)) : St := { tmps := [ny, AV.ptr 0 0, ny, ny, ny, ny, ny, ny, ny, ny, ny, ny, ny, ny, ny, ny, ny, ny, ny, ny, ny, ny, ny, ny, ny, ny, ny, ny, ny, ny, ny, ny, ny, ny, ny, ny, ny, ny, ny, AV.sl shInt l39, ai i40, ai i41, ny, ny, ny, ny, ny, ny, ny, ny, ny, ny, ny, ny, ny, ny, ny, ny, ny, ny, ny, ny, ny, ny, ny, ny, ny, ny, ny, ny, ny, ny, ny, ny, ny, ny, ny, ny, ny], heap := [AO.box [AV.str ja0, AV.sl shCol ja1, ai ja2, AV.sl shInt ja3, AV.sl shFor ja4, AV.str ja5, ai ja6, ai ja7, AV.str ja8, AV.str ja9, AV.sl Sh.expr ja10, AV.sl shVal.sl ja11]] }
theorem on71p_6 (l18 : List (Sem shVal.sl)) (i19 : Int) (i20 : Int) (ja0 : TS) (ja1 : LC) (ja2 : Sem shInt) (ja3 : LI) (ja4 : LF) (ja5 : Str) (ja6 : Int) (ja7 : Int) (ja8 : Str) (ja9 : Str) (ja10 : LX) (ja11 : List (Sem shVal.sl)) : run (env49) 0 kp71p (Func.results Tryz.f71).toList 400 (headK Tryz.f71 6) (s71p_6 l18 i19 i20 ja0 ja1 ja2 ja3 ja4 ja5 ja6 ja7 ja8 ja9 ja10 ja11) = Tr.br (decide (i20 < i19)) (Tr.chk (inB i20 l18.length) (Tr.br (tFits (ja0, ja1, ja2, ja3, ja4, ExprT.mk ja5 (ja6, ja7, ja8) ja9 ja10) (l18.getD i20.toNat (dflt shVal.sl)) != 0) (Tr.ok (Leaf.ret (AV.int IntKind.i64 (tFits (ja0, ja1, ja2, ja3, ja4, ExprT.mk ja5 (ja6, ja7, ja8) ja9 ja10) (l18.getD i20.toNat (dflt shVal.sl)))) [])) (Tr.ok (Leaf.head 6 (headK Tryz.f71 6) (s71p_6 l18 i19 (IntKind.i64.wrap (i20 + 1)) ja0 ja1 ja2 ja3 ja4 ja5 ja6 ja7 ja8 ja9 ja10 ja11))))) (Tr.chk (rTwiceC ((ja0, ja1, ja2, ja3, ja4, ExprT.mk ja5 (ja6, ja7, ja8) ja9 ja10), ja11) ja2) (Tr.br (rTwice ((ja0, ja1, ja2, ja3, ja4, ExprT.mk ja5 (ja6, ja7, ja8) ja9 ja10), ja11) ja2) (Tr.ok (Leaf.ret (ai 7) [])) (Tr.ok (Leaf.head 15 (headK Tryz.f71 15) (s71p_15 ja3 (↑ja3.length : Int) 0 ja0 ja1 ja2 ja3 ja4 ja5 ja6 ja7 ja8 ja9 ja10 ja11))))) := by kernel_rfl
abbrev s71p_21 (i8 : Int) (ja0 : TS) (ja1 : LC) (ja2 : Sem shInt) (ja3 : LI) (ja4 : LF) (ja5 : Str) (ja6 : Int) (ja7 : Int) (ja8 : Str) (ja9 : Str) (ja10 : LX) (ja11 : List (Sem shVal.sl)) : St := { tmps := [ny, AV.ptr 0 0, ny, ny, ny, ny, ny, ny, ai i8, ny, ny, ny, ny, ny, ny, ny, ny, ny, ny, ny, ny, ny, ny, ny, ny, ny, ny, ny, ny, ny, ny, ny, ny, ny, ny, ny, ny, ny, ny, ny, ny, ny, ny, ny, ny, ny, ny, ny, ny, ny, ny, ny, ny, ny, ny, ny, ny, ny, ny, ny, ny, ny, ny, ny, ny, ny, ny, ny, ny, ny, ny, ny, ny, ny, ny, ny, ny, ny, ny], heap := [AO.box [AV.str ja0, AV.sl shCol ja1, ai ja2, AV.sl shInt ja3, AV.sl shFor ja4, AV.str ja5, ai ja6, ai ja7, AV.str ja8, AV.str ja9, AV.sl Sh.expr ja10, AV.sl shVal.sl ja11]] }
theorem on71p_15 (l39 : LI) (i40 : Int) (i41 : Int) (ja0 : TS) (ja1 : LC) (ja2 : Sem shInt) (ja3 : LI) (ja4 : LF) (ja5 : Str) (ja6 : Int) (ja7 : Int) (ja8 : Str) (ja9 : Str) (ja10 : LX) (ja11 : List (Sem shVal.sl)) : run (env49) 0 kp71p (Func.results Tryz.f71).toList 400 (headK Tryz.f71 15) (s71p_15 l39 i40 i41 ja0 ja1 ja2 ja3 ja4 ja5 ja6 ja7 ja8 ja9 ja10 ja11) = Tr.br (decide (i41 < i40)) (Tr.chk (inB i41 l39.length) (Tr.chk (rTwiceC ((ja0, ja1, ja2, ja3, ja4, ExprT.mk ja5 (ja6, ja7, ja8) ja9 ja10), ja11) (l39.getD i41.toNat (dflt shInt))) (Tr.br (rTwice ((ja0, ja1, ja2, ja3, ja4, ExprT.mk ja5 (ja6, ja7, ja8) ja9 ja10), ja11) (l39.getD i41.toNat (dflt shInt))) (Tr.ok (Leaf.ret (ai 7) [])) (Tr.ok (Leaf.head 15 (headK Tryz.f71 15) (s71p_15 l39 i40 (IntKind.i64.wrap (i41 + 1)) ja0 ja1 ja2 ja3 ja4 ja5 ja6 ja7 ja8 ja9 ja10 ja11)))))) (Tr.ok (Leaf.head 21 (headK Tryz.f71 21) (s71p_21 1 ja0 ja1 ja2 ja3 ja4 ja5 ja6 ja7 ja8 ja9 ja10 ja11))) := by kernel_rfl
theorem on71p_21 (i8 : Int) (ja0 : TS) (ja1 : LC) (ja2 : Sem shInt) (ja3 : LI) (ja4 : LF) (ja5 : Str) (ja6 : Int) (ja7 : Int) (ja8 : Str) (ja9 : Str) (ja10 : LX) (ja11 : List (Sem shVal.sl)) : run (env49) 0 kp71p (Func.results Tryz.f71).toList 400 (headK Tryz.f71 21) (s71p_21 i8 ja0 ja1 ja2 ja3 ja4 ja5 ja6 ja7 ja8 ja9 ja10 ja11) = Tr.br (decide (i8 < (↑ja11.length : Int))) (Tr.chk (inB (IntKind.i64.wrap (i8 - 1)) ja11.length) (Tr.chk (inB ja2 (List.length (ja11.getD (IntKind.i64.wrap (i8 - 1)).toNat (dflt shVal.sl)))) (Tr.chk (inB i8 ja11.length) (Tr.chk (inB ja2 (List.length (ja11.getD i8.toNat (dflt shVal.sl)))) (Tr.br (decide (vOrder (List.getD (ja11.getD (IntKind.i64.wrap (i8 - 1)).toNat (dflt shVal.sl)) (Int.toNat ja2) (dflt shVal)) (List.getD (ja11.getD i8.toNat (dflt shVal.sl)) (Int.toNat ja2) (dflt shVal)) ≥ 0)) (Tr.ok (Leaf.ret (ai 15) [])) (Tr.ok (Leaf.head 21 (headK Tryz.f71 21) (s71p_21 (IntKind.i64.wrap (i8 + 1)) ja0 ja1 ja2 ja3 ja4 ja5 ja6 ja7 ja8 ja9 ja10 ja11)))))))) (Tr.ok (Leaf.ret (ai 0) [])) := by kernel_rfl
mutual
def rCheck_6 : Nat → (List (Sem shVal.sl)) → Int → Int → (Sem Sh.str) → (List (Sem shCol)) → (Sem shInt) → (List (Sem shInt)) → (List (Sem shFor)) → Str → Int → Int → Str → Str → (List (Sem Sh.expr)) → (List (Sem shVal.sl)) → Sem shInt
  | 0, _, _, _, _, _, _, _, _, _, _, _, _, _, _, _ => default
  | n + 1, l18, i19, i20, ja0, ja1, ja2, ja3, ja4, ja5, ja6, ja7, ja8, ja9, ja10, ja11 => (if decide (i20 < i19) = true then
  if
      (tFits (ja0, ja1, ja2, ja3, ja4, ExprT.mk ja5 (ja6, ja7, ja8) ja9 ja10)
            (l18.getD i20.toNat (dflt shVal.sl)) !=
          0) =
        true then
    tFits (ja0, ja1, ja2, ja3, ja4, ExprT.mk ja5 (ja6, ja7, ja8) ja9 ja10)
      (l18.getD i20.toNat (dflt shVal.sl))
  else rCheck_6 n l18 i19 (IntKind.i64.wrap (i20 + 1)) ja0 ja1 ja2 ja3 ja4 ja5 ja6 ja7 ja8 ja9 ja10 ja11
else
  if rTwice ((ja0, ja1, ja2, ja3, ja4, ExprT.mk ja5 (ja6, ja7, ja8) ja9 ja10), ja11) ja2 = true then 7
  else rCheck_15 n ja3 (↑ja3.length : Int) 0 ja0 ja1 ja2 ja3 ja4 ja5 ja6 ja7 ja8 ja9 ja10 ja11)
def rCheck_15 : Nat → (List (Sem shInt)) → Int → Int → (Sem Sh.str) → (List (Sem shCol)) → (Sem shInt) → (List (Sem shInt)) → (List (Sem shFor)) → Str → Int → Int → Str → Str → (List (Sem Sh.expr)) → (List (Sem shVal.sl)) → Sem shInt
  | 0, _, _, _, _, _, _, _, _, _, _, _, _, _, _, _ => default
  | n + 1, l39, i40, i41, ja0, ja1, ja2, ja3, ja4, ja5, ja6, ja7, ja8, ja9, ja10, ja11 => (if decide (i41 < i40) = true then
  if
      rTwice ((ja0, ja1, ja2, ja3, ja4, ExprT.mk ja5 (ja6, ja7, ja8) ja9 ja10), ja11)
          (l39.getD i41.toNat (dflt shInt)) =
        true then
    7
  else rCheck_15 n l39 i40 (IntKind.i64.wrap (i41 + 1)) ja0 ja1 ja2 ja3 ja4 ja5 ja6 ja7 ja8 ja9 ja10 ja11
else rCheck_21 n 1 ja0 ja1 ja2 ja3 ja4 ja5 ja6 ja7 ja8 ja9 ja10 ja11)
def rCheck_21 : Nat → Int → (Sem Sh.str) → (List (Sem shCol)) → (Sem shInt) → (List (Sem shInt)) → (List (Sem shFor)) → Str → Int → Int → Str → Str → (List (Sem Sh.expr)) → (List (Sem shVal.sl)) → Sem shInt
  | 0, _, _, _, _, _, _, _, _, _, _, _, _, _ => default
  | n + 1, i8, ja0, ja1, ja2, ja3, ja4, ja5, ja6, ja7, ja8, ja9, ja10, ja11 => (if decide (i8 < (↑ja11.length : Int)) = true then
  if
      decide
          (vOrder
              (List.getD (ja11.getD (IntKind.i64.wrap (i8 - 1)).toNat (dflt shVal.sl))
                (Int.toNat ja2) (dflt shVal))
              (List.getD (ja11.getD i8.toNat (dflt shVal.sl)) (Int.toNat ja2)
                (dflt shVal)) ≥
            0) =
        true then
    15
  else rCheck_21 n (IntKind.i64.wrap (i8 + 1)) ja0 ja1 ja2 ja3 ja4 ja5 ja6 ja7 ja8 ja9 ja10 ja11
else 0)
end
mutual
def rCheckC_6 : Nat → (List (Sem shVal.sl)) → Int → Int → (Sem Sh.str) → (List (Sem shCol)) → (Sem shInt) → (List (Sem shInt)) → (List (Sem shFor)) → Str → Int → Int → Str → Str → (List (Sem Sh.expr)) → (List (Sem shVal.sl)) → Bool
  | 0, _, _, _, _, _, _, _, _, _, _, _, _, _, _, _ => false
  | n + 1, l18, i19, i20, ja0, ja1, ja2, ja3, ja4, ja5, ja6, ja7, ja8, ja9, ja10, ja11 => (if decide (i20 < i19) = true then
  if inB i20 l18.length = true then
    if
        (tFits (ja0, ja1, ja2, ja3, ja4, ExprT.mk ja5 (ja6, ja7, ja8) ja9 ja10)
              (l18.getD i20.toNat (dflt shVal.sl)) !=
            0) =
          true then
      true
    else rCheckC_6 n l18 i19 (IntKind.i64.wrap (i20 + 1)) ja0 ja1 ja2 ja3 ja4 ja5 ja6 ja7 ja8 ja9 ja10 ja11
  else false
else
  if rTwiceC ((ja0, ja1, ja2, ja3, ja4, ExprT.mk ja5 (ja6, ja7, ja8) ja9 ja10), ja11) ja2 = true then
    if rTwice ((ja0, ja1, ja2, ja3, ja4, ExprT.mk ja5 (ja6, ja7, ja8) ja9 ja10), ja11) ja2 = true then true
    else rCheckC_15 n ja3 (↑ja3.length : Int) 0 ja0 ja1 ja2 ja3 ja4 ja5 ja6 ja7 ja8 ja9 ja10 ja11
  else false)
def rCheckC_15 : Nat → (List (Sem shInt)) → Int → Int → (Sem Sh.str) → (List (Sem shCol)) → (Sem shInt) → (List (Sem shInt)) → (List (Sem shFor)) → Str → Int → Int → Str → Str → (List (Sem Sh.expr)) → (List (Sem shVal.sl)) → Bool
  | 0, _, _, _, _, _, _, _, _, _, _, _, _, _, _, _ => false
  | n + 1, l39, i40, i41, ja0, ja1, ja2, ja3, ja4, ja5, ja6, ja7, ja8, ja9, ja10, ja11 => (if decide (i41 < i40) = true then
  if inB i41 l39.length = true then
    if
        rTwiceC ((ja0, ja1, ja2, ja3, ja4, ExprT.mk ja5 (ja6, ja7, ja8) ja9 ja10), ja11)
            (l39.getD i41.toNat (dflt shInt)) =
          true then
      if
          rTwice ((ja0, ja1, ja2, ja3, ja4, ExprT.mk ja5 (ja6, ja7, ja8) ja9 ja10), ja11)
              (l39.getD i41.toNat (dflt shInt)) =
            true then
        true
      else rCheckC_15 n l39 i40 (IntKind.i64.wrap (i41 + 1)) ja0 ja1 ja2 ja3 ja4 ja5 ja6 ja7 ja8 ja9 ja10 ja11
    else false
  else false
else rCheckC_21 n 1 ja0 ja1 ja2 ja3 ja4 ja5 ja6 ja7 ja8 ja9 ja10 ja11)
def rCheckC_21 : Nat → Int → (Sem Sh.str) → (List (Sem shCol)) → (Sem shInt) → (List (Sem shInt)) → (List (Sem shFor)) → Str → Int → Int → Str → Str → (List (Sem Sh.expr)) → (List (Sem shVal.sl)) → Bool
  | 0, _, _, _, _, _, _, _, _, _, _, _, _, _ => false
  | n + 1, i8, ja0, ja1, ja2, ja3, ja4, ja5, ja6, ja7, ja8, ja9, ja10, ja11 => (if decide (i8 < (↑ja11.length : Int)) = true then
  if inB (IntKind.i64.wrap (i8 - 1)) ja11.length = true then
    if
        inB ja2 (List.length (ja11.getD (IntKind.i64.wrap (i8 - 1)).toNat (dflt shVal.sl))) =
          true then
      if inB i8 ja11.length = true then
        if inB ja2 (List.length (ja11.getD i8.toNat (dflt shVal.sl))) = true then
          if
              decide
                  (vOrder
                      (List.getD (ja11.getD (IntKind.i64.wrap (i8 - 1)).toNat (dflt shVal.sl))
                        (Int.toNat ja2) (dflt shVal))
                      (List.getD (ja11.getD i8.toNat (dflt shVal.sl)) (Int.toNat ja2)
                        (dflt shVal)) ≥
                    0) =
                true then
            true
          else rCheckC_21 n (IntKind.i64.wrap (i8 + 1)) ja0 ja1 ja2 ja3 ja4 ja5 ja6 ja7 ja8 ja9 ja10 ja11
        else false
      else false
    else false
  else false
else true)
end
mutual
theorem at71p_6 {C : Ctx} (hC : ∀ id, C.ρ0 id = none) : ∀ (n : Nat) (l18 : List (Sem shVal.sl)) (i19 : Int) (i20 : Int) (ja0 : TS) (ja1 : LC) (ja2 : Sem shInt) (ja3 : LI) (ja4 : LF) (ja5 : Str) (ja6 : Int) (ja7 : Int) (ja8 : Str) (ja9 : Str) (ja10 : LX) (ja11 : List (Sem shVal.sl)), rCheckC_6 n l18 i19 i20 ja0 ja1 ja2 ja3 ja4 ja5 ja6 ja7 ja8 ja9 ja10 ja11 = true →
    Reach (env49) C 71 (headK Tryz.f71 6) (s71p_6 l18 i19 i20 ja0 ja1 ja2 ja3 ja4 ja5 ja6 ja7 ja8 ja9 ja10 ja11) (fun r h => resOf h [shInt] r = some (rCheck_6 n l18 i19 i20 ja0 ja1 ja2 ja3 ja4 ja5 ja6 ja7 ja8 ja9 ja10 ja11, ()))
  | 0, l18, i19, i20, ja0, ja1, ja2, ja3, ja4, ja5, ja6, ja7, ja8, ja9, ja10, ja11, hc => by cases hc
  | n + 1, l18, i19, i20, ja0, ja1, ja2, ja3, ja4, ja5, ja6, ja7, ja8, ja9, ja10, ja11, hc => by
    refine reach_ok env49_all env49_mix (ok71p) (fun id _ => hC id) (on71p_6 _ _ _ _ _ _ _ _ _ _ _ _ _ _ _) ?_
    rw [rCheckC_6] at hc
    generalize hy : rCheck_6 (n + 1) l18 i19 i20 ja0 ja1 ja2 ja3 ja4 ja5 ja6 ja7 ja8 ja9 ja10 ja11 = y
    rw [rCheck_6] at hy
    try simp only [ExprT.eta, etaE_eq]
    repeat' (first | with_reducible refine obr hy hc (fun _ hy hc => ?_) (fun _ hy hc => ?_) | with_reducible refine obr1 hy (fun _ hy => ?_) (fun _ hy => ?_) | with_reducible refine ochk hc (fun hc => ?_) | with_reducible refine OptOk_chkT ?_)
    all_goals first | (cases hc; done) | (subst hy; first | (change Reach _ _ _ _ _ _; refine at71p_6 hC n _ _ _ _ _ _ _ _ _ _ _ _ _ _ _ ?_ <;> exact hc) | (change Reach _ _ _ _ _ _; refine at71p_15 hC n _ _ _ _ _ _ _ _ _ _ _ _ _ _ _ ?_ <;> exact hc) | (change Reach _ _ _ _ _ _; refine at71p_21 hC n _ _ _ _ _ _ _ _ _ _ _ _ _ ?_ <;> exact hc) | rfl)
theorem at71p_15 {C : Ctx} (hC : ∀ id, C.ρ0 id = none) : ∀ (n : Nat) (l39 : LI) (i40 : Int) (i41 : Int) (ja0 : TS) (ja1 : LC) (ja2 : Sem shInt) (ja3 : LI) (ja4 : LF) (ja5 : Str) (ja6 : Int) (ja7 : Int) (ja8 : Str) (ja9 : Str) (ja10 : LX) (ja11 : List (Sem shVal.sl)), rCheckC_15 n l39 i40 i41 ja0 ja1 ja2 ja3 ja4 ja5 ja6 ja7 ja8 ja9 ja10 ja11 = true →
    Reach (env49) C 71 (headK Tryz.f71 15) (s71p_15 l39 i40 i41 ja0 ja1 ja2 ja3 ja4 ja5 ja6 ja7 ja8 ja9 ja10 ja11) (fun r h => resOf h [shInt] r = some (rCheck_15 n l39 i40 i41 ja0 ja1 ja2 ja3 ja4 ja5 ja6 ja7 ja8 ja9 ja10 ja11, ()))
  | 0, l39, i40, i41, ja0, ja1, ja2, ja3, ja4, ja5, ja6, ja7, ja8, ja9, ja10, ja11, hc => by cases hc
  | n + 1, l39, i40, i41, ja0, ja1, ja2, ja3, ja4, ja5, ja6, ja7, ja8, ja9, ja10, ja11, hc => by
    refine reach_ok env49_all env49_mix (ok71p) (fun id _ => hC id) (on71p_15 _ _ _ _ _ _ _ _ _ _ _ _ _ _ _) ?_
    rw [rCheckC_15] at hc
    generalize hy : rCheck_15 (n + 1) l39 i40 i41 ja0 ja1 ja2 ja3 ja4 ja5 ja6 ja7 ja8 ja9 ja10 ja11 = y
    rw [rCheck_15] at hy
    try simp only [ExprT.eta, etaE_eq]
    repeat' (first | with_reducible refine obr hy hc (fun _ hy hc => ?_) (fun _ hy hc => ?_) | with_reducible refine obr1 hy (fun _ hy => ?_) (fun _ hy => ?_) | with_reducible refine ochk hc (fun hc => ?_) | with_reducible refine OptOk_chkT ?_)
    all_goals first | (cases hc; done) | (subst hy; first | (change Reach _ _ _ _ _ _; refine at71p_6 hC n _ _ _ _ _ _ _ _ _ _ _ _ _ _ _ ?_ <;> exact hc) | (change Reach _ _ _ _ _ _; refine at71p_15 hC n _ _ _ _ _ _ _ _ _ _ _ _ _ _ _ ?_ <;> exact hc) | (change Reach _ _ _ _ _ _; refine at71p_21 hC n _ _ _ _ _ _ _ _ _ _ _ _ _ ?_ <;> exact hc) | rfl)
theorem at71p_21 {C : Ctx} (hC : ∀ id, C.ρ0 id = none) : ∀ (n : Nat) (i8 : Int) (ja0 : TS) (ja1 : LC) (ja2 : Sem shInt) (ja3 : LI) (ja4 : LF) (ja5 : Str) (ja6 : Int) (ja7 : Int) (ja8 : Str) (ja9 : Str) (ja10 : LX) (ja11 : List (Sem shVal.sl)), rCheckC_21 n i8 ja0 ja1 ja2 ja3 ja4 ja5 ja6 ja7 ja8 ja9 ja10 ja11 = true →
    Reach (env49) C 71 (headK Tryz.f71 21) (s71p_21 i8 ja0 ja1 ja2 ja3 ja4 ja5 ja6 ja7 ja8 ja9 ja10 ja11) (fun r h => resOf h [shInt] r = some (rCheck_21 n i8 ja0 ja1 ja2 ja3 ja4 ja5 ja6 ja7 ja8 ja9 ja10 ja11, ()))
  | 0, i8, ja0, ja1, ja2, ja3, ja4, ja5, ja6, ja7, ja8, ja9, ja10, ja11, hc => by cases hc
  | n + 1, i8, ja0, ja1, ja2, ja3, ja4, ja5, ja6, ja7, ja8, ja9, ja10, ja11, hc => by
    refine reach_ok env49_all env49_mix (ok71p) (fun id _ => hC id) (on71p_21 _ _ _ _ _ _ _ _ _ _ _ _ _) ?_
    rw [rCheckC_21] at hc
    generalize hy : rCheck_21 (n + 1) i8 ja0 ja1 ja2 ja3 ja4 ja5 ja6 ja7 ja8 ja9 ja10 ja11 = y
    rw [rCheck_21] at hy
    try simp only [ExprT.eta, etaE_eq]
    repeat' (first | with_reducible refine obr hy hc (fun _ hy hc => ?_) (fun _ hy hc => ?_) | with_reducible refine obr1 hy (fun _ hy => ?_) (fun _ hy => ?_) | with_reducible refine ochk hc (fun hc => ?_) | with_reducible refine OptOk_chkT ?_)
    all_goals first | (cases hc; done) | (subst hy; first | (change Reach _ _ _ _ _ _; refine at71p_6 hC n _ _ _ _ _ _ _ _ _ _ _ _ _ _ _ ?_ <;> exact hc) | (change Reach _ _ _ _ _ _; refine at71p_15 hC n _ _ _ _ _ _ _ _ _ _ _ _ _ _ _ ?_ <;> exact hc) | (change Reach _ _ _ _ _ _; refine at71p_21 hC n _ _ _ _ _ _ _ _ _ _ _ _ _ ?_ <;> exact hc) | rfl)
end
def rCheck (x0 : Sem shRel) : Sem shInt := (if (!tMay x0.1) = true then 1 else if decide ((↑(List.length x0.2) : Int) > 200) = true then 13 else rCheck_6 100000000 x0.2 (↑(List.length x0.2) : Int) 0 x0.1.1 x0.1.2.1 x0.1.2.2.1 x0.1.2.2.2.1 x0.1.2.2.2.2.1 (ExprT.op x0.1.2.2.2.2.2) (ExprT.v x0.1.2.2.2.2.2).1 (ExprT.v x0.1.2.2.2.2.2).2.1 (ExprT.v x0.1.2.2.2.2.2).2.2 (ExprT.s x0.1.2.2.2.2.2) (ExprT.l x0.1.2.2.2.2.2) x0.2)
def rCheckC (x0 : Sem shRel) : Bool := (if (!tMay x0.1) = true then true else if decide ((↑(List.length x0.2) : Int) > 200) = true then true else rCheckC_6 100000000 x0.2 (↑(List.length x0.2) : Int) 0 x0.1.1 x0.1.2.1 x0.1.2.2.1 x0.1.2.2.2.1 x0.1.2.2.2.2.1 (ExprT.op x0.1.2.2.2.2.2) (ExprT.v x0.1.2.2.2.2.2).1 (ExprT.v x0.1.2.2.2.2.2).2.1 (ExprT.v x0.1.2.2.2.2.2).2.2 (ExprT.s x0.1.2.2.2.2.2) (ExprT.l x0.1.2.2.2.2.2) x0.2)
def F71p : FSem := plainC [shRel] [shInt] (fun x => rCheckC x.1) fun x => (rCheck x.1, ())
theorem FOk71p : FOk (env49).P (env49).gl 71 F71p := by
  refine FOk_plainC (ok71p) fun x hc C hC => ?_
  unfold rCheckC at hc
  refine reach_ok env49_all env49_mix (ok71p) (fun id _ => hC id) (go71p x.1) ?_
  generalize hy : rCheck x.1 = y
  unfold rCheck at hy
  try simp only [ExprT.eta]
  repeat' (first | with_reducible refine obr hy hc (fun _ hy hc => ?_) (fun _ hy hc => ?_) | with_reducible refine obr1 hy (fun _ hy => ?_) (fun _ hy => ?_) | with_reducible refine ochk hc (fun hc => ?_) | with_reducible refine OptOk_chkT ?_)
  all_goals first | (cases hc; done) | (subst hy; first | (change Reach _ _ _ _ _ _; refine at71p_6 hC _ _ _ _ _ _ _ _ _ _ _ _ _ _ _ _ ?_ <;> exact hc) | (change Reach _ _ _ _ _ _; refine at71p_15 hC _ _ _ _ _ _ _ _ _ _ _ _ _ _ _ _ ?_ <;> exact hc) | (change Reach _ _ _ _ _ _; refine at71p_21 hC _ _ _ _ _ _ _ _ _ _ _ _ _ _ ?_ <;> exact hc) | rfl)

noncomputable def env50 : Env := ((env49.add 124 F124p).add 71 F71p)
theorem env50_all : EnvAll env50 := (EnvAll.addS (EnvAll.addS env49_all (SameE.refl env49) FOk124p) ((SameE.refl env49).add _ _) FOk71p)
theorem env50_mix : env50.P.follows .mixedOrders = true := (mix_add (mix_add env49_mix _ _) _ _)
open Go Go.Proofs
set_option maxHeartbeats 4000000

abbrev kp72p : Nat → Keep := fun j => if j = 2 then { slots := [0, 11, 12, 13] } else if j = 5 then { slots := [0, 4, 11, 12, 13, 19, 20, 21] } else if j = 11 then { slots := [0, 4, 6, 7, 11, 12, 13, 19, 20, 21, 32, 33, 34] } else { }
abbrev s72p_2 (l0 : List (Sem shRel)) (l11 : List (Sem shRel)) (i12 : Int) (i13 : Int) : St := { tmps := [AV.sl shRel l0, ny, ny, ny, ny, ny, ny, ny, ny, ny, ny, AV.sl shRel l11, ai i12, ai i13, ny, ny, ny, ny, ny, ny, ny, ny, ny, ny, ny, ny, ny, ny, ny, ny, ny, ny, ny, ny, ny, ny, ny, ny, ny, ny, ny, ny, ny, ny, ny, ny, ny, ny, ny, ny, ny, ny, ny, ny, ny, ny, ny, ny, ny, ny, ny, ny, ny, ny], heap := [] }
theorem ok72p : fnChk (env50).P 72 Tryz.f72 1 := by refine ⟨?_, ?_, ?_, ?_⟩ <;> kernel_rfl
theorem go72p (x0 : Sem shRel.sl) : run (env50) 0 kp72p (Func.results Tryz.f72).toList 400 (bodyOf Tryz.f72) (initSt (Func.ntmps Tryz.f72) [datum shRel.sl x0] []) = Tr.ok (Leaf.head 2 (headK Tryz.f72 2) (s72p_2 x0 x0 (↑(List.length x0) : Int) 0)) := by kernel_rfl
abbrev s72p_5 (l0 : List (Sem shRel)) (l11 : List (Sem shRel)) (i12 : Int) (i13 : Int) (l19 : LF) (i20 : Int) (i21 : Int) (ja0 : TS) (ja1 : LC) (ja2 : Sem shInt) (ja3 : LI) (ja4 : LF) (ja5 : Str) (ja6 : Int) (ja7 : Int) (ja8 : Str) (ja9 : Str) (ja10 : LX) (ja11 : List (Sem shVal.sl)) : St := { tmps := [AV.sl shRel l0, ny, ny, ny, AV.ptr 0 0, ny, ny, ny, ny, ny, ny, AV.sl shRel l11, ai i12, ai i13, ny, ny, ny, ny, ny, AV.sl shFor l19, ai i20, ai i21, ny, ny, ny, ny, ny, ny, ny, ny, ny, ny, ny, ny, ny, ny, ny, ny, ny, ny, ny, ny, ny, ny, ny, ny, ny, ny, ny, ny, ny, ny, ny, ny, ny, ny, ny, ny, ny, ny, ny, ny, ny, ny], heap := [AO.box [AV.str ja0, AV.sl shCol ja1, ai ja2, AV.sl shInt ja3, AV.sl shFor ja4, AV.str ja5, ai ja6, ai ja7, AV.str ja8, AV.str ja9, AV.sl Sh.expr ja10, AV.sl shVal.sl ja11]] }
theorem on72p_2 (l0 : List (Sem shRel)) (l11 : List (Sem shRel)) (i12 : Int) (i13 : Int) : run (env50) 0 kp72p (Func.results Tryz.f72).toList 400 (headK Tryz.f72 2) (s72p_2 l0 l11 i12 i13) = Tr.br (decide (i13 < i12)) (Tr.chk (inB i13 l11.length) (Tr.ok (Leaf.head 5 (headK Tryz.f72 5) (s72p_5 l0 l11 i12 i13 (l11.getD i13.toNat (dflt shRel)).1.2.2.2.2.1 (↑(List.length (l11.getD i13.toNat (dflt shRel)).1.2.2.2.2.1) : Int) 0 (l11.getD i13.toNat (dflt shRel)).1.1 (l11.getD i13.toNat (dflt shRel)).1.2.1 (l11.getD i13.toNat (dflt shRel)).1.2.2.1 (l11.getD i13.toNat (dflt shRel)).1.2.2.2.1 (l11.getD i13.toNat (dflt shRel)).1.2.2.2.2.1 (ExprT.op (l11.getD i13.toNat (dflt shRel)).1.2.2.2.2.2) (ExprT.v (l11.getD i13.toNat (dflt shRel)).1.2.2.2.2.2).1 (ExprT.v (l11.getD i13.toNat (dflt shRel)).1.2.2.2.2.2).2.1 (ExprT.v (l11.getD i13.toNat (dflt shRel)).1.2.2.2.2.2).2.2 (ExprT.s (l11.getD i13.toNat (dflt shRel)).1.2.2.2.2.2) (ExprT.l (l11.getD i13.toNat (dflt shRel)).1.2.2.2.2.2) (l11.getD i13.toNat (dflt shRel)).2)))) (Tr.ok (Leaf.ret (AV.kb true) [])) := by kernel_rfl
abbrev s72p_11 (l0 : List (Sem shRel)) (i7 : Sem shInt) (l11 : List (Sem shRel)) (i12 : Int) (i13 : Int) (l19 : LF) (i20 : Int) (i21 : Int) (l32 : List (Sem shVal.sl)) (i33 : Int) (i34 : Int) (ja0 : TS) (ja1 : LC) (ja2 : Sem shInt) (ja3 : LI) (ja4 : LF) (ja5 : Str) (ja6 : Int) (ja7 : Int) (ja8 : Str) (ja9 : Str) (ja10 : LX) (ja11 : List (Sem shVal.sl)) (jb0 : Sem shInt) (jb1 : TS) : St := { tmps := [AV.sl shRel l0, ny, ny, ny, AV.ptr 0 0, ny, AV.ptr 1 0, ai i7, ny, ny, ny, AV.sl shRel l11, ai i12, ai i13, ny, ny, ny, ny, ny, AV.sl shFor l19, ai i20, ai i21, ny, ny, ny, ny, ny, ny, ny, ny, ny, ny, AV.sl shVal.sl l32, ai i33, ai i34, ny, ny, ny, ny, ny, ny, ny, ny, ny, ny, ny, ny, ny, ny, ny, ny, ny, ny, ny, ny, ny, ny, ny, ny, ny, ny, ny, ny, ny], heap := [AO.box [AV.str ja0, AV.sl shCol ja1, ai ja2, AV.sl shInt ja3, AV.sl shFor ja4, AV.str ja5, ai ja6, ai ja7, AV.str ja8, AV.str ja9, AV.sl Sh.expr ja10, AV.sl shVal.sl ja11], AO.box [ai jb0, AV.str jb1]] }
theorem on72p_5 (l0 : List (Sem shRel)) (l11 : List (Sem shRel)) (i12 : Int) (i13 : Int) (l19 : LF) (i20 : Int) (i21 : Int) (ja0 : TS) (ja1 : LC) (ja2 : Sem shInt) (ja3 : LI) (ja4 : LF) (ja5 : Str) (ja6 : Int) (ja7 : Int) (ja8 : Str) (ja9 : Str) (ja10 : LX) (ja11 : List (Sem shVal.sl)) : run (env50) 0 kp72p (Func.results Tryz.f72).toList 400 (headK Tryz.f72 5) (s72p_5 l0 l11 i12 i13 l19 i20 i21 ja0 ja1 ja2 ja3 ja4 ja5 ja6 ja7 ja8 ja9 ja10 ja11) = Tr.br (decide (i21 < i20)) (Tr.chk (inB i21 l19.length) (Tr.br (decide (bFind l0 (l19.getD i21.toNat (dflt shFor)).2 < 0)) (Tr.ok (Leaf.ret (AV.kb false) [])) (Tr.ok (Leaf.head 11 (headK Tryz.f72 11) (s72p_11 l0 (bFind l0 (l19.getD i21.toNat (dflt shFor)).2) l11 i12 i13 l19 i20 i21 ja11 (↑ja11.length : Int) 0 ja0 ja1 ja2 ja3 ja4 ja5 ja6 ja7 ja8 ja9 ja10 ja11 (l19.getD i21.toNat (dflt shFor)).1 (l19.getD i21.toNat (dflt shFor)).2))))) (Tr.ok (Leaf.head 2 (headK Tryz.f72 2) (s72p_2 l0 l11 i12 (IntKind.i64.wrap (i13 + 1))))) := by kernel_rfl
theorem on72p_11 (l0 : List (Sem shRel)) (i7 : Sem shInt) (l11 : List (Sem shRel)) (i12 : Int) (i13 : Int) (l19 : LF) (i20 : Int) (i21 : Int) (l32 : List (Sem shVal.sl)) (i33 : Int) (i34 : Int) (ja0 : TS) (ja1 : LC) (ja2 : Sem shInt) (ja3 : LI) (ja4 : LF) (ja5 : Str) (ja6 : Int) (ja7 : Int) (ja8 : Str) (ja9 : Str) (ja10 : LX) (ja11 : List (Sem shVal.sl)) (jb0 : Sem shInt) (jb1 : TS) : run (env50) 0 kp72p (Func.results Tryz.f72).toList 400 (headK Tryz.f72 11) (s72p_11 l0 i7 l11 i12 i13 l19 i20 i21 l32 i33 i34 ja0 ja1 ja2 ja3 ja4 ja5 ja6 ja7 ja8 ja9 ja10 ja11 jb0 jb1) = Tr.br (decide (i34 < i33)) (Tr.chk (inB i34 l32.length) (Tr.chk (inB jb0 (List.length (l32.getD i34.toNat (dflt shVal.sl)))) (Tr.chk (bif (List.getD (l32.getD i34.toNat (dflt shVal.sl)) (Int.toNat jb0) (dflt shVal)).1 != 0 then inB i7 l0.length && inB i7 l0.length else true) (Tr.br (bif (List.getD (l32.getD i34.toNat (dflt shVal.sl)) (Int.toNat jb0) (dflt shVal)).1 != 0 then !rHas (((l0.getD (Int.toNat i7) (dflt shRel)).1.1, (l0.getD (Int.toNat i7) (dflt shRel)).1.2.1, (l0.getD (Int.toNat i7) (dflt shRel)).1.2.2.1, (l0.getD (Int.toNat i7) (dflt shRel)).1.2.2.2.1, (l0.getD (Int.toNat i7) (dflt shRel)).1.2.2.2.2.1, ExprT.mk (ExprT.op (l0.getD (Int.toNat i7) (dflt shRel)).1.2.2.2.2.2) (ExprT.v (l0.getD (Int.toNat i7) (dflt shRel)).1.2.2.2.2.2) (ExprT.s (l0.getD (Int.toNat i7) (dflt shRel)).1.2.2.2.2.2) (ExprT.l
 (l0.getD (Int.toNat i7) (dflt shRel)).1.2.2.2.2.2)), (l0.getD (Int.toNat i7) (dflt shRel)).2) (l0.getD (Int.toNat i7) (dflt shRel)).1.2.2.1 (List.getD (l32.getD i34.toNat (dflt shVal.sl)) (Int.toNat jb0) (dflt shVal)) else false) (Tr.ok (Leaf.ret (AV.kb false) [])) (Tr.ok (Leaf.head 11 (headK Tryz.f72 11) (s72p_11 l0 i7 l11 i12 i13 l19 i20 i21 l32 i33 (IntKind.i64.wrap (i34 + 1)) ja0 ja1 ja2 ja3 ja4 ja5 ja6 ja7 ja8 ja9 ja10 ja11 jb0 jb1))))))) (Tr.ok (Leaf.head 5 (headK Tryz.f72 5) (s72p_5 l0 l11 i12 i13 l19 i20 (IntKind.i64.wrap (i21 + 1)) ja0 ja1 ja2 ja3 ja4 ja5 ja6 ja7 ja8 ja9 ja10 ja11))) := by kernel_rfl
mutual
def bBound_2 : Nat → (List (Sem shRel)) → (List (Sem shRel)) → Int → Int → Sem Sh.bool
  | 0, _, _, _, _ => default
  | n + 1, l0, l11, i12, i13 => (if decide (i13 < i12) = true then
  bBound_5 n l0 l11 i12 i13
    (l11.getD i13.toNat
                  (dflt shRel)).1.2.2.2.2.1
    (↑(List.length
          (l11.getD i13.toNat
                        (dflt shRel)).1.2.2.2.2.1) :
      Int)
    0
    (l11.getD i13.toNat
          (dflt shRel)).1.1
    (l11.getD i13.toNat
            (dflt shRel)).1.2.1
    (l11.getD i13.toNat
              (dflt shRel)).1.2.2.1
    (l11.getD i13.toNat
                (dflt shRel)).1.2.2.2.1
    (l11.getD i13.toNat
                  (dflt shRel)).1.2.2.2.2.1
    (ExprT.op
      (l11.getD i13.toNat
                    (dflt shRel)).1.2.2.2.2.2)
    (ExprT.v
        (l11.getD i13.toNat
                      (dflt shRel)).1.2.2.2.2.2).1
    (ExprT.v
          (l11.getD i13.toNat
                        (dflt shRel)).1.2.2.2.2.2).2.1
    (ExprT.v
          (l11.getD i13.toNat
                        (dflt shRel)).1.2.2.2.2.2).2.2
    (ExprT.s
      (l11.getD i13.toNat
                    (dflt shRel)).1.2.2.2.2.2)
    (ExprT.l
      (l11.getD i13.toNat
                    (dflt shRel)).1.2.2.2.2.2)
    (l11.getD i13.toNat
        (dflt shRel)).2
else true)
def bBound_5 : Nat → (List (Sem shRel)) → (List (Sem shRel)) → Int → Int → (List (Sem shFor)) → Int → Int → (Sem Sh.str) → (List (Sem shCol)) → (Sem shInt) → (List (Sem shInt)) → (List (Sem shFor)) → Str → Int → Int → Str → Str → (List (Sem Sh.expr)) → (List (Sem shVal.sl)) → Sem Sh.bool
  | 0, _, _, _, _, _, _, _, _, _, _, _, _, _, _, _, _, _, _, _ => default
  | n + 1, l0, l11, i12, i13, l19, i20, i21, ja0, ja1, ja2, ja3, ja4, ja5, ja6, ja7, ja8, ja9, ja10, ja11 => (if decide (i21 < i20) = true then
  if decide (bFind l0 (l19.getD i21.toNat (dflt shFor)).2 < 0) = true then false
  else
    bBound_11 n l0 (bFind l0 (l19.getD i21.toNat (dflt shFor)).2) l11 i12 i13 l19 i20 i21 ja11 (↑ja11.length : Int) 0 ja0
      ja1 ja2 ja3 ja4 ja5 ja6 ja7 ja8 ja9 ja10 ja11 (l19.getD i21.toNat (dflt shFor)).1
      (l19.getD i21.toNat (dflt shFor)).2
else bBound_2 n l0 l11 i12 (IntKind.i64.wrap (i13 + 1)))
def bBound_11 : Nat → (List (Sem shRel)) → (Sem shInt) → (List (Sem shRel)) → Int → Int → (List (Sem shFor)) → Int → Int → (List (Sem shVal.sl)) → Int → Int → (Sem Sh.str) → (List (Sem shCol)) → (Sem shInt) → (List (Sem shInt)) → (List (Sem shFor)) → Str → Int → Int → Str → Str → (List (Sem Sh.expr)) → (List (Sem shVal.sl)) → (Sem shInt) → (Sem Sh.str) → Sem Sh.bool
  | 0, _, _, _, _, _, _, _, _, _, _, _, _, _, _, _, _, _, _, _, _, _, _, _, _, _ => default
  | n + 1, l0, i7, l11, i12, i13, l19, i20, i21, l32, i33, i34, ja0, ja1, ja2, ja3, ja4, ja5, ja6, ja7, ja8, ja9, ja10, ja11, jb0, jb1 => (if decide (i34 < i33) = true then
  if
      (bif
            (List.getD (l32.getD i34.toNat (dflt shVal.sl)) (Int.toNat jb0)
                  (dflt shVal)).1 !=
              0 then
          !rHas
              (l0.getD (Int.toNat i7)
                (dflt shRel))
              (l0.getD (Int.toNat i7)
                        (dflt shRel)).1.2.2.1
              (List.getD (l32.getD i34.toNat (dflt shVal.sl)) (Int.toNat jb0)
                (dflt shVal))
        else false) =
        true then
    false
  else
    bBound_11 n l0 i7 l11 i12 i13 l19 i20 i21 l32 i33 (IntKind.i64.wrap (i34 + 1)) ja0 ja1 ja2 ja3 ja4 ja5 ja6 ja7 ja8 ja9 ja10
      ja11 jb0 jb1
else bBound_5 n l0 l11 i12 i13 l19 i20 (IntKind.i64.wrap (i21 + 1)) ja0 ja1 ja2 ja3 ja4 ja5 ja6 ja7 ja8 ja9 ja10 ja11)
end
mutual
def bBoundC_2 : Nat → (List (Sem shRel)) → (List (Sem shRel)) → Int → Int → Bool
  | 0, _, _, _, _ => false
  | n + 1, l0, l11, i12, i13 => (if decide (i13 < i12) = true then
  if inB i13 l11.length = true then
    bBoundC_5 n l0 l11 i12 i13
      (l11.getD i13.toNat
                    (dflt shRel)).1.2.2.2.2.1
      (↑(List.length
            (l11.getD i13.toNat
                          (dflt shRel)).1.2.2.2.2.1) :
        Int)
      0
      (l11.getD i13.toNat
            (dflt shRel)).1.1
      (l11.getD i13.toNat
              (dflt shRel)).1.2.1
      (l11.getD i13.toNat
                (dflt shRel)).1.2.2.1
      (l11.getD i13.toNat
                  (dflt shRel)).1.2.2.2.1
      (l11.getD i13.toNat
                    (dflt shRel)).1.2.2.2.2.1
      (ExprT.op
        (l11.getD i13.toNat
                      (dflt shRel)).1.2.2.2.2.2)
      (ExprT.v
          (l11.getD i13.toNat
                        (dflt shRel)).1.2.2.2.2.2).1
      (ExprT.v
            (l11.getD i13.toNat
                          (dflt shRel)).1.2.2.2.2.2).2.1
      (ExprT.v
            (l11.getD i13.toNat
                          (dflt shRel)).1.2.2.2.2.2).2.2
      (ExprT.s
        (l11.getD i13.toNat
                      (dflt shRel)).1.2.2.2.2.2)
      (ExprT.l
        (l11.getD i13.toNat
                      (dflt shRel)).1.2.2.2.2.2)
      (l11.getD i13.toNat
          (dflt shRel)).2
  else false
else true)
def bBoundC_5 : Nat → (List (Sem shRel)) → (List (Sem shRel)) → Int → Int → (List (Sem shFor)) → Int → Int → (Sem Sh.str) → (List (Sem shCol)) → (Sem shInt) → (List (Sem shInt)) → (List (Sem shFor)) → Str → Int → Int → Str → Str → (List (Sem Sh.expr)) → (List (Sem shVal.sl)) → Bool
  | 0, _, _, _, _, _, _, _, _, _, _, _, _, _, _, _, _, _, _, _ => false
  | n + 1, l0, l11, i12, i13, l19, i20, i21, ja0, ja1, ja2, ja3, ja4, ja5, ja6, ja7, ja8, ja9, ja10, ja11 => (if decide (i21 < i20) = true then
  if inB i21 l19.length = true then
    if decide (bFind l0 (l19.getD i21.toNat (dflt shFor)).2 < 0) = true then true
    else
      bBoundC_11 n l0 (bFind l0 (l19.getD i21.toNat (dflt shFor)).2) l11 i12 i13 l19 i20 i21 ja11 (↑ja11.length : Int) 0
        ja0 ja1 ja2 ja3 ja4 ja5 ja6 ja7 ja8 ja9 ja10 ja11 (l19.getD i21.toNat (dflt shFor)).1
        (l19.getD i21.toNat (dflt shFor)).2
  else false
else bBoundC_2 n l0 l11 i12 (IntKind.i64.wrap (i13 + 1)))
def bBoundC_11 : Nat → (List (Sem shRel)) → (Sem shInt) → (List (Sem shRel)) → Int → Int → (List (Sem shFor)) → Int → Int → (List (Sem shVal.sl)) → Int → Int → (Sem Sh.str) → (List (Sem shCol)) → (Sem shInt) → (List (Sem shInt)) → (List (Sem shFor)) → Str → Int → Int → Str → Str → (List (Sem Sh.expr)) → (List (Sem shVal.sl)) → (Sem shInt) → (Sem Sh.str) → Bool
  | 0, _, _, _, _, _, _, _, _, _, _, _, _, _, _, _, _, _, _, _, _, _, _, _, _, _ => false
  | n + 1, l0, i7, l11, i12, i13, l19, i20, i21, l32, i33, i34, ja0, ja1, ja2, ja3, ja4, ja5, ja6, ja7, ja8, ja9, ja10, ja11, jb0, jb1 => (if decide (i34 < i33) = true then
  if inB i34 l32.length = true then
    if inB jb0 (List.length (l32.getD i34.toNat (dflt shVal.sl))) = true then
      if
          (bif
                (List.getD (l32.getD i34.toNat (dflt shVal.sl)) (Int.toNat jb0)
                      (dflt shVal)).1 !=
                  0 then
              inB i7 l0.length && inB i7 l0.length
            else true) =
            true then
        if
            (bif
                  (List.getD (l32.getD i34.toNat (dflt shVal.sl)) (Int.toNat jb0)
                        (dflt shVal)).1 !=
                    0 then
                !rHas
                    (l0.getD (Int.toNat i7)
                      (dflt shRel))
                    (l0.getD (Int.toNat i7)
                              (dflt shRel)).1.2.2.1
                    (List.getD (l32.getD i34.toNat (dflt shVal.sl)) (Int.toNat jb0)
                      (dflt shVal))
              else false) =
              true then
          true
        else
          bBoundC_11 n l0 i7 l11 i12 i13 l19 i20 i21 l32 i33 (IntKind.i64.wrap (i34 + 1)) ja0 ja1 ja2 ja3 ja4 ja5 ja6 ja7 ja8 ja9
            ja10 ja11 jb0 jb1
      else false
    else false
  else false
else bBoundC_5 n l0 l11 i12 i13 l19 i20 (IntKind.i64.wrap (i21 + 1)) ja0 ja1 ja2 ja3 ja4 ja5 ja6 ja7 ja8 ja9 ja10 ja11)
end
mutual
theorem at72p_2 {C : Ctx} (hC : ∀ id, C.ρ0 id = none) : ∀ (n : Nat) (l0 : List
  (Sem shRel)) (l11 : List
  (Sem shRel)) (i12 : Int) (i13 : Int), bBoundC_2 n l0 l11 i12 i13 = true →
    Reach (env50) C 72 (headK Tryz.f72 2) (s72p_2 l0 l11 i12 i13) (fun r h => resOf h [Sh.bool] r = some (bBound_2 n l0 l11 i12 i13, ()))
  | 0, l0, l11, i12, i13, hc => by cases hc
  | n + 1, l0, l11, i12, i13, hc => by
    refine reach_ok env50_all env50_mix (ok72p) (fun id _ => hC id) (on72p_2 _ _ _ _) ?_
    rw [bBoundC_2] at hc
    generalize hy : bBound_2 (n + 1) l0 l11 i12 i13 = y
    rw [bBound_2] at hy
    try simp only [ExprT.eta]
    repeat' (first | with_reducible refine obr hy hc (fun _ hy hc => ?_) (fun _ hy hc => ?_) | with_reducible refine obr1 hy (fun _ hy => ?_) (fun _ hy => ?_) | with_reducible refine ochk hc (fun hc => ?_) | with_reducible refine OptOk_chkT ?_)
    all_goals first | (cases hc; done) | (subst hy; first | (change Reach _ _ _ _ _ _; refine at72p_2 hC n _ _ _ _ ?_ <;> exact hc) | (change Reach _ _ _ _ _ _; refine at72p_5 hC n _ _ _ _ _ _ _ _ _ _ _ _ _ _ _ _ _ _ _ ?_ <;> exact hc) | (change Reach _ _ _ _ _ _; refine at72p_11 hC n _ _ _ _ _ _ _ _ _ _ _ _ _ _ _ _ _ _ _ _ _ _ _ _ _ ?_ <;> exact hc) | rfl)
theorem at72p_5 {C : Ctx} (hC : ∀ id, C.ρ0 id = none) : ∀ (n : Nat) (l0 : List
  (Sem shRel)) (l11 : List
  (Sem shRel)) (i12 : Int) (i13 : Int) (l19 : LF) (i20 : Int) (i21 : Int) (ja0 : TS) (ja1 : LC) (ja2 : Sem shInt) (ja3 : LI) (ja4 : LF) (ja5 : Str) (ja6 : Int) (ja7 : Int) (ja8 : Str) (ja9 : Str) (ja10 : LX) (ja11 : List (Sem shVal.sl)), bBoundC_5 n l0 l11 i12 i13 l19 i20 i21 ja0 ja1 ja2 ja3 ja4 ja5 ja6 ja7 ja8 ja9 ja10 ja11 = true →
    Reach (env50) C 72 (headK Tryz.f72 5) (s72p_5 l0 l11 i12 i13 l19 i20 i21 ja0 ja1 ja2 ja3 ja4 ja5 ja6 ja7 ja8 ja9 ja10 ja11) (fun r h => resOf h [Sh.bool] r = some (bBound_5 n l0 l11 i12 i13 l19 i20 i21 ja0 ja1 ja2 ja3 ja4 ja5 ja6 ja7 ja8 ja9 ja10 ja11, ()))
  | 0, l0, l11, i12, i13, l19, i20, i21, ja0, ja1, ja2, ja3, ja4, ja5, ja6, ja7, ja8, ja9, ja10, ja11, hc => by cases hc
  | n + 1, l0, l11, i12, i13, l19, i20, i21, ja0, ja1, ja2, ja3, ja4, ja5, ja6, ja7, ja8, ja9, ja10, ja11, hc => by
    refine reach_ok env50_all env50_mix (ok72p) (fun id _ => hC id) (on72p_5 _ _ _ _ _ _ _ _ _ _ _ _ _ _ _ _ _ _ _) ?_
    rw [bBoundC_5] at hc
    generalize hy : bBound_5 (n + 1) l0 l11 i12 i13 l19 i20 i21 ja0 ja1 ja2 ja3 ja4 ja5 ja6 ja7 ja8 ja9 ja10 ja11 = y
    rw [bBound_5] at hy
    try simp only [ExprT.eta]
    repeat' (first | with_reducible refine obr hy hc (fun _ hy hc => ?_) (fun _ hy hc => ?_) | with_reducible refine obr1 hy (fun _ hy => ?_) (fun _ hy => ?_) | with_reducible refine ochk hc (fun hc => ?_) | with_reducible refine OptOk_chkT ?_)
    all_goals first | (cases hc; done) | (subst hy; first | (change Reach _ _ _ _ _ _; refine at72p_2 hC n _ _ _ _ ?_ <;> exact hc) | (change Reach _ _ _ _ _ _; refine at72p_5 hC n _ _ _ _ _ _ _ _ _ _ _ _ _ _ _ _ _ _ _ ?_ <;> exact hc) | (change Reach _ _ _ _ _ _; refine at72p_11 hC n _ _ _ _ _ _ _ _ _ _ _ _ _ _ _ _ _ _ _ _ _ _ _ _ _ ?_ <;> exact hc) | rfl)
theorem at72p_11 {C : Ctx} (hC : ∀ id, C.ρ0 id = none) : ∀ (n : Nat) (l0 : List
  (Sem shRel)) (i7 : Sem shInt) (l11 : List
  (Sem shRel)) (i12 : Int) (i13 : Int) (l19 : LF) (i20 : Int) (i21 : Int) (l32 : List (Sem shVal.sl)) (i33 : Int) (i34 : Int) (ja0 : TS) (ja1 : LC) (ja2 : Sem shInt) (ja3 : LI) (ja4 : LF) (ja5 : Str) (ja6 : Int) (ja7 : Int) (ja8 : Str) (ja9 : Str) (ja10 : LX) (ja11 : List (Sem shVal.sl)) (jb0 : Sem shInt) (jb1 : TS), bBoundC_11 n l0 i7 l11 i12 i13 l19 i20 i21 l32 i33 i34 ja0 ja1 ja2 ja3 ja4 ja5 ja6 ja7 ja8 ja9 ja10 ja11 jb0 jb1 = true →
    Reach (env50) C 72 (headK Tryz.f72 11) (s72p_11 l0 i7 l11 i12 i13 l19 i20 i21 l32 i33 i34 ja0 ja1 ja2 ja3 ja4 ja5 ja6 ja7 ja8 ja9 ja10 ja11 jb0 jb1) (fun r h => resOf h [Sh.bool] r = some (bBound_11 n l0 i7 l11 i12 i13 l19 i20 i21 l32 i33 i34 ja0 ja1 ja2 ja3 ja4 ja5 ja6 ja7 ja8 ja9 ja10 ja11 jb0 jb1, ()))
  | 0, l0, i7, l11, i12, i13, l19, i20, i21, l32, i33, i34, ja0, ja1, ja2, ja3, ja4, ja5, ja6, ja7, ja8, ja9, ja10, ja11, jb0, jb1, hc => by cases hc
  | n + 1, l0, i7, l11, i12, i13, l19, i20, i21, l32, i33, i34, ja0, ja1, ja2, ja3, ja4, ja5, ja6, ja7, ja8, ja9, ja10, ja11, jb0, jb1, hc => by
    refine reach_ok env50_all env50_mix (ok72p) (fun id _ => hC id) (on72p_11 _ _ _ _ _ _ _ _ _ _ _ _ _ _ _ _ _ _ _ _ _ _ _ _ _) ?_
    rw [bBoundC_11] at hc
    generalize hy : bBound_11 (n + 1) l0 i7 l11 i12 i13 l19 i20 i21 l32 i33 i34 ja0 ja1 ja2 ja3 ja4 ja5 ja6 ja7 ja8 ja9 ja10 ja11 jb0 jb1 = y
    rw [bBound_11] at hy
    try simp only [ExprT.eta]
    repeat' (first | with_reducible refine obr hy hc (fun _ hy hc => ?_) (fun _ hy hc => ?_) | with_reducible refine obr1 hy (fun _ hy => ?_) (fun _ hy => ?_) | with_reducible refine ochk hc (fun hc => ?_) | with_reducible refine OptOk_chkT ?_)
    all_goals first | (cases hc; done) | (subst hy; first | (change Reach _ _ _ _ _ _; refine at72p_2 hC n _ _ _ _ ?_ <;> exact hc) | (change Reach _ _ _ _ _ _; refine at72p_5 hC n _ _ _ _ _ _ _ _ _ _ _ _ _ _ _ _ _ _ _ ?_ <;> exact hc) | (change Reach _ _ _ _ _ _; refine at72p_11 hC n _ _ _ _ _ _ _ _ _ _ _ _ _ _ _ _ _ _ _ _ _ _ _ _ _ ?_ <;> exact hc) | rfl)
end
def bBound (x0 : Sem shRel.sl) : Sem Sh.bool := (bBound_2 100000000 x0 x0 (↑(List.length x0) : Int) 0)
def bBoundC (x0 : Sem shRel.sl) : Bool := (bBoundC_2 100000000 x0 x0 (↑(List.length x0) : Int) 0)
def F72p : FSem := plainC [shRel.sl] [Sh.bool] (fun x => bBoundC x.1) fun x => (bBound x.1, ())
theorem FOk72p : FOk (env50).P (env50).gl 72 F72p := by
  refine FOk_plainC (ok72p) fun x hc C hC => ?_
  unfold bBoundC at hc
  refine reach_ok env50_all env50_mix (ok72p) (fun id _ => hC id) (go72p x.1) ?_
  generalize hy : bBound x.1 = y
  unfold bBound at hy
  try simp only [ExprT.eta]
  repeat' (first | with_reducible refine obr hy hc (fun _ hy hc => ?_) (fun _ hy hc => ?_) | with_reducible refine obr1 hy (fun _ hy => ?_) (fun _ hy => ?_) | with_reducible refine ochk hc (fun hc => ?_) | with_reducible refine OptOk_chkT ?_)
  all_goals first | (cases hc; done) | (subst hy; first | (change Reach _ _ _ _ _ _; refine at72p_2 hC _ _ _ _ _ ?_ <;> exact hc) | (change Reach _ _ _ _ _ _; refine at72p_5 hC _ _ _ _ _ _ _ _ _ _ _ _ _ _ _ _ _ _ _ _ ?_ <;> exact hc) | (change Reach _ _ _ _ _ _; refine at72p_11 hC _ _ _ _ _ _ _ _ _ _ _ _ _ _ _ _ _ _ _ _ _ _ _ _ _ _ ?_ <;> exact hc) | rfl)

noncomputable def env51 : Env := (env50.add 72 F72p)
theorem env51_all : EnvAll env51 := (EnvAll.addS env50_all (SameE.refl env50) FOk72p)
theorem env51_mix : env51.P.follows .mixedOrders = true := (mix_add env50_mix _ _)
open Go Go.Proofs
set_option maxHeartbeats 4000000

abbrev kp34p : Nat → Keep := fun j => if j = 4 then { slots := [0, 3] } else if j = 9 then { slots := [0, 30, 31, 32] } else { }
abbrev s34p_4 (l0 : List (Sem shRel)) (i3 : Int) : St := { tmps := [AV.sl shRel l0, ny, ny, ai i3, ny, ny, ny, ny, ny, ny, ny, ny, ny, ny, ny, ny, ny, ny, ny, ny, ny, ny, ny, ny, ny, ny, ny, ny, ny, ny, ny, ny, ny, ny, ny, ny, ny, ny, ny, ny, ny, ny, ny, ny, ny], heap := [] }
theorem ok34p : fnChk (env51).P 34 Tryz.f34 1 := by refine ⟨?_, ?_, ?_, ?_⟩ <;> kernel_rfl
theorem go34p (x0 : Sem shRel.sl) : run (env51) 0 kp34p (Func.results Tryz.f34).toList 400 (bodyOf Tryz.f34) (initSt (Func.ntmps Tryz.f34) [datum shRel.sl x0] []) = Tr.br (decide ((↑(List.length x0) : Int) > 12)) (Tr.ok (Leaf.ret (ai 13) [])) (Tr.ok (Leaf.head 4 (headK Tryz.f34 4) (s34p_4 x0 1))) := by kernel_rfl
abbrev s34p_9 (l0 : List (Sem shRel)) (l30 : List (Sem shRel)) (i31 : Int) (i32 : Int) : St := { tmps := [AV.sl shRel l0, ny, ny, ny, ny, ny, ny, ny, ny, ny, ny, ny, ny, ny, ny, ny, ny, ny, ny, ny, ny, ny, ny, ny, ny, ny, ny, ny, ny, ny, AV.sl shRel l30, ai i31, ai i32, ny, ny, ny, ny, ny, ny, ny, ny, ny, ny, ny, ny], heap := [] }
theorem on34p_4 (l0 : List (Sem shRel)) (i3 : Int) : run (env51) 0 kp34p (Func.results Tryz.f34).toList 400 (headK Tryz.f34 4) (s34p_4 l0 i3) = Tr.br (decide (i3 < (↑l0.length : Int))) (Tr.chk (inB (IntKind.i64.wrap (i3 - 1)) l0.length) (Tr.chk (inB i3 l0.length) (Tr.br (!Op.bytesLess (l0.getD (IntKind.i64.wrap (i3 - 1)).toNat (dflt shRel)).1.1 (l0.getD i3.toNat (dflt shRel)).1.1) (Tr.ok (Leaf.ret (ai 15) [])) (Tr.ok (Leaf.head 4 (headK Tryz.f34 4) (s34p_4 l0 (IntKind.i64.wrap (i3 + 1)))))))) (Tr.ok (Leaf.head 9 (headK Tryz.f34 9) (s34p_9 l0 l0 (↑l0.length : Int) 0))) := by kernel_rfl
theorem on34p_9 (l0 : List (Sem shRel)) (l30 : List (Sem shRel)) (i31 : Int) (i32 : Int) : run (env51) 0 kp34p (Func.results Tryz.f34).toList 400 (headK Tryz.f34 9) (s34p_9 l0 l30 i31 i32) = Tr.br (decide (i32 < i31)) (Tr.chk (inB i32 l30.length) (Tr.chk (rCheckC (((l30.getD i32.toNat (dflt shRel)).1.1, (l30.getD i32.toNat (dflt shRel)).1.2.1, (l30.getD i32.toNat (dflt shRel)).1.2.2.1, (l30.getD i32.toNat (dflt shRel)).1.2.2.2.1, (l30.getD i32.toNat (dflt shRel)).1.2.2.2.2.1, ExprT.mk (ExprT.op (l30.getD i32.toNat (dflt shRel)).1.2.2.2.2.2) (ExprT.v (l30.getD i32.toNat (dflt shRel)).1.2.2.2.2.2) (ExprT.s (l30.getD i32.toNat (dflt shRel)).1.2.2.2.2.2) (ExprT.l (l30.getD i32.toNat (dflt shRel)).1.2.2.2.2.2)), (l30.getD i32.toNat (dflt shRel)).2)) (Tr.br (rCheck (((l30.getD i32.toNat (dflt shRel)).1.1, (l30.getD i32.toNat (dflt shRel)).1.2.1, (l30.getD i32.toNat (dflt shRel)).1.2.2.1, (l30.getD i32.toNat (dflt shRel)).1.2.2.2.1, (l30.getD i32.toNat (dflt shRel)).1.2.2.2.2.1, ExprT.mk (ExprT.op (l30.getD i32.toNat (dflt shRel)).1.2.2.2.2.2) (ExprT.v (l30.getD i32.toNat (dflt shRel)).1.2.2.2.2.2) (ExprT.s (l30.getD i32.toNat (dflt shRel)).1.2.2.2.2.2) (ExprT.l (l30.getD i32.toNat (dflt shRel)).1.2.2.2.2.2)), (l30.getD i32.toNat (dflt shRel)).2) != 0) (Tr.ok (Leaf.ret (AV.int IntKind.i64 (rCheck (((l30.getD i32.toNat (dflt shRel)).1.1, (l30.getD i32.toNat (dflt shRel)).1.2.1, (l30.getD i32.toNat (dflt shRel)).1.2.2.1, (l30.getD i32.toNat (dflt shRel)).1.2.2.2.1, (l30.getD i32.toNat
 (dflt shRel)).1.2.2.2.2.1, ExprT.mk (ExprT.op (l30.getD i32.toNat (dflt shRel)).1.2.2.2.2.2) (ExprT.v (l30.getD i32.toNat (dflt shRel)).1.2.2.2.2.2) (ExprT.s (l30.getD i32.toNat (dflt shRel)).1.2.2.2.2.2) (ExprT.l (l30.getD i32.toNat (dflt shRel)).1.2.2.2.2.2)), (l30.getD i32.toNat (dflt shRel)).2))) [])) (Tr.ok (Leaf.head 9 (headK Tryz.f34 9) (s34p_9 l0 l30 i31 (IntKind.i64.wrap (i32 + 1)))))))) (Tr.chk (bBoundC l0) (Tr.br (!bBound l0) (Tr.ok (Leaf.ret (ai 10) [])) (Tr.ok (Leaf.ret (ai 0) [])))) := by kernel_rfl
mutual
def bCheck_4 : Nat → (List (Sem shRel)) → Int → Sem shInt
  | 0, _, _ => default
  | n + 1, l0, i3 => (if decide (i3 < (↑l0.length : Int)) = true then
  if
      (!Op.bytesLess
            (l0.getD (IntKind.i64.wrap (i3 - 1)).toNat
                  (dflt shRel)).1.1
            (l0.getD i3.toNat
                  (dflt shRel)).1.1) =
        true then
    15
  else bCheck_4 n l0 (IntKind.i64.wrap (i3 + 1))
else bCheck_9 n l0 l0 (↑l0.length : Int) 0)
def bCheck_9 : Nat → (List (Sem shRel)) → (List (Sem shRel)) → Int → Int → Sem shInt
  | 0, _, _, _, _ => default
  | n + 1, l0, l30, i31, i32 => (if decide (i32 < i31) = true then
  if
      (rCheck
            (l30.getD i32.toNat
              (dflt shRel)) !=
          0) =
        true then
    rCheck
      (l30.getD i32.toNat
        (dflt shRel))
  else bCheck_9 n l0 l30 i31 (IntKind.i64.wrap (i32 + 1))
else if (!bBound l0) = true then 10 else 0)
end
mutual
def bCheckC_4 : Nat → (List (Sem shRel)) → Int → Bool
  | 0, _, _ => false
  | n + 1, l0, i3 => (if decide (i3 < (↑l0.length : Int)) = true then
  if inB (IntKind.i64.wrap (i3 - 1)) l0.length = true then
    if inB i3 l0.length = true then
      if
          (!Op.bytesLess
                (l0.getD (IntKind.i64.wrap (i3 - 1)).toNat
                      (dflt shRel)).1.1
                (l0.getD i3.toNat
                      (dflt shRel)).1.1) =
            true then
        true
      else bCheckC_4 n l0 (IntKind.i64.wrap (i3 + 1))
    else false
  else false
else bCheckC_9 n l0 l0 (↑l0.length : Int) 0)
def bCheckC_9 : Nat → (List (Sem shRel)) → (List (Sem shRel)) → Int → Int → Bool
  | 0, _, _, _, _ => false
  | n + 1, l0, l30, i31, i32 => (if decide (i32 < i31) = true then
  if inB i32 l30.length = true then
    if
        rCheckC
            (l30.getD i32.toNat
              (dflt shRel)) =
          true then
      if
          (rCheck
                (l30.getD i32.toNat
                  (dflt shRel)) !=
              0) =
            true then
        true
      else bCheckC_9 n l0 l30 i31 (IntKind.i64.wrap (i32 + 1))
    else false
  else false
else if bBoundC l0 = true then true else false)
end
mutual
theorem at34p_4 {C : Ctx} (hC : ∀ id, C.ρ0 id = none) : ∀ (n : Nat) (l0 : List
  (Sem shRel)) (i3 : Int), bCheckC_4 n l0 i3 = true →
    Reach (env51) C 34 (headK Tryz.f34 4) (s34p_4 l0 i3) (fun r h => resOf h [shInt] r = some (bCheck_4 n l0 i3, ()))
  | 0, l0, i3, hc => by cases hc
  | n + 1, l0, i3, hc => by
    refine reach_ok env51_all env51_mix (ok34p) (fun id _ => hC id) (on34p_4 _ _) ?_
    rw [bCheckC_4] at hc
    generalize hy : bCheck_4 (n + 1) l0 i3 = y
    rw [bCheck_4] at hy
    try simp only [ExprT.eta]
    repeat' (first | with_reducible refine obr hy hc (fun _ hy hc => ?_) (fun _ hy hc => ?_) | with_reducible refine obr1 hy (fun _ hy => ?_) (fun _ hy => ?_) | with_reducible refine ochk hc (fun hc => ?_) | with_reducible refine OptOk_chkT ?_)
    all_goals first | (cases hc; done) | (subst hy; first | (change Reach _ _ _ _ _ _; refine at34p_4 hC n _ _ ?_ <;> exact hc) | (change Reach _ _ _ _ _ _; refine at34p_9 hC n _ _ _ _ ?_ <;> exact hc) | rfl)
theorem at34p_9 {C : Ctx} (hC : ∀ id, C.ρ0 id = none) : ∀ (n : Nat) (l0 : List
  (Sem shRel)) (l30 : List
  (Sem shRel)) (i31 : Int) (i32 : Int), bCheckC_9 n l0 l30 i31 i32 = true →
    Reach (env51) C 34 (headK Tryz.f34 9) (s34p_9 l0 l30 i31 i32) (fun r h => resOf h [shInt] r = some (bCheck_9 n l0 l30 i31 i32, ()))
  | 0, l0, l30, i31, i32, hc => by cases hc
  | n + 1, l0, l30, i31, i32, hc => by
    refine reach_ok env51_all env51_mix (ok34p) (fun id _ => hC id) (on34p_9 _ _ _ _) ?_
    rw [bCheckC_9] at hc
    generalize hy : bCheck_9 (n + 1) l0 l30 i31 i32 = y
    rw [bCheck_9] at hy
    try simp only [ExprT.eta]
    repeat' (first | with_reducible refine obr hy hc (fun _ hy hc => ?_) (fun _ hy hc => ?_) | with_reducible refine obr1 hy (fun _ hy => ?_) (fun _ hy => ?_) | with_reducible refine ochk hc (fun hc => ?_) | with_reducible refine OptOk_chkT ?_)
    all_goals first | (cases hc; done) | (subst hy; first | (change Reach _ _ _ _ _ _; refine at34p_4 hC n _ _ ?_ <;> exact hc) | (change Reach _ _ _ _ _ _; refine at34p_9 hC n _ _ _ _ ?_ <;> exact hc) | rfl)
end
def bCheck (x0 : Sem shRel.sl) : Sem shInt := (if decide ((↑(List.length x0) : Int) > 12) = true then 13 else bCheck_4 100000000 x0 1)
def bCheckC (x0 : Sem shRel.sl) : Bool := (if decide ((↑(List.length x0) : Int) > 12) = true then true else bCheckC_4 100000000 x0 1)
def F34p : FSem := plainC [shRel.sl] [shInt] (fun x => bCheckC x.1) fun x => (bCheck x.1, ())
theorem FOk34p : FOk (env51).P (env51).gl 34 F34p := by
  refine FOk_plainC (ok34p) fun x hc C hC => ?_
  unfold bCheckC at hc
  refine reach_ok env51_all env51_mix (ok34p) (fun id _ => hC id) (go34p x.1) ?_
  generalize hy : bCheck x.1 = y
  unfold bCheck at hy
  try simp only [ExprT.eta]
  repeat' (first | with_reducible refine obr hy hc (fun _ hy hc => ?_) (fun _ hy hc => ?_) | with_reducible refine obr1 hy (fun _ hy => ?_) (fun _ hy => ?_) | with_reducible refine ochk hc (fun hc => ?_) | with_reducible refine OptOk_chkT ?_)
  all_goals first | (cases hc; done) | (subst hy; first | (change Reach _ _ _ _ _ _; refine at34p_4 hC _ _ _ ?_ <;> exact hc) | (change Reach _ _ _ _ _ _; refine at34p_9 hC _ _ _ _ _ ?_ <;> exact hc) | rfl)

noncomputable def env52 : Env := (env51.add 34 F34p)
theorem env52_all : EnvAll env52 := (EnvAll.addS env51_all (SameE.refl env51) FOk34p)
theorem env52_mix : env52.P.follows .mixedOrders = true := (mix_add env51_mix _ _)
open Go Go.Proofs
set_option maxHeartbeats 4000000
abbrev shPlan : Sh := .pr .str (.pr .str (.pr .str (.pr shTable (.pr (.sl shInt) shInt))))
abbrev cpMk : List CP := [.d (.sl shRel), .d shStmt, .d shTable, .d shTable, .d .str, .d .str, .d .str, .d .str, .nil, .d shInt, .nil, .nil, .d .expr, .nil, .d shInt]
abbrev cpMk3 : List CP := [.d (.sl shRel), .d shStmt, .d shTable, .d shTable, .d .str, .d .str, .d .str, .d .str, .vec shCol, .d shInt, .nil, .nil, .d .expr, .d (.sl shInt), .d shInt]

abbrev kp67p : Nat → Keep := fun j => if j = 2 then { slots := [0, 1, 7, 8] } else { }
abbrev s67p_2 (l0 : LI) (i1 : Sem shInt) (i7 : Int) (i8 : Int) : St := { tmps := [AV.sl shInt l0, ai i1, ny, ny, ny, ny, ny, ai i7, ai i8, ny, ny, ny, ny, ny, ny, ny, ny, ny, ny], heap := [] }
theorem ok67p : fnChk (env52).P 67 Tryz.f67 2 := by refine ⟨?_, ?_, ?_, ?_⟩ <;> kernel_rfl
theorem go67p (x0 : Sem shInt.sl) (x1 : Sem shInt) : run (env52) 0 kp67p (Func.results Tryz.f67).toList 400 (bodyOf Tryz.f67) (initSt (Func.ntmps Tryz.f67) [datum shInt.sl x0, datum shInt x1] []) = Tr.ok (Leaf.head 2 (headK Tryz.f67 2) (s67p_2 x0 x1 (↑(List.length x0) : Int) 0)) := by kernel_rfl
theorem on67p_2 (l0 : LI) (i1 : Sem shInt) (i7 : Int) (i8 : Int) : run (env52) 0 kp67p (Func.results Tryz.f67).toList 400 (headK Tryz.f67 2) (s67p_2 l0 i1 i7 i8) = Tr.br (decide (i8 < i7)) (Tr.chk (inB i8 l0.length) (Tr.br (i1 == l0.getD i8.toNat (dflt shInt)) (Tr.ok (Leaf.ret (ai i8) [])) (Tr.ok (Leaf.head 2 (headK Tryz.f67 2) (s67p_2 l0 i1 i7 (IntKind.i64.wrap (i8 + 1))))))) (Tr.ok (Leaf.ret (ai (-1)) [])) := by kernel_rfl
def ixInt_2 (i1 : Sem shInt) : List (Sem shInt) → Int → Sem shInt
  | [], _ => (-1)
  | x :: r, i8 => (if (i1 == x) = true then i8 else ixInt_2 i1 r (i8 + 1))
theorem at67p_2 {C : Ctx} (hC : ∀ id, C.ρ0 id = none) (i1 : Sem shInt) (l0 : LI) (hl : l0.length ≤ maxStr) : ∀ (m i : Nat), l0.length - i = m → i ≤ l0.length →
    Reach (env52) C 67 (headK Tryz.f67 2) (s67p_2 l0 i1 (l0.length : Int) (i : Int)) (fun r h => resOf h [shInt] r = some (ixInt_2 i1 (l0.drop i) i, ())) := by
  intro m
  induction m with
  | zero =>
    intro i hm hi
    obtain rfl : i = l0.length := by omega
    rw [List.drop_length]
    refine reach_ok env52_all env52_mix (ok67p) (fun id _ => hC id) (on67p_2 _ _ _ _) ?_
    generalize hy : ixInt_2 i1 [] _ = y
    rw [ixInt_2] at hy
    simp only [lt_dec', Tr.val_brF]
    repeat' (first | with_reducible refine obr1 hy (fun _ hy => ?_) (fun _ hy => ?_) | with_reducible refine OptOk_chkT ?_)
    all_goals first | (cases hc; done) | (subst hy; first | rfl)
  | succ m IH =>
    intro i hm hi
    have hlt : i < l0.length := by omega
    have IH := IH (i + 1)
    have hcast : ((i : Int) + 1) = ((i + 1 : Nat) : Int) := by omega
    have hwr := wrap_add i (by omega)
    rw [List.drop_eq_getElem_cons hlt]
    refine reach_ok env52_all env52_mix (ok67p) (fun id _ => hC id) (on67p_2 _ _ _ _) ?_
    generalize hy : ixInt_2 i1 (l0[i] :: l0.drop (i + 1)) (i : Int) = y
    rw [ixInt_2] at hy
    simp only [lt_dec hlt, inB_of hlt, getD_at l0 _ hlt, hwr, Tr.val_brT, Tr.val_chkT]
    clear hwr
    try simp only [inB_of hlt] at hy
    simp only [hcast] at hy
    repeat' (first | with_reducible refine obr1 hy (fun _ hy => ?_) (fun _ hy => ?_) | with_reducible refine OptOk_chkT ?_)
    all_goals first | (cases hc; done) | (subst hy; first | (change Reach _ _ _ _ _ _; apply IH <;> first | omega | assumption) | rfl)
theorem at67p_2s {C : Ctx} (hC : ∀ id, C.ρ0 id = none) (i1 : Sem shInt) (l0 : LI) :
    Reach (env52) C 67 (headK Tryz.f67 2) (s67p_2 l0 i1 (l0.length : Int) 0) (fun r h => resOf h [shInt] r = some (ixInt_2 i1 l0 0, ())) :=
  Reach.len 0 (Sh.int IntKind.i64) l0 rfl fun hl => at67p_2 hC i1 l0 hl _ 0 rfl (Nat.zero_le _)
def ixInt (x0 : Sem shInt.sl) (x1 : Sem shInt) : Sem shInt := (ixInt_2 x1 x0 0)
def F67p : FSem := plainT [shInt.sl, shInt] [shInt] fun x => (ixInt x.1 x.2.1, ())
theorem FOk67p : FOk (env52).P (env52).gl 67 F67p := by
  refine FOk_plainT (ok67p) fun x C hC => ?_
  refine reach_ok env52_all env52_mix (ok67p) (fun id _ => hC id) (go67p x.1 x.2.1) ?_
  generalize hy : ixInt x.1 x.2.1 = y
  unfold ixInt at hy
  try simp only [ExprT.eta]
  repeat' (first | with_reducible refine obr1 hy (fun _ hy => ?_) (fun _ hy => ?_) | with_reducible refine OptOk_chkT ?_)
  all_goals first | (cases hc; done) | (subst hy; first | (change Reach _ _ _ _ _ _; apply at67p_2s hC <;> first | assumption | exact hc) | rfl)

abbrev kp90p : Nat → Keep := fun j => if j = 2 then { slots := [0, 1, 7, 8] } else { }
abbrev s90p_2 (l0 : LS) (s1 : TS) (i7 : Int) (i8 : Int) : St := { tmps := [AV.sl Sh.str l0, AV.str s1, ny, ny, ny, ny, ny, ai i7, ai i8, ny, ny, ny, ny, ny, ny, ny, ny, ny, ny], heap := [] }
theorem ok90p : fnChk (env52).P 90 Tryz.f90 2 := by refine ⟨?_, ?_, ?_, ?_⟩ <;> kernel_rfl
theorem go90p (x0 : Sem Sh.str.sl) (x1 : TS) : run (env52) 0 kp90p (Func.results Tryz.f90).toList 400 (bodyOf Tryz.f90) (initSt (Func.ntmps Tryz.f90) [datum Sh.str.sl x0, datum Sh.str x1] []) = Tr.ok (Leaf.head 2 (headK Tryz.f90 2) (s90p_2 x0 x1 (↑(List.length x0) : Int) 0)) := by kernel_rfl
theorem on90p_2 (l0 : LS) (s1 : TS) (i7 : Int) (i8 : Int) : run (env52) 0 kp90p (Func.results Tryz.f90).toList 400 (headK Tryz.f90 2) (s90p_2 l0 s1 i7 i8) = Tr.br (decide (i8 < i7)) (Tr.chk (inB i8 l0.length) (Tr.br (s1 == l0.getD i8.toNat (dflt Sh.str)) (Tr.ok (Leaf.ret (ai i8) [])) (Tr.ok (Leaf.head 2 (headK Tryz.f90 2) (s90p_2 l0 s1 i7 (IntKind.i64.wrap (i8 + 1))))))) (Tr.ok (Leaf.ret (ai (-1)) [])) := by kernel_rfl
def ixStr_2 (s1 : TS) : List (Sem Sh.str) → Int → Sem shInt
  | [], _ => (-1)
  | x :: r, i8 => (if (s1 == x) = true then i8 else ixStr_2 s1 r (i8 + 1))
theorem at90p_2 {C : Ctx} (hC : ∀ id, C.ρ0 id = none) (s1 : TS) (l0 : LS) (hl : l0.length ≤ maxStr) : ∀ (m i : Nat), l0.length - i = m → i ≤ l0.length →
    Reach (env52) C 90 (headK Tryz.f90 2) (s90p_2 l0 s1 (l0.length : Int) (i : Int)) (fun r h => resOf h [shInt] r = some (ixStr_2 s1 (l0.drop i) i, ())) := by
  intro m
  induction m with
  | zero =>
    intro i hm hi
    obtain rfl : i = l0.length := by omega
    rw [List.drop_length]
    refine reach_ok env52_all env52_mix (ok90p) (fun id _ => hC id) (on90p_2 _ _ _ _) ?_
    generalize hy : ixStr_2 s1 [] _ = y
    rw [ixStr_2] at hy
    simp only [lt_dec', Tr.val_brF]
    repeat' (first | with_reducible refine obr1 hy (fun _ hy => ?_) (fun _ hy => ?_) | with_reducible refine OptOk_chkT ?_)
    all_goals first | (cases hc; done) | (subst hy; first | rfl)
  | succ m IH =>
    intro i hm hi
    have hlt : i < l0.length := by omega
    have IH := IH (i + 1)
    have hcast : ((i : Int) + 1) = ((i + 1 : Nat) : Int) := by omega
    have hwr := wrap_add i (by omega)
    rw [List.drop_eq_getElem_cons hlt]
    refine reach_ok env52_all env52_mix (ok90p) (fun id _ => hC id) (on90p_2 _ _ _ _) ?_
    generalize hy : ixStr_2 s1 (l0[i] :: l0.drop (i + 1)) (i : Int) = y
    rw [ixStr_2] at hy
    simp only [lt_dec hlt, inB_of hlt, getD_at l0 _ hlt, hwr, Tr.val_brT, Tr.val_chkT]
    clear hwr
    try simp only [inB_of hlt] at hy
    simp only [hcast] at hy
    repeat' (first | with_reducible refine obr1 hy (fun _ hy => ?_) (fun _ hy => ?_) | with_reducible refine OptOk_chkT ?_)
    all_goals first | (cases hc; done) | (subst hy; first | (change Reach _ _ _ _ _ _; apply IH <;> first | omega | assumption) | rfl)
theorem at90p_2s {C : Ctx} (hC : ∀ id, C.ρ0 id = none) (s1 : TS) (l0 : LS) :
    Reach (env52) C 90 (headK Tryz.f90 2) (s90p_2 l0 s1 (l0.length : Int) 0) (fun r h => resOf h [shInt] r = some (ixStr_2 s1 l0 0, ())) :=
  Reach.len 0 (Sh.str) l0 rfl fun hl => at90p_2 hC s1 l0 hl _ 0 rfl (Nat.zero_le _)
def ixStr (x0 : Sem Sh.str.sl) (x1 : TS) : Sem shInt := (ixStr_2 x1 x0 0)
def F90p : FSem := plainT [Sh.str.sl, Sh.str] [shInt] fun x => (ixStr x.1 x.2.1, ())
theorem FOk90p : FOk (env52).P (env52).gl 90 F90p := by
  refine FOk_plainT (ok90p) fun x C hC => ?_
  refine reach_ok env52_all env52_mix (ok90p) (fun id _ => hC id) (go90p x.1 x.2.1) ?_
  generalize hy : ixStr x.1 x.2.1 = y
  unfold ixStr at hy
  try simp only [ExprT.eta]
  repeat' (first | with_reducible refine obr1 hy (fun _ hy => ?_) (fun _ hy => ?_) | with_reducible refine OptOk_chkT ?_)
  all_goals first | (cases hc; done) | (subst hy; first | (change Reach _ _ _ _ _ _; apply at90p_2s hC <;> first | assumption | exact hc) | rfl)

abbrev kp117p : Nat → Keep := fun j => if j = 2 then { slots := [0, 3, 7, 8] } else { }
abbrev s117p_2 (l0 : LF) (i7 : Int) (i8 : Int) (ja0 : Sem shInt) (ja1 : TS) : St := { tmps := [AV.sl shFor l0, ny, ny, AV.ptr 0 0, ny, ny, ny, ai i7, ai i8, ny, ny, ny, ny, ny, ny, ny, ny, ny, ny], heap := [AO.box [ai ja0, AV.str ja1]] }
theorem ok117p : fnChk (env52).P 117 Tryz.f117 2 := by refine ⟨?_, ?_, ?_, ?_⟩ <;> kernel_rfl
theorem go117p (x0 : Sem shFor.sl) (x1 : Sem shFor) : run (env52) 0 kp117p (Func.results Tryz.f117).toList 400 (bodyOf Tryz.f117) (initSt (Func.ntmps Tryz.f117) [datum shFor.sl x0, datum shFor x1] []) = Tr.ok (Leaf.head 2 (headK Tryz.f117 2) (s117p_2 x0 (↑(List.length x0) : Int) 0 x1.1 x1.2)) := by kernel_rfl
theorem on117p_2 (l0 : LF) (i7 : Int) (i8 : Int) (ja0 : Sem shInt) (ja1 : TS) : run (env52) 0 kp117p (Func.results Tryz.f117).toList 400 (headK Tryz.f117 2) (s117p_2 l0 i7 i8 ja0 ja1) = Tr.br (decide (i8 < i7)) (Tr.chk (inB i8 l0.length) (Tr.br (ja0 == (l0.getD i8.toNat (dflt shFor)).1 && (ja1 == (l0.getD i8.toNat (dflt shFor)).2 && true)) (Tr.ok (Leaf.ret (ai i8) [])) (Tr.ok (Leaf.head 2 (headK Tryz.f117 2) (s117p_2 l0 i7 (IntKind.i64.wrap (i8 + 1)) ja0 ja1))))) (Tr.ok (Leaf.ret (ai (-1)) [])) := by kernel_rfl
def ixFor_2 (ja0 : Sem shInt) (ja1 : TS) : List (Sem shFor) → Int → Sem shInt
  | [], _ => (-1)
  | x :: r, i8 => (if (ja0 == x.1 && (ja1 == x.2 && true)) = true then i8 else ixFor_2 ja0 ja1 r (i8 + 1))
theorem at117p_2 {C : Ctx} (hC : ∀ id, C.ρ0 id = none) (ja0 : Sem shInt) (ja1 : TS) (l0 : LF) (hl : l0.length ≤ maxStr) : ∀ (m i : Nat), l0.length - i = m → i ≤ l0.length →
    Reach (env52) C 117 (headK Tryz.f117 2) (s117p_2 l0 (l0.length : Int) (i : Int) ja0 ja1) (fun r h => resOf h [shInt] r = some (ixFor_2 ja0 ja1 (l0.drop i) i, ())) := by
  intro m
  induction m with
  | zero =>
    intro i hm hi
    obtain rfl : i = l0.length := by omega
    rw [List.drop_length]
    refine reach_ok env52_all env52_mix (ok117p) (fun id _ => hC id) (on117p_2 _ _ _ _ _) ?_
    generalize hy : ixFor_2 ja0 ja1 [] _ = y
    rw [ixFor_2] at hy
    simp only [lt_dec', Tr.val_brF]
    repeat' (first | with_reducible refine obr1 hy (fun _ hy => ?_) (fun _ hy => ?_) | with_reducible refine OptOk_chkT ?_)
    all_goals first | (cases hc; done) | (subst hy; first | rfl)
  | succ m IH =>
    intro i hm hi
    have hlt : i < l0.length := by omega
    have IH := IH (i + 1)
    have hcast : ((i : Int) + 1) = ((i + 1 : Nat) : Int) := by omega
    have hwr := wrap_add i (by omega)
    rw [List.drop_eq_getElem_cons hlt]
    refine reach_ok env52_all env52_mix (ok117p) (fun id _ => hC id) (on117p_2 _ _ _ _ _) ?_
    generalize hy : ixFor_2 ja0 ja1 (l0[i] :: l0.drop (i + 1)) (i : Int) = y
    rw [ixFor_2] at hy
    simp only [lt_dec hlt, inB_of hlt, getD_at l0 _ hlt, hwr, Tr.val_brT, Tr.val_chkT]
    clear hwr
    try simp only [inB_of hlt] at hy
    simp only [hcast] at hy
    repeat' (first | with_reducible refine obr1 hy (fun _ hy => ?_) (fun _ hy => ?_) | with_reducible refine OptOk_chkT ?_)
    all_goals first | (cases hc; done) | (subst hy; first | (change Reach _ _ _ _ _ _; apply IH <;> first | omega | assumption) | rfl)
theorem at117p_2s {C : Ctx} (hC : ∀ id, C.ρ0 id = none) (ja0 : Sem shInt) (ja1 : TS) (l0 : LF) :
    Reach (env52) C 117 (headK Tryz.f117 2) (s117p_2 l0 (l0.length : Int) 0 ja0 ja1) (fun r h => resOf h [shInt] r = some (ixFor_2 ja0 ja1 l0 0, ())) :=
  Reach.len 0 (shInt.pr Sh.str) l0 rfl fun hl => at117p_2 hC ja0 ja1 l0 hl _ 0 rfl (Nat.zero_le _)
def ixFor (x0 : Sem shFor.sl) (x1 : Sem shFor) : Sem shInt := (ixFor_2 x1.1 x1.2 x0 0)
def F117p : FSem := plainT [shFor.sl, shFor] [shInt] fun x => (ixFor x.1 x.2.1, ())
theorem FOk117p : FOk (env52).P (env52).gl 117 F117p := by
  refine FOk_plainT (ok117p) fun x C hC => ?_
  refine reach_ok env52_all env52_mix (ok117p) (fun id _ => hC id) (go117p x.1 x.2.1) ?_
  generalize hy : ixFor x.1 x.2.1 = y
  unfold ixFor at hy
  try simp only [ExprT.eta]
  repeat' (first | with_reducible refine obr1 hy (fun _ hy => ?_) (fun _ hy => ?_) | with_reducible refine OptOk_chkT ?_)
  all_goals first | (cases hc; done) | (subst hy; first | (change Reach _ _ _ _ _ _; apply at117p_2s hC <;> first | assumption | exact hc) | rfl)

abbrev kp16p : Nat → Keep := fun _ => { }
theorem ok16p : fnChk (env52).P 16 Tryz.f16 1 := by refine ⟨?_, ?_, ?_, ?_⟩ <;> kernel_rfl
theorem go16p (x0 : Sem shPlan) : run (env52) 0 kp16p (Func.results Tryz.f16).toList 400 (bodyOf Tryz.f16) (initSt (Func.ntmps Tryz.f16) [datum shPlan x0] []) = Tr.br (x0.2.2.1 == []) (Tr.ok (Leaf.ret (AV.sl Sh.str [x0.2.1]) [])) (Tr.ok (Leaf.ret (AV.sl Sh.str [x0.2.1, x0.2.2.1]) [])) := by kernel_rfl
def pSources (x0 : Sem shPlan) : Sem Sh.str.sl := (if (x0.2.2.1 == []) = true then [x0.2.1] else [x0.2.1, x0.2.2.1])
def F16p : FSem := plainT [shPlan] [Sh.str.sl] fun x => (pSources x.1, ())
theorem FOk16p : FOk (env52).P (env52).gl 16 F16p := by
  refine FOk_plainT (ok16p) fun x C hC => ?_
  refine reach_ok env52_all env52_mix (ok16p) (fun id _ => hC id) (go16p x.1) ?_
  generalize hy : pSources x.1 = y
  unfold pSources at hy
  try simp only [ExprT.eta]
  repeat' (first | with_reducible refine obr1 hy (fun _ hy => ?_) (fun _ hy => ?_) | with_reducible refine OptOk_chkT ?_)
  all_goals first | (cases hc; done) | (subst hy; first | rfl)

noncomputable def F115p : FSem := liftF (List.replicate 2 none) (autoG env52 Tryz.f115 (List.replicate 2 none))
theorem FOk115p : FOk env52.P env52.gl 115 F115p := FOk_auto _ env52_all env52_mix (by refine ⟨?_, ?_, ?_, ?_⟩ <;> kernel_rfl)

noncomputable def env53 : Env := (((((env52.add 67 F67p).add 90 F90p).add 117 F117p).add 16 F16p).add 115 F115p)
theorem env53_all : EnvAll env53 := (EnvAll.addS (EnvAll.addS (EnvAll.addS (EnvAll.addS (EnvAll.addS env52_all (SameE.refl env52) FOk67p) ((SameE.refl env52).add _ _) FOk90p) (((SameE.refl env52).add _ _).add _ _) FOk117p) ((((SameE.refl env52).add _ _).add _ _).add _ _) FOk16p) (((((SameE.refl env52).add _ _).add _ _).add _ _).add _ _) FOk115p)
theorem env53_mix : env53.P.follows .mixedOrders = true := (mix_add (mix_add (mix_add (mix_add (mix_add env52_mix _ _) _ _) _ _) _ _) _ _)
open Go Go.Proofs
set_option maxHeartbeats 4000000

abbrev kp116p : Nat → Keep := fun _ => { }
theorem ok116p : fnChk (env53).P 116 Tryz.f116 2 := by refine ⟨?_, ?_, ?_, ?_⟩ <;> kernel_rfl
theorem go116p (x0 : Sem shInt.sl) (x1 : Sem shInt) : run (env53) 0 kp116p (Func.results Tryz.f116).toList 400 (bodyOf Tryz.f116) (initSt (Func.ntmps Tryz.f116) [datum shInt.sl x0, datum shInt x1] []) = Tr.ok (Leaf.ret (AV.bool (decide (ixInt x0 x1 ≥ 0))) []) := by kernel_rfl
def hasInt (x0 : Sem shInt.sl) (x1 : Sem shInt) : Sem Sh.bool := (decide (ixInt x0 x1 ≥ 0))
def F116p : FSem := plainT [shInt.sl, shInt] [Sh.bool] fun x => (hasInt x.1 x.2.1, ())
theorem FOk116p : FOk (env53).P (env53).gl 116 F116p := by
  refine FOk_plainT (ok116p) fun x C hC => ?_
  refine reach_ok env53_all env53_mix (ok116p) (fun id _ => hC id) (go116p x.1 x.2.1) ?_
  generalize hy : hasInt x.1 x.2.1 = y
  unfold hasInt at hy
  try simp only [ExprT.eta]
  repeat' (first | with_reducible refine obr1 hy (fun _ hy => ?_) (fun _ hy => ?_) | with_reducible refine OptOk_chkT ?_)
  all_goals first | (cases hc; done) | (subst hy; first | rfl)

abbrev kp50p : Nat → Keep := fun _ => { }
theorem ok50p : fnChk (env53).P 50 Tryz.f50 2 := by refine ⟨?_, ?_, ?_, ?_⟩ <;> kernel_rfl
theorem go50p (x0 : Sem Sh.str.sl) (x1 : TS) : run (env53) 0 kp50p (Func.results Tryz.f50).toList 400 (bodyOf Tryz.f50) (initSt (Func.ntmps Tryz.f50) [datum Sh.str.sl x0, datum Sh.str x1] []) = Tr.ok (Leaf.ret (AV.bool (decide (ixStr x0 x1 ≥ 0))) []) := by kernel_rfl
def hasStr (x0 : Sem Sh.str.sl) (x1 : TS) : Sem Sh.bool := (decide (ixStr x0 x1 ≥ 0))
def F50p : FSem := plainT [Sh.str.sl, Sh.str] [Sh.bool] fun x => (hasStr x.1 x.2.1, ())
theorem FOk50p : FOk (env53).P (env53).gl 50 F50p := by
  refine FOk_plainT (ok50p) fun x C hC => ?_
  refine reach_ok env53_all env53_mix (ok50p) (fun id _ => hC id) (go50p x.1 x.2.1) ?_
  generalize hy : hasStr x.1 x.2.1 = y
  unfold hasStr at hy
  try simp only [ExprT.eta]
  repeat' (first | with_reducible refine obr1 hy (fun _ hy => ?_) (fun _ hy => ?_) | with_reducible refine OptOk_chkT ?_)
  all_goals first | (cases hc; done) | (subst hy; first | rfl)

abbrev kp68p : Nat → Keep := fun _ => { }
theorem ok68p : fnChk (env53).P 68 Tryz.f68 2 := by refine ⟨?_, ?_, ?_, ?_⟩ <;> kernel_rfl
theorem go68p (x0 : Sem shFor.sl) (x1 : Sem shFor) : run (env53) 0 kp68p (Func.results Tryz.f68).toList 400 (bodyOf Tryz.f68) (initSt (Func.ntmps Tryz.f68) [datum shFor.sl x0, datum shFor x1] []) = Tr.ok (Leaf.ret (AV.bool (decide (ixFor x0 x1 ≥ 0))) []) := by kernel_rfl
def hasFor (x0 : Sem shFor.sl) (x1 : Sem shFor) : Sem Sh.bool := (decide (ixFor x0 x1 ≥ 0))
def F68p : FSem := plainT [shFor.sl, shFor] [Sh.bool] fun x => (hasFor x.1 x.2.1, ())
theorem FOk68p : FOk (env53).P (env53).gl 68 F68p := by
  refine FOk_plainT (ok68p) fun x C hC => ?_
  refine reach_ok env53_all env53_mix (ok68p) (fun id _ => hC id) (go68p x.1 x.2.1) ?_
  generalize hy : hasFor x.1 x.2.1 = y
  unfold hasFor at hy
  try simp only [ExprT.eta]
  repeat' (first | with_reducible refine obr1 hy (fun _ hy => ?_) (fun _ hy => ?_) | with_reducible refine OptOk_chkT ?_)
  all_goals first | (cases hc; done) | (subst hy; first | rfl)

noncomputable def env54 : Env := (((env53.add 116 F116p).add 50 F50p).add 68 F68p)
theorem env54_all : EnvAll env54 := (EnvAll.addS (EnvAll.addS (EnvAll.addS env53_all (SameE.refl env53) FOk116p) ((SameE.refl env53).add _ _) FOk50p) (((SameE.refl env53).add _ _).add _ _) FOk68p)
theorem env54_mix : env54.P.follows .mixedOrders = true := (mix_add (mix_add (mix_add env53_mix _ _) _ _) _ _)
open Go

def tm (n : Nat) (l : List (Nat × AV)) : List AV := l.foldl (fun a p => a.set p.1 p.2) (List.replicate n .any)

def iterR (E : Env) (n0 : Nat) (keep : Nat → Keep) (f : Func) (gas : Nat) : Nat → List Item → St → Option (AV × List AO)
  | 0, _, _ => none
  | n + 1, K, st => match (run E n0 keep f.results.toList gas K st).val with
    | some (.ret v h) => some (v, h)
    | some (.head _ K' st') => iterR E n0 keep f gas n K' st'
    | _ => none

theorem iterR_ok {E : Env} {C : Ctx} {k : FuncId} {f : Func} {Q : AV → List AO → Prop} {m n0 : Nat} (hE : EnvAll E) (hm : E.P.follows .mixedOrders = true) (hf : fnChk E.P k f m) (hC : ∀ id, n0 ≤ id → C.ρ0 id = none) {keep : Nat → Keep} {gas : Nat} :
    ∀ (n : Nat) (K : List Item) (st : St) (r : AV × List AO), iterR E n0 keep f gas n K st = some r → Q r.1 r.2 → Reach E C k K st Q
  | 0, _, _, _, h, _ => by cases h
  | n + 1, K, st, r, h, hQ => by
    unfold iterR at h
    split at h
    · rename_i v h' hv
      cases h
      exact reach_val hE hm hf hC hv hQ
    · rename_i j K' st' hv
      exact reach_val hE hm hf hC hv (iterR_ok hE hm hf hC n K' st' r h hQ)
    · cases h

def dfltH : (outs : List Sh) → HArgs (outs.map some)
  | [] => ()
  | s :: r => (dflt s, dfltH r)

def dfltC : (ps : List CP) → CSem ps
  | [] => ()
  | .d s :: r => (dflt s, dfltC r)
  | .nil :: r => dfltC r
  | .vec _ :: r => ([], dfltC r)

def cpN : List Nat → (ps : List CP) → CSem ps → List AV
  | _, [], _ => []
  | n, .d s :: r, y => explode s y.1 ++ cpN n r y.2
  | n, .nil :: r, y => .nils :: cpN n r y
  | n, .vec _ :: r, y => .vec (n.headD 0) :: cpN n.tail r y.2

def itO (E : Env) (keep : Nat → Keep) (f : Func) (gas n : Nat) (ks outs : List Sh) (x : HArgs (ks.map some)) : Option (HArgs (outs.map some)) :=
  (iterR E 0 keep f gas n (bodyOf f) (initSt f.ntmps (avs (ks.map some) x) [])).bind fun r => resOf r.2 outs r.1

def plainO (ks outs : List Sh) (g : HArgs (ks.map some) → Option (HArgs (outs.map some))) : FSem := plainC ks outs (fun x => (g x).isSome) fun x => (g x).getD (dfltH outs)

theorem FOk_it {E : Env} {k : FuncId} {f : Func} {ks outs : List Sh} {keep : Nat → Keep} {gas n : Nat} (hE : EnvAll E) (hm : E.P.follows .mixedOrders = true) (hf : fnChk E.P k f ks.length) : FOk E.P E.gl k (plainO ks outs (itO E keep f gas n ks outs)) := by
  refine FOk_plainC hf fun x hc C hC => ?_
  rw [Option.isSome_iff_exists] at hc
  obtain ⟨y, hy⟩ := hc
  rw [hy]
  unfold itO at hy
  rw [Option.bind_eq_some_iff] at hy
  obtain ⟨r, h1, h2⟩ := hy
  exact iterR_ok hE hm hf (fun id _ => hC id) n _ _ r h1 h2

def itB (E : Env) (keep : Nat → Keep) (f : Func) (gas n : Nat) (ps : List CP) (ks outs : List Sh) (ps' : List CP) (y : CSem ps) (x : HArgs (ks.map some)) : Option (HArgs (outs.map some) × CSem ps') :=
  (iterR E (cpCount ps + 1) keep f gas n (bodyOf f) (initSt f.ntmps (.ptr 0 0 :: avs (ks.map some) x) (cpHeap ps y))).bind fun r => boxRes ps' outs r.1 r.2

def boxO (ps : List CP) (ks outs : List Sh) (ps' : List CP) (g : CSem ps → HArgs (ks.map some) → Option (HArgs (outs.map some) × CSem ps')) : FSem :=
  boxF ps ks outs ps' (fun y x => (g y x).isSome) fun y x => (g y x).getD (dfltH outs, dfltC ps')

theorem FOk_itB {E : Env} {k : FuncId} {f : Func} {ps : List CP} {ks outs : List Sh} {ps' : List CP} {keep : Nat → Keep} {gas n : Nat} (hE : EnvAll E) (hm : E.P.follows .mixedOrders = true) (hf : fnChk E.P k f (ks.length + 1)) : FOk E.P E.gl k (boxO ps ks outs ps' (itB E keep f gas n ps ks outs ps')) := by
  refine FOk_box hf fun y x hc C hC => ?_
  rw [Option.isSome_iff_exists] at hc
  obtain ⟨z, hz⟩ := hc
  rw [hz]
  unfold itB at hz
  rw [Option.bind_eq_some_iff] at hz
  obtain ⟨r, h1, h2⟩ := hz
  exact iterR_ok hE hm hf hC n _ _ r h1 h2

theorem FOk_itS {E : Env} {k : FuncId} {f : Func} {ks outs : List Sh} {keep : Nat → Keep} {gas n : Nat} {c : HArgs (ks.map some) → Bool} {g : HArgs (ks.map some) → HArgs (outs.map some)} (hE : EnvAll E) (hm : E.P.follows .mixedOrders = true) (hf : fnChk E.P k f ks.length)
    (hc : ∀ x, c x = (itO E keep f gas n ks outs x).isSome) (hg : ∀ x, g x = (itO E keep f gas n ks outs x).getD (dfltH outs)) : FOk E.P E.gl k (plainC ks outs c g) := by
  obtain rfl : c = fun x => (itO E keep f gas n ks outs x).isSome := funext hc
  obtain rfl : g = fun x => (itO E keep f gas n ks outs x).getD (dfltH outs) := funext hg
  exact FOk_it hE hm hf

theorem FOk_itBS {E : Env} {k : FuncId} {f : Func} {ps : List CP} {ks outs : List Sh} {ps' : List CP} {keep : Nat → Keep} {gas n : Nat} {c : CSem ps → HArgs (ks.map some) → Bool} {g : CSem ps → HArgs (ks.map some) → HArgs (outs.map some) × CSem ps'} (hE : EnvAll E) (hm : E.P.follows .mixedOrders = true) (hf : fnChk E.P k f (ks.length + 1))
    (hc : ∀ y x, c y x = (itB E keep f gas n ps ks outs ps' y x).isSome) (hg : ∀ y x, g y x = (itB E keep f gas n ps ks outs ps' y x).getD (dfltH outs, dfltC ps')) : FOk E.P E.gl k (boxF ps ks outs ps' c g) := by
  obtain rfl : c = fun y x => (itB E keep f gas n ps ks outs ps' y x).isSome := funext fun y => funext fun x => hc y x
  obtain rfl : g = fun y x => (itB E keep f gas n ps ks outs ps' y x).getD (dfltH outs, dfltC ps') := funext fun y => funext fun x => hg y x
  exact FOk_itB hE hm hf

def foldI {α β R : Type} (f : β → Nat → α → β ⊕ R) (fin : β → R) : List α → Nat → β → R
  | [], _, b => fin b
  | x :: r, i, b => match f b i x with
    | .inl b' => foldI f fin r (i + 1) b'
    | .inr y => y

abbrev Raw := AV × List AO

def Tr.map {α β : Type} (f : α → β) : Tr α → Tr β
  | .err => .err
  | .chk c t => .chk c (t.map f)
  | .br c t e => .br c (t.map f) (e.map f)
  | .ok a => .ok (f a)

theorem Tr.val_map {α β : Type} (f : α → β) : ∀ t : Tr α, (t.map f).val = t.val.map f
  | .err => rfl
  | .chk c t => by simp only [Tr.map, Tr.val, val_map f t]; split <;> rfl
  | .br c t e => by simp only [Tr.map, Tr.val, val_map f t, val_map f e]; split <;> rfl
  | .ok _ => rfl

abbrev Tr.to {σ : Type} (s : σ) : Tr (σ ⊕ Raw) := .ok (.inl s)
abbrev Tr.re {σ : Type} (v : AV) (h : List AO) : Tr (σ ⊕ Raw) := .ok (.inr (v, h))

def iterT {σ : Type} (t : σ → Tr (σ ⊕ Raw)) : Nat → σ → Option Raw
  | 0, _ => none
  | n + 1, s => match (t s).val with
    | some (.inl s') => iterT t n s'
    | some (.inr r) => some r
    | none => none

def runT {σ : Type} (t : σ → Tr (σ ⊕ Raw)) (n : Nat) (i : Tr (σ ⊕ Raw)) : Option Raw := match i.val with
  | some (.inl s) => iterT t n s
  | some (.inr r) => some r
  | none => none

def lf {σ : Type} (f : Func) (e : σ → Nat × St) : σ ⊕ Raw → Leaf
  | .inl s => .head (e s).1 (headK f (e s).1) (e s).2
  | .inr r => .ret r.1 r.2

def e0 : Empty → Nat × St := fun x => nomatch x
def t0 : Empty → Tr (Empty ⊕ Raw) := fun x => nomatch x

section
variable {σ : Type} {E : Env} {n0 : Nat} {keep : Nat → Keep} {f : Func} {gas : Nat} {e : σ → Nat × St} {t : σ → Tr (σ ⊕ Raw)}

theorem iterR_T (hon : ∀ s, run E n0 keep f.results.toList gas (headK f (e s).1) (e s).2 = (t s).map (lf f e)) : ∀ (n : Nat) (s : σ), iterR E n0 keep f gas n (headK f (e s).1) (e s).2 = iterT t n s
  | 0, _ => rfl
  | n + 1, s => by
    rw [iterR, hon s, Tr.val_map, iterT]
    cases (t s).val with
    | none => rfl
    | some l =>
      cases l with
      | inl s' => exact iterR_T hon n s'
      | inr r => rfl

theorem iterR_runT (hon : ∀ s, run E n0 keep f.results.toList gas (headK f (e s).1) (e s).2 = (t s).map (lf f e)) {K : List Item} {st : St} {i : Tr (σ ⊕ Raw)} (hgo : run E n0 keep f.results.toList gas K st = i.map (lf f e)) (n : Nat) : iterR E n0 keep f gas (n + 1) K st = runT t n i := by
  rw [iterR, hgo, Tr.val_map, runT]
  cases i.val with
  | none => rfl
  | some l =>
    cases l with
    | inl s => exact iterR_T hon n s
    | inr r => rfl
end

def outT {σ : Type} (outs : List Sh) (t : σ → Tr (σ ⊕ Raw)) (n : Nat) (i : Tr (σ ⊕ Raw)) : Option (HArgs (outs.map some)) := (runT t n i).bind fun r => resOf r.2 outs r.1

theorem FOk_T1 {σ : Type} {E : Env} {k : FuncId} {f : Func} {ks outs : List Sh} {keep : Nat → Keep} {gas n : Nat} {e : σ → Nat × St} {t : σ → Tr (σ ⊕ Raw)} {i : HArgs (ks.map some) → Tr (σ ⊕ Raw)} {c : HArgs (ks.map some) → Bool} {g : HArgs (ks.map some) → HArgs (outs.map some)}
    (hE : EnvAll E) (hm : E.P.follows .mixedOrders = true) (hf : fnChk E.P k f ks.length) (hgo : ∀ x, run E 0 keep f.results.toList gas (bodyOf f) (initSt f.ntmps (avs (ks.map some) x) []) = (i x).map (lf f e))
    (hon : ∀ s, run E 0 keep f.results.toList gas (headK f (e s).1) (e s).2 = (t s).map (lf f e))
    (hc : ∀ x, c x = (outT outs t n (i x)).isSome) (hg : ∀ x, g x = (outT outs t n (i x)).getD (dfltH outs)) : FOk E.P E.gl k (plainC ks outs c g) := by
  have h : ∀ x, itO E keep f gas (n + 1) ks outs x = outT outs t n (i x) := by
    intro x
    unfold itO outT
    rw [iterR_runT hon (hgo x)]
  exact FOk_itS (n := n + 1) hE hm hf (fun x => by rw [h, hc]) (fun x => by rw [h, hg])

theorem on0 (E : Env) (n0 : Nat) (keep : Nat → Keep) (f : Func) (gas : Nat) : ∀ s, run E n0 keep f.results.toList gas (headK f (e0 s).1) (e0 s).2 = (t0 s).map (lf f e0) := fun s => nomatch s

def outB {σ : Type} (outs : List Sh) (ps' : List CP) (t : σ → Tr (σ ⊕ Raw)) (n : Nat) (i : Tr (σ ⊕ Raw)) : Option (HArgs (outs.map some) × CSem ps') := (runT t n i).bind fun r => boxRes ps' outs r.1 r.2

theorem FOk_B1 {σ : Type} {E : Env} {k : FuncId} {f : Func} {ps : List CP} {ks outs : List Sh} {ps' : List CP} {keep : Nat → Keep} {gas n : Nat} {e : σ → Nat × St} {t : σ → Tr (σ ⊕ Raw)} {i : CSem ps → HArgs (ks.map some) → Tr (σ ⊕ Raw)} {c : CSem ps → HArgs (ks.map some) → Bool} {g : CSem ps → HArgs (ks.map some) → HArgs (outs.map some) × CSem ps'}
    (hE : EnvAll E) (hm : E.P.follows .mixedOrders = true) (hf : fnChk E.P k f (ks.length + 1)) (hgo : ∀ y x, run E (cpCount ps + 1) keep f.results.toList gas (bodyOf f) (initSt f.ntmps (.ptr 0 0 :: avs (ks.map some) x) (cpHeap ps y)) = (i y x).map (lf f e))
    (hon : ∀ s, run E (cpCount ps + 1) keep f.results.toList gas (headK f (e s).1) (e s).2 = (t s).map (lf f e))
    (hc : ∀ y x, c y x = (outB outs ps' t n (i y x)).isSome) (hg : ∀ y x, g y x = (outB outs ps' t n (i y x)).getD (dfltH outs, dfltC ps')) : FOk E.P E.gl k (boxF ps ks outs ps' c g) := by
  have h : ∀ y x, itB E keep f gas (n + 1) ps ks outs ps' y x = outB outs ps' t n (i y x) := by
    intro y x
    unfold itB outB
    rw [iterR_runT hon (hgo y x)]
  exact FOk_itBS (n := n + 1) hE hm hf (fun y x => by rw [h, hc]) (fun y x => by rw [h, hg])

open Go Go.Proofs
noncomputable section
set_option maxHeartbeats 4000000

abbrev kp37p : Nat → Keep := fun j => if j = 2 then { slots := [0, 12, 13, 14] } else { }
inductive H37p where
  | h2 (i13 : Int) (i14 : Int) (z0 : CSem cpMk3)
abbrev e37p : H37p → Nat × St
  | .h2 i13 i14 z0 => (2, ⟨tm 65 [(0, AV.ptr 0 0), (12, AV.vec 1), (13, ai i13), (14, ai i14)], [AO.box (cpN [1] cpMk3 z0), AO.vec shCol z0.2.2.2.2.2.2.2.2.1]⟩)
theorem ok37p : fnChk env54.P 37 Tryz.f37 1 := by refine ⟨?_, ?_, ?_, ?_⟩ <;> kernel_rfl
def i37p (y : CSem cpMk3) : Tr (H37p ⊕ Raw) := Tr.to (H37p.h2 (↑y.2.2.2.2.2.2.2.2.1.length : Int) 0 y)
def t37p_2z (i13 : Int) (i14 : Int) (z0 : CSem cpMk3) (a0 : ExprT) (a1 : Sem shCol) (a2 : Sem shInt × Sem shInt) : Tr (H37p ⊕ Raw) := Tr.br (decide (i14 < i13)) (Tr.chk (inB i14 z0.2.2.2.2.2.2.2.2.1.length) (Tr.chk (decide (i14.toNat < z0.2.2.2.2.2.2.2.2.1.length)) (Tr.br (tPlace (z0.2.2.2.2.2.2.2.1, z0.2.2.2.2.2.2.2.2.1, z0.2.2.2.2.2.2.2.2.2.1, [], [], a0) a1.1 != i14) (Tr.re (ai 7) (cpHeap cpMk3 z0)) (Tr.to (H37p.h2 i13 (IntKind.i64.wrap (i14 + 1)) z0))))) (Tr.br (ExprT.op z0.2.2.2.2.2.2.2.2.2.2.1 == []) (Tr.re (ai 0) (cpHeap cpMk3 z0)) (Tr.br (bif a2.2 == 0 then bif a2.1 != 3 then a2.1 != 0 else false else false) (Tr.re (ai 5) (cpHeap cpMk3 z0)) (Tr.re (ai a2.2) (cpHeap cpMk3 z0))))
def t37p_2 (i13 : Int) (i14 : Int) (z0 : CSem cpMk3) : Tr (H37p ⊕ Raw) :=
  let a0 := etaE z0.2.2.2.2.2.2.2.2.2.2.1
  let a1 := z0.2.2.2.2.2.2.2.2.1.getD i14.toNat (dflt shCol)
  let a2 := eType a0 z0.2.2.2.2.2.2.2.2.1
  t37p_2z i13 i14 z0 a0 a1 a2
theorem go37p (y : CSem cpMk3) : run env54 2 kp37p (Func.results Tryz.f37).toList 400 (bodyOf Tryz.f37) (initSt (Func.ntmps Tryz.f37) [AV.ptr 0 0] (cpHeap cpMk3 y)) = (i37p y).map (lf Tryz.f37 e37p) := by kernel_rfl
def t37p : H37p → Tr (H37p ⊕ Raw)
  | .h2 i13 i14 z0 => t37p_2 i13 i14 z0
theorem on37p : ∀ s, run env54 2 kp37p (Func.results Tryz.f37).toList 400 (headK Tryz.f37 (e37p s).1) (e37p s).2 = (t37p s).map (lf Tryz.f37 e37p) | .h2 i13 i14 z0 => by kernel_rfl
def mTargetO (y : CSem cpMk3) : Option (HArgs (List.map some [shInt]) × CSem cpMk3) := outB [shInt] cpMk3 t37p 100000000 (i37p y)
def mTargetC (y : CSem cpMk3) : Bool := (mTargetO y).isSome
def mTarget (y : CSem cpMk3) : (Sem shInt) × CSem cpMk3 := (fun r : HArgs (List.map some [shInt]) × CSem cpMk3 => (r.1.1, r.2)) ((mTargetO y).getD (dfltH [shInt], dfltC cpMk3))
def F37p : FSem := boxF cpMk3 [] [shInt] cpMk3 (fun y _ => mTargetC y) fun y _ => (((mTarget y).1, ()), (mTarget y).2)
theorem FOk37p : FOk env54.P env54.gl 37 F37p := FOk_B1 (keep := kp37p) (gas := 400) (n := 100000000) (e := e37p) (t := t37p) (i := fun y x => i37p y) env54_all env54_mix ok37p (fun y x => go37p y) on37p (fun _ _ => by kernel_rfl) (fun _ _ => by kernel_rfl)

def env55 : Env := (env54.add 37 F37p)
theorem env55_all : EnvAll env55 := (EnvAll.addS env54_all (SameE.refl env54) FOk37p)
theorem env55_mix : env55.P.follows .mixedOrders = true := (mix_add env54_mix _ _)
end
open Go Go.Proofs
set_option maxHeartbeats 4000000

noncomputable def F74p : FSem := liftF (List.replicate 2 none) (autoG env55 Tryz.f74 (List.replicate 2 none))
theorem FOk74p : FOk env55.P env55.gl 74 F74p := FOk_auto _ env55_all env55_mix (by refine ⟨?_, ?_, ?_, ?_⟩ <;> kernel_rfl)

noncomputable def env56 : Env := (env55.add 74 F74p)
theorem env56_all : EnvAll env56 := (EnvAll.addS env55_all (SameE.refl env55) FOk74p)
theorem env56_mix : env56.P.follows .mixedOrders = true := (mix_add env55_mix _ _)
open Go Go.Proofs
set_option maxHeartbeats 4000000

abbrev s98p_74 (s : List Str) (l : LF) (i : Int) : St := { tmps := [.sl shFor l, .clo (.func 74) [] [.ptr 0 0], .any, .any, .any, .any, .any, .int .i64 l.length, .int .i64 i, .any, .any, .any, .any, .any, .any, .any, .any, .any, .any], heap := [.box [.sl .str s]] }
theorem go98p_74 (s : List Str) (l : LF) : run env56 1 kpIx Tryz.f98.results.toList 300 (bodyOf Tryz.f98) (initSt Tryz.f98.ntmps [.sl shFor l, .clo (.func 74) [] [.ptr 0 0]] [.box [.sl .str s]]) = .ok (.head 2 (headK Tryz.f98 2) (s98p_74 s l 0)) := by kernel_rfl
theorem on98p_74 (s : List Str) (l : LF) (i : Int) : run env56 1 kpIx Tryz.f98.results.toList 300 (headK Tryz.f98 2) (s98p_74 s l i) = ixTree (K := headK Tryz.f98 2) (e := shFor) l (fun x => hasStr s x.2) (s98p_74 s l) [.box [.sl .str s]] i := by kernel_rfl

theorem ok98p : fnChk env56.P 98 Tryz.f98 2 := by refine ⟨?_, ?_, ?_, ?_⟩ <;> kernel_rfl
def G98p : GSem [some (.sl shFor), none] := fun x h => match x, h with
  | (l, .clo (.func 74) [] [.ptr 0 0], _), [.box [.sl .str s]] => .ok (.int .i64 (ixFrom (fun x => hasStr s x.2) l 0), [.box [.sl .str s]])
  | _, _ => .err
def F98p : FSem := liftF [some (.sl shFor), none] G98p
theorem FOk98p : FOk env56.P env56.gl 98 F98p := by
  refine FOk_of ok98p fun x h0 res hx C hC => ?_
  unfold G98p at hx
  split at hx
  · rename_i l u s
    simp only [Tr.val_ok, Option.some.injEq] at hx
    subst hx
    refine Reach.len 0 shFor l rfl fun hl => ?_
    refine reach_ok (n0 := 1) env56_all env56_mix ok98p hC (go98p_74 s l) ?_
    exact reach_ixf l (fun x => hasStr s x.2) (s98p_74 s l) env56_all env56_mix ok98p hC (on98p_74 s l) hl _ 0 rfl (Nat.zero_le _)
  · simp at hx

noncomputable def env57 : Env := (env56.add 98 F98p)
theorem env57_all : EnvAll env57 := (EnvAll.addS env56_all (SameE.refl env56) FOk98p)
theorem env57_mix : env57.P.follows .mixedOrders = true := (mix_add env56_mix _ _)
open Go Go.Proofs
set_option maxHeartbeats 4000000

noncomputable def F75p : FSem := liftF (List.replicate 2 none) (autoG env57 Tryz.f75 (List.replicate 2 none))
theorem FOk75p : FOk env57.P env57.gl 75 F75p := FOk_auto _ env57_all env57_mix (by refine ⟨?_, ?_, ?_, ?_⟩ <;> kernel_rfl)

noncomputable def env58 : Env := (env57.add 75 F75p)
theorem env58_all : EnvAll env58 := (EnvAll.addS env57_all (SameE.refl env57) FOk75p)
theorem env58_mix : env58.P.follows .mixedOrders = true := (mix_add env57_mix _ _)
open Go

theorem asSl_sl (hp : Nat → AO) (e : Sh) (l : List (Sem e)) : asSl hp e (.sl e l) = some l := by
  simp [asSl]

theorem implode_explode (hp : Nat → AO) : ∀ (s : Sh) (x : Sem s) (r : List AV), implode hp s (explode s x ++ r) = some (x, r)
  | .unit, _, _ => rfl
  | .bool, _, _ => rfl
  | .int k, n, r => by simp [explode, implode]
  | .str, _, _ => rfl
  | .sl e, l, r => by
    show (match asSl hp e (.sl e l) with | some l => some (l, r) | none => none) = _
    rw [asSl_sl]
  | .pr a b, x, r => by
    simp only [explode, implode, List.append_assoc, implode_explode hp a, implode_explode hp b]
  | .expr, e, r => by
    show implodeE hp _ = _
    simp only [explode, List.cons_append, List.nil_append, implodeE, asSl_sl]
    rw [show ExprT.mk e.op (e.v.1, e.v.2.1, e.v.2.2) e.s e.l = e from ExprT.eta e]

theorem cpMatch_cells {hp : Nat → AO} : ∀ (ps : List CP) (n : Nat) (y : CSem ps), (∀ (j : Nat) o, (cpObjs ps y)[j]? = some o → hp (n + j) = o) → cpMatch hp n ps (cpCells n ps y) = some y
  | [], _, _, _ => rfl
  | .d s :: r, n, y, h => by
    simp only [cpCells, cpMatch, implode_explode]
    rw [cpMatch_cells r n y.2 h]
  | .nil :: r, n, y, h => by
    simp only [cpCells, cpMatch]
    exact cpMatch_cells r n y h
  | .vec e :: r, n, y, h => by
    have h0 := h 0 (.vec e y.1) rfl
    simp only [Nat.add_zero] at h0
    simp only [cpCells, cpMatch, if_true, h0, dite_true]
    rw [cpMatch_cells r (n + 1) y.2 (fun j o hj => by
      have := h (j + 1) o (by simpa [cpObjs] using hj)
      rw [← this]
      congr 1
      omega)]

theorem boxRes_heap {ps : List CP} {outs : List Sh} {r : AV} {a : HArgs (outs.map some)} (y : CSem ps) (h : resOf [] outs r = some a) : boxRes ps outs r (cpHeap ps y) = some (a, y) := by
  unfold boxRes cpHeap
  simp only [cpObjs_length, if_true, h]
  rw [cpMatch_cells ps 1 y (fun j o hj => by
    unfold hpOf
    rw [Nat.add_comm, List.getD_cons_succ, List.getD_eq_getElem?_getD, hj]
    rfl)]

section
variable {σ : Type} {t : σ → Tr (σ ⊕ Raw)}

theorem iter_inv {β : Type} (N : Nat) (st : β → Nat → σ) (I : β → Nat → Prop) (Φ : Raw → Prop) (M : Nat)
    (hstep : ∀ b i, i < N → I b i → (∃ b', I b' (i + 1) ∧ (t (st b i)).val = some (.inl (st b' (i + 1)))) ∨ ∃ r, (t (st b i)).val = some (.inr r) ∧ Φ r)
    (hend : ∀ b n, I b N → M ≤ n → ∃ r, iterT t n (st b N) = some r ∧ Φ r) :
    ∀ (m i : Nat) (b : β) (n : Nat), N - i = m → i ≤ N → I b i → M + m ≤ n → ∃ r, iterT t n (st b i) = some r ∧ Φ r
  | 0, i, b, n, hm, hi, hI, hn => by
    obtain rfl : i = N := by omega
    exact hend b n hI (by omega)
  | m + 1, i, b, n, hm, hi, hI, hn => by
    obtain ⟨n, rfl⟩ : ∃ k, n = k + 1 := ⟨n - 1, by omega⟩
    rcases hstep b i (by omega) hI with ⟨b', hI', h⟩ | ⟨r, h1, h2⟩
    · obtain ⟨r, h1, h2⟩ := iter_inv N st I Φ M hstep hend m (i + 1) b' n (by omega) (by omega) hI' (by omega)
      exact ⟨r, by rw [iterT, h]; exact h1, h2⟩
    · exact ⟨r, by rw [iterT, h1], h2⟩

theorem iterT_val {n : Nat} {s : σ} : iterT t (n + 1) s = match (t s).val with
    | some (.inl s') => iterT t n s'
    | some (.inr r) => some r
    | none => none := rfl
end

open Go Go.Proofs
noncomputable section
set_option maxHeartbeats 4000000
abbrev cpR : List CP := [.d shRel]
abbrev cpRz : List CP := [.d .str, .nil, .d shInt, .nil, .nil, .d .str, .d shInt, .d shInt, .d .str, .d .str, .nil, .nil]
abbrev cpR2 : List CP := [.d shTable, .vec (.sl shVal)]
abbrev cpS : List CP := [.d shStmt]
abbrev cpSz : List CP := [.d .str, .d .str, .d .str, .nil, .nil, .d .str, .nil, .nil, .d .str, .d shInt, .d shInt, .d .str, .d .str, .nil, .nil, .nil, .d .str, .d shInt, .d shInt, .d .str, .d .str, .nil, .d .str]
abbrev cpS3 : List CP := [.d .str, .d .str, .d .str, .d (.sl .str), .d (.sl shCol), .d .str, .d (.sl .str), .vec shRef, .d .expr, .d (.sl shVal), .nil, .d .expr, .d .str]
abbrev cpS7 : List CP := [.d .str, .d .str, .d .str, .d (.sl .str), .d (.sl shCol), .d .str, .d (.sl .str), .vec shRef, .d .expr, .d (.sl shVal), .vec shSet, .d .expr, .d .str]

abbrev kp21p : Nat → Keep := fun j => if j = 6 then { slots := [1, 2, 3, 4, 5], prom := [(3, some 11, .sl shVal)] } else { }
inductive H21p where
  | h6 (i4 : Int) (i5 : Int) (z0 : CSem cpR) (z1 : CSem cpRz) (z2 : CSem cpR2)
abbrev e21p : H21p → Nat × St
  | .h6 i4 i5 z0 z1 z2 => (6, ⟨tm 38 [(1, AV.ptr 0 0), (2, AV.ptr 1 0), (3, AV.ptr 2 0), (4, AV.int .i64 i4), (5, AV.int .i64 i5)], [AO.box (cpN [] cpR z0), AO.box (cpN [] cpRz z1), AO.box (cpN [3] cpR2 z2), AO.vec shVal.sl z2.2.1]⟩)
theorem ok21p : fnChk env58.P 21 Tryz.f21 1 := by refine ⟨?_, ?_, ?_, ?_⟩ <;> kernel_rfl
def i21pz (x0 : Sem shRel) (a0 : Sem shTable × List (Sem shVal.sl) × Unit) : Tr (H21p ⊕ Raw) :=
  Tr.br (decide ((↑(List.length x0.2) : Int) > 200)) (Tr.to (H21p.h6 201 0 (x0, ()) ([], 0, [], 0, 0, [], [], ()) a0))
  (Tr.to (H21p.h6 40 0 (x0, ()) ([], 0, [], 0, 0, [], [], ()) a0))
def i21p (x0 : Sem shRel) : Tr (H21p ⊕ Raw) :=
  let a0 := (tFew (x0.1.1, x0.1.2.1, x0.1.2.2.1, x0.1.2.2.2.1, x0.1.2.2.2.2.1, etaE x0.1.2.2.2.2.2), [], ())
  i21pz x0 a0
def t21p_6z (i4 : Int) (i5 : Int) (z0 : CSem cpR) (z1 : CSem cpRz) (z2 : CSem cpR2) (a0 : Int) (a1 : List (Sem shVal.sl)) : Tr (H21p ⊕ Raw) :=
  Tr.br (bif decide (i5 < a0) then decide (i5 < i4) else false)
  (Tr.chk (inB i5 (List.length z0.1.2))
    (Tr.chk (decide (z2.2.1.length + a1.length ≤ 1073741824)) (Tr.to (H21p.h6 i4 (IntKind.i64.wrap (i5 + 1)) z0 z1 (z2.1, z2.2.1 ++ a1, ())))))
  (Tr.re
    (AV.agg [AV.str z2.1.1, AV.sl shCol z2.1.2.1, AV.int .i64 z2.1.2.2.1, AV.sl shInt z2.1.2.2.2.1, AV.sl shFor z2.1.2.2.2.2.1, AV.str (ExprT.op z2.1.2.2.2.2.2), AV.int .i64 (ExprT.v z2.1.2.2.2.2.2).1, AV.int .i64 (ExprT.v z2.1.2.2.2.2.2).2.1, AV.str (ExprT.v z2.1.2.2.2.2.2).2.2, AV.str (ExprT.s z2.1.2.2.2.2.2), AV.sl Sh.expr (ExprT.l z2.1.2.2.2.2.2), AV.vec 0])
    [AO.vec shVal.sl z2.2.1])
def t21p_6 (i4 : Int) (i5 : Int) (z0 : CSem cpR) (z1 : CSem cpRz) (z2 : CSem cpR2) : Tr (H21p ⊕ Raw) :=
  let a0 := (↑(List.length z0.1.2) : Int)
  let a1 := [lFew2 (List.getD z0.1.2 i5.toNat (dflt shVal.sl))]
  t21p_6z i4 i5 z0 z1 z2 a0 a1
theorem go21p (x0 : Sem shRel) : run env58 0 kp21p (Func.results Tryz.f21).toList 400 (bodyOf Tryz.f21) (initSt (Func.ntmps Tryz.f21) [datum shRel x0] []) = (i21p x0).map (lf Tryz.f21 e21p) := by kernel_rfl
def t21p : H21p → Tr (H21p ⊕ Raw)
  | .h6 i4 i5 z0 z1 z2 => t21p_6 i4 i5 z0 z1 z2
theorem on21p : ∀ s, run env58 0 kp21p (Func.results Tryz.f21).toList 400 (headK Tryz.f21 (e21p s).1) (e21p s).2 = (t21p s).map (lf Tryz.f21 e21p)
  | .h6 i4 i5 z0 z1 z2 => by kernel_rfl
def l7FewO (x0 : Sem shRel) : Option (HArgs (List.map some [shRel])) := outT [shRel] t21p 100000000 (i21p x0)
def l7FewC (x0 : Sem shRel) : Bool := (l7FewO x0).isSome
def l7Few (x0 : Sem shRel) : Sem shRel := (fun r : HArgs (List.map some [shRel]) => r.1) ((l7FewO x0).getD (dfltH [shRel]))
def F21p : FSem := plainC [shRel] [shRel] (fun x => l7FewC x.1) fun x => (l7Few x.1, ())
theorem FOk21p : FOk env58.P env58.gl 21 F21p := FOk_T1 (ks := [shRel]) (outs := [shRel]) (keep := kp21p) (gas := 400) (n := 100000000) (e := e21p) (t := t21p) (i := fun x => i21p x.1) env58_all env58_mix ok21p (fun x => go21p x.1) on21p (fun _ => by kernel_rfl) (fun _ => by kernel_rfl)

abbrev kp8p : Nat → Keep := fun j => if j = 3 then { slots := [1, 2, 3, 4], prom := [(3, some 7, shRef)] } else if j = 7 then { slots := [1, 2, 3, 5], prom := [(3, some 15, shSet)] } else { }
inductive H8p where
  | h3 (i4 : Int) (z0 : CSem cpS) (z1 : CSem cpSz) (z2 : CSem cpS3)
  | h7 (i5 : Int) (z0 : CSem cpS) (z1 : CSem cpSz) (z2 : CSem cpS7)
abbrev e8p : H8p → Nat × St
  | .h3 i4 z0 z1 z2 => (3, ⟨tm 103 [(1, AV.ptr 0 0), (2, AV.ptr 1 0), (3, AV.ptr 2 0), (4, AV.int .i64 i4)], [AO.box (cpN [] cpS z0), AO.box (cpN [] cpSz z1), AO.box (cpN [3] cpS3 z2), AO.vec (Sh.str.pr Sh.str) z2.2.2.2.2.2.2.2.1]⟩)
  | .h7 i5 z0 z1 z2 => (7, ⟨tm 103 [(1, AV.ptr 0 0), (2, AV.ptr 1 0), (3, AV.ptr 2 0), (5, AV.int .i64 i5)], [AO.box (cpN [] cpS z0), AO.box (cpN [] cpSz z1), AO.box (cpN [3, 4] cpS7 z2), AO.vec (Sh.str.pr Sh.str) z2.2.2.2.2.2.2.2.1, AO.vec (Sh.str.pr Sh.expr) z2.2.2.2.2.2.2.2.2.2.2.1]⟩)
theorem ok8p : fnChk env58.P 8 Tryz.f8 1 := by refine ⟨?_, ?_, ?_, ?_⟩ <;> kernel_rfl
def i8p (x0 : Sem shStmt) : Tr (H8p ⊕ Raw) :=
  Tr.chk (l5TextC x0.1)
  (Tr.chk (l5TextC x0.2.1)
    (Tr.chk (l5TextC x0.2.2.1) (Tr.chk (l5TextC x0.2.2.2.2.2.1) (Tr.chk (l5TextC x0.2.2.2.2.2.2.2.2.2.2.2.2) (Tr.chk (l5NamesC x0.2.2.2.1) (Tr.chk (l5NamesC x0.2.2.2.2.2.2.1) (Tr.to (H8p.h3 0 (x0, ()) ([], [], [], [], [], 0, 0, [], [], [], 0, 0, [], [], [], ()) (l5Text x0.1, l5Text x0.2.1, l5Text x0.2.2.1, l5Names x0.2.2.2.1, lCols x0.2.2.2.2.1,
    l5Text x0.2.2.2.2.2.1, l5Names x0.2.2.2.2.2.2.1, [], eFew (etaE x0.2.2.2.2.2.2.2.2.1), lFew2 x0.2.2.2.2.2.2.2.2.2.1, eFew (etaE x0.2.2.2.2.2.2.2.2.2.2.2.1), l5Text x0.2.2.2.2.2.2.2.2.2.2.2.2, ())))))))))
def t8p_3z (i4 : Int) (z0 : CSem cpS) (z1 : CSem cpSz) (z2 : CSem cpS3) (a0 : Int) (a1 : Bool) (a2 : Sem shRef) (a3 : List (Sem (Sh.str.pr Sh.str))) : Tr (H8p ⊕ Raw) :=
  Tr.br (bif decide (i4 < a0) then decide (i4 < 10) else false)
  (Tr.chk a1
    (Tr.chk (l5TextC a2.1) (Tr.chk a1 (Tr.chk (l5TextC a2.2) (Tr.chk (decide (z2.2.2.2.2.2.2.2.1.length + a3.length ≤ 1073741824)) (Tr.to (H8p.h3 (IntKind.i64.wrap (i4 + 1)) z0 z1 (z2.1, z2.2.1, z2.2.2.1, z2.2.2.2.1, z2.2.2.2.2.1, z2.2.2.2.2.2.1, z2.2.2.2.2.2.2.1, z2.2.2.2.2.2.2.2.1 ++ a3, z2.2.2.2.2.2.2.2.2))))))))
  (Tr.to
    (H8p.h7 0 z0 z1 (z2.1, z2.2.1, z2.2.2.1, z2.2.2.2.1, z2.2.2.2.2.1, z2.2.2.2.2.2.1, z2.2.2.2.2.2.2.1, z2.2.2.2.2.2.2.2.1, z2.2.2.2.2.2.2.2.2.1, z2.2.2.2.2.2.2.2.2.2.1, [], z2.2.2.2.2.2.2.2.2.2.2)))
def t8p_3 (i4 : Int) (z0 : CSem cpS) (z1 : CSem cpSz) (z2 : CSem cpS3) : Tr (H8p ⊕ Raw) :=
  let a0 := (↑(List.length z0.1.2.2.2.2.2.2.2.1) : Int)
  let a1 := inB i4 (List.length z0.1.2.2.2.2.2.2.2.1)
  let a2 := List.getD z0.1.2.2.2.2.2.2.2.1 i4.toNat (dflt shRef)
  let a3 := [(l5Text a2.1, l5Text a2.2)]
  t8p_3z i4 z0 z1 z2 a0 a1 a2 a3
def t8p_7z (i5 : Int) (z0 : CSem cpS) (z1 : CSem cpSz) (z2 : CSem cpS7) (a0 : Int) (a1 : Bool) (a2 : Sem shSet) (a3 : List (Sem (Sh.str.pr Sh.expr))) : Tr (H8p ⊕ Raw) :=
  Tr.br (bif decide (i5 < a0) then decide (i5 < 10) else false)
  (Tr.chk a1
    (Tr.chk (l5TextC a2.1) (Tr.chk a1 (Tr.chk (decide (z2.2.2.2.2.2.2.2.2.2.2.1.length + a3.length ≤ 1073741824)) (Tr.to (H8p.h7 (IntKind.i64.wrap (i5 + 1)) z0 z1 (z2.1, z2.2.1, z2.2.2.1, z2.2.2.2.1, z2.2.2.2.2.1, z2.2.2.2.2.2.1, z2.2.2.2.2.2.2.1, z2.2.2.2.2.2.2.2.1, z2.2.2.2.2.2.2.2.2.1, z2.2.2.2.2.2.2.2.2.2.1, z2.2.2.2.2.2.2.2.2.2.2.1 ++ a3, z2.2.2.2.2.2.2.2.2.2.2.2)))))))
  (Tr.re
    (AV.agg [AV.str z2.1, AV.str z2.2.1, AV.str z2.2.2.1, AV.sl Sh.str z2.2.2.2.1, AV.sl shCol z2.2.2.2.2.1, AV.str z2.2.2.2.2.2.1, AV.sl Sh.str z2.2.2.2.2.2.2.1, AV.vec 0, AV.str (ExprT.op z2.2.2.2.2.2.2.2.2.1), AV.int .i64 (ExprT.v z2.2.2.2.2.2.2.2.2.1).1, AV.int .i64 (ExprT.v z2.2.2.2.2.2.2.2.2.1).2.1, AV.str (ExprT.v z2.2.2.2.2.2.2.2.2.1).2.2, AV.str (ExprT.s z2.2.2.2.2.2.2.2.2.1),
    AV.sl Sh.expr (ExprT.l z2.2.2.2.2.2.2.2.2.1), AV.sl shVal z2.2.2.2.2.2.2.2.2.2.1, AV.vec 1, AV.str (ExprT.op z2.2.2.2.2.2.2.2.2.2.2.2.1), AV.int .i64 (ExprT.v z2.2.2.2.2.2.2.2.2.2.2.2.1).1, AV.int .i64 (ExprT.v z2.2.2.2.2.2.2.2.2.2.2.2.1).2.1, AV.str (ExprT.v z2.2.2.2.2.2.2.2.2.2.2.2.1).2.2, AV.str (ExprT.s z2.2.2.2.2.2.2.2.2.2.2.2.1),
    AV.sl Sh.expr (ExprT.l z2.2.2.2.2.2.2.2.2.2.2.2.1), AV.str z2.2.2.2.2.2.2.2.2.2.2.2.2.1])
    [AO.vec (Sh.str.pr Sh.str) z2.2.2.2.2.2.2.2.1, AO.vec (Sh.str.pr Sh.expr) z2.2.2.2.2.2.2.2.2.2.2.1])
def t8p_7 (i5 : Int) (z0 : CSem cpS) (z1 : CSem cpSz) (z2 : CSem cpS7) : Tr (H8p ⊕ Raw) :=
  let a0 := (↑(List.length z0.1.2.2.2.2.2.2.2.2.2.2.1) : Int)
  let a1 := inB i5 (List.length z0.1.2.2.2.2.2.2.2.2.2.2.1)
  let a2 := List.getD z0.1.2.2.2.2.2.2.2.2.2.2.1 i5.toNat (dflt shSet)
  let a3 := [(l5Text a2.1, etaE (eFew (etaE a2.2)))]
  t8p_7z i5 z0 z1 z2 a0 a1 a2 a3
theorem go8p (x0 : Sem shStmt) : run env58 0 kp8p (Func.results Tryz.f8).toList 400 (bodyOf Tryz.f8) (initSt (Func.ntmps Tryz.f8) [datum shStmt x0] []) = (i8p x0).map (lf Tryz.f8 e8p) := by kernel_rfl
def t8p : H8p → Tr (H8p ⊕ Raw)
  | .h3 i4 z0 z1 z2 => t8p_3 i4 z0 z1 z2
  | .h7 i5 z0 z1 z2 => t8p_7 i5 z0 z1 z2
theorem on8p : ∀ s, run env58 0 kp8p (Func.results Tryz.f8).toList 400 (headK Tryz.f8 (e8p s).1) (e8p s).2 = (t8p s).map (lf Tryz.f8 e8p)
  | .h3 i4 z0 z1 z2 => by kernel_rfl
  | .h7 i5 z0 z1 z2 => by kernel_rfl
def l5FewO (x0 : Sem shStmt) : Option (HArgs (List.map some [shStmt])) := outT [shStmt] t8p 100000000 (i8p x0)
def l5FewC (x0 : Sem shStmt) : Bool := (l5FewO x0).isSome
def l5Few (x0 : Sem shStmt) : Sem shStmt := (fun r : HArgs (List.map some [shStmt]) => r.1) ((l5FewO x0).getD (dfltH [shStmt]))
def F8p : FSem := plainC [shStmt] [shStmt] (fun x => l5FewC x.1) fun x => (l5Few x.1, ())
theorem FOk8p : FOk env58.P env58.gl 8 F8p := FOk_T1 (ks := [shStmt]) (outs := [shStmt]) (keep := kp8p) (gas := 400) (n := 100000000) (e := e8p) (t := t8p) (i := fun x => i8p x.1) env58_all env58_mix ok8p (fun x => go8p x.1) on8p (fun _ => by kernel_rfl) (fun _ => by kernel_rfl)

def env70 : Env := ((env58.add 21 F21p).add 8 F8p)
theorem env70_all : EnvAll env70 := (EnvAll.addS (EnvAll.addS env58_all (SameE.refl env58) FOk21p) ((SameE.refl env58).add _ _) FOk8p)
theorem env70_mix : env70.P.follows .mixedOrders = true := (mix_add (mix_add env58_mix _ _) _ _)
end
open Go Go.Proofs
noncomputable section
set_option maxHeartbeats 4000000

abbrev kp7p : Nat → Keep := fun j => if j = 3 then { slots := [0, 3, 4], prom := [(3, none, shRel)] } else { }
inductive H7p where
  | h3 (l0 : List (Sem shRel)) (i4 : Int) (lh_0 : List (Sem shRel))
abbrev e7p : H7p → Nat × St
  | .h3 l0 i4 lh_0 => (3, ⟨tm 24 [(0, AV.sl shRel l0), (3, AV.vec 0), (4, AV.int .i64 i4)], [AO.vec shRel lh_0]⟩)
theorem ok7p : fnChk env70.P 7 Tryz.f7 1 := by refine ⟨?_, ?_, ?_, ?_⟩ <;> kernel_rfl
def i7p (x0 : Sem shRel.sl) : Tr (H7p ⊕ Raw) :=
  Tr.to (H7p.h3 x0 0 [])
def t7p_3z (l0 : List (Sem shRel)) (i4 : Int) (lh_0 : List (Sem shRel)) (_ : Sem shRel) (a1 : Sem shTable × Sem shVal.sl.sl) (_ : Sem shRel) (a3 : List (Sem shRel)) : Tr (H7p ⊕ Raw) :=
  Tr.br (bif decide (i4 < (↑l0.length : Int)) then decide (i4 < 13) else false)
  (Tr.chk (inB i4 l0.length)
    (Tr.chk (l7FewC a1) (Tr.chk (decide (lh_0.length + a3.length ≤ 1073741824)) (Tr.to (H7p.h3 l0 (IntKind.i64.wrap (i4 + 1)) (lh_0 ++ a3))))))
  (Tr.re (AV.vec 0)
    [AO.vec shRel lh_0])
def t7p_3 (l0 : List (Sem shRel)) (i4 : Int) (lh_0 : List (Sem shRel)) : Tr (H7p ⊕ Raw) :=
  let a0 := l0.getD i4.toNat (dflt shRel)
  let a1 := ((a0.1.1, a0.1.2.1, a0.1.2.2.1, a0.1.2.2.2.1, a0.1.2.2.2.2.1, etaE a0.1.2.2.2.2.2), a0.2)
  let a2 := l7Few a1
  let a3 := [((a2.1.1, a2.1.2.1, a2.1.2.2.1, a2.1.2.2.2.1, a2.1.2.2.2.2.1, etaE a2.1.2.2.2.2.2), a2.2)]
  t7p_3z l0 i4 lh_0 a0 a1 a2 a3
theorem go7p (x0 : Sem shRel.sl) : run env70 0 kp7p (Func.results Tryz.f7).toList 400 (bodyOf Tryz.f7) (initSt (Func.ntmps Tryz.f7) [datum shRel.sl x0] []) = (i7p x0).map (lf Tryz.f7 e7p) := by kernel_rfl
def t7p : H7p → Tr (H7p ⊕ Raw)
  | .h3 l0 i4 lh_0 => t7p_3 l0 i4 lh_0
theorem on7p : ∀ s, run env70 0 kp7p (Func.results Tryz.f7).toList 400 (headK Tryz.f7 (e7p s).1) (e7p s).2 = (t7p s).map (lf Tryz.f7 e7p)
  | .h3 l0 i4 lh_0 => by kernel_rfl
def l8FewO (x0 : Sem shRel.sl) : Option (HArgs (List.map some [shRel.sl])) := outT [shRel.sl] t7p 100000000 (i7p x0)
def l8FewC (x0 : Sem shRel.sl) : Bool := (l8FewO x0).isSome
def l8Few (x0 : Sem shRel.sl) : Sem shRel.sl := (fun r : HArgs (List.map some [shRel.sl]) => r.1) ((l8FewO x0).getD (dfltH [shRel.sl]))
def F7p : FSem := plainC [shRel.sl] [shRel.sl] (fun x => l8FewC x.1) fun x => (l8Few x.1, ())
theorem FOk7p : FOk env70.P env70.gl 7 F7p := FOk_T1 (ks := [shRel.sl]) (outs := [shRel.sl]) (keep := kp7p) (gas := 400) (n := 100000000) (e := e7p) (t := t7p) (i := fun x => i7p x.1) env70_all env70_mix ok7p (fun x => go7p x.1) on7p (fun _ => by kernel_rfl) (fun _ => by kernel_rfl)

def env71 : Env := (env70.add 7 F7p)
theorem env71_all : EnvAll env71 := (EnvAll.addS env70_all (SameE.refl env70) FOk7p)
theorem env71_mix : env71.P.follows .mixedOrders = true := (mix_add env70_mix _ _)
end
open Go Go.Proofs
noncomputable section
set_option maxHeartbeats 4000000

abbrev kp36p : Nat → Keep := fun j => if j = 3 then { slots := [0, 3, 14, 15, 16] } else if j = 11 then { slots := [0, 3, 55, 56, 57] } else { }
inductive H36p where
  | h3 (l14 : LS) (i15 : Int) (i16 : Int) (z0 : CSem cpMk) (jb0 : LS)
  | h11 (l55 : List (Sem shRel)) (i56 : Int) (i57 : Int) (z0 : CSem cpMk) (jb0 : LS)
abbrev e36p : H36p → Nat × St
  | .h3 l14 i15 i16 z0 jb0 => (3, ⟨tm 122 [(0, AV.ptr 0 0), (3, AV.ptr 1 0), (14, AV.sl Sh.str l14), (15, ai i15), (16, ai i16)], [AO.box (cpN [] cpMk z0), AO.box [AV.sl Sh.str jb0]]⟩)
  | .h11 l55 i56 i57 z0 jb0 => (11, ⟨tm 122 [(0, AV.ptr 0 0), (3, AV.ptr 1 0), (55, AV.sl shRel l55), (56, ai i56), (57, ai i57)], [AO.box (cpN [] cpMk z0), AO.box [AV.sl Sh.str jb0]]⟩)
theorem ok36p : fnChk env71.P 36 Tryz.f36 1 := by refine ⟨?_, ?_, ?_, ?_⟩ <;> kernel_rfl
def i36pz (y : CSem cpMk) (a0 : Sem Sh.str.sl) : Tr (H36p ⊕ Raw) := Tr.to (H36p.h3 a0 (↑(List.length a0) : Int) 0 y a0)
def i36p (y : CSem cpMk) : Tr (H36p ⊕ Raw) :=
  let a0 := pSources (y.2.2.2.2.1, y.2.2.2.2.2.1, y.2.2.2.2.2.2.1, (y.2.2.2.2.2.2.2.1, [], y.2.2.2.2.2.2.2.2.1, [], [], etaE y.2.2.2.2.2.2.2.2.2.1), [], y.2.2.2.2.2.2.2.2.2.2.1)
  i36pz y a0
def t36p_3z (l14 : LS) (i15 : Int) (i16 : Int) (z0 : CSem cpMk) (jb0 : LS) (a0 : Sem shInt) (a1 : Sem shInt) : Tr (H36p ⊕ Raw) := Tr.br (decide (i16 < i15)) (Tr.chk (inB i16 l14.length) (Tr.br (decide (a0 < 0)) (Tr.re (ai 6) (cpHeap cpMk z0)) (Tr.to (H36p.h3 l14 i15 (IntKind.i64.wrap (i16 + 1)) z0 jb0)))) (Tr.br (bif decide (a1 ≥ 0) then true else z0.2.2.2.2.2.1 == z0.2.2.2.2.2.2.1) (Tr.re (ai 7) (cpHeap cpMk z0)) (Tr.to (H36p.h11 z0.1 (↑(List.length z0.1) : Int) 0 z0 jb0)))
def t36p_3 (l14 : LS) (i15 : Int) (i16 : Int) (z0 : CSem cpMk) (jb0 : LS) : Tr (H36p ⊕ Raw) :=
  let a0 := bFind z0.1 (l14.getD i16.toNat (dflt Sh.str))
  let a1 := bFind z0.1 z0.2.1.2.1
  t36p_3z l14 i15 i16 z0 jb0 a0 a1
def t36p_11z (l55 : List (Sem shRel)) (i56 : Int) (i57 : Int) (z0 : CSem cpMk) (jb0 : LS) (a0 : Sem shRel) (a1 : Int) (a2 : Sem shInt) (a3 : Sem shInt) (a4 : Sem shRel) (a5 : Sem shRel) : Tr (H36p ⊕ Raw) := Tr.br (decide (i57 < i56)) (Tr.chk (inB i57 l55.length) (Tr.br (!hasStr jb0 a0.1.1) (Tr.br (decide (a1 ≥ 0)) (Tr.re (ai 10) (cpHeap cpMk z0)) (Tr.to (H36p.h11 l55 i56 (IntKind.i64.wrap (i57 + 1)) z0 jb0))) (Tr.to (H36p.h11 l55 i56 (IntKind.i64.wrap (i57 + 1)) z0 jb0)))) (Tr.chk (inB a2 (List.length z0.1)) (Tr.br (!z0.2.2.2.2.2.2.1 == []) (Tr.chk (inB a3 (List.length z0.1)) (Tr.re (ai 0) (cpHeap cpMk (z0.1, z0.2.1, a4.1, a5.1, z0.2.2.2.2)))) (Tr.re (ai 0) (cpHeap cpMk (z0.1, z0.2.1, a4.1, z0.2.2.2)))))
def t36p_11 (l55 : List (Sem shRel)) (i56 : Int) (i57 : Int) (z0 : CSem cpMk) (jb0 : LS) : Tr (H36p ⊕ Raw) :=
  let a0 := l55.getD i57.toNat (dflt shRel)
  let a1 := ixFrom (fun x => hasStr jb0 x.2) a0.1.2.2.2.2.1 0
  let a2 := bFind z0.1 z0.2.2.2.2.2.1
  let a3 := bFind z0.1 z0.2.2.2.2.2.2.1
  let a4 := List.getD z0.1 (Int.toNat a2) (dflt shRel)
  let a5 := List.getD z0.1 (Int.toNat a3) (dflt shRel)
  t36p_11z l55 i56 i57 z0 jb0 a0 a1 a2 a3 a4 a5
theorem go36p (y : CSem cpMk) : run env71 1 kp36p (Func.results Tryz.f36).toList 400 (bodyOf Tryz.f36) (initSt (Func.ntmps Tryz.f36) [AV.ptr 0 0] (cpHeap cpMk y)) = (i36p y).map (lf Tryz.f36 e36p) := by kernel_rfl
def t36p : H36p → Tr (H36p ⊕ Raw)
  | .h3 l14 i15 i16 z0 jb0 => t36p_3 l14 i15 i16 z0 jb0
  | .h11 l55 i56 i57 z0 jb0 => t36p_11 l55 i56 i57 z0 jb0
theorem on36p : ∀ s, run env71 1 kp36p (Func.results Tryz.f36).toList 400 (headK Tryz.f36 (e36p s).1) (e36p s).2 = (t36p s).map (lf Tryz.f36 e36p) | .h3 l14 i15 i16 z0 jb0 => by kernel_rfl | .h11 l55 i56 i57 z0 jb0 => by kernel_rfl
def mSourcesO (y : CSem cpMk) : Option (HArgs (List.map some [shInt]) × CSem cpMk) := outB [shInt] cpMk t36p 100000000 (i36p y)
def mSourcesC (y : CSem cpMk) : Bool := (mSourcesO y).isSome
def mSources (y : CSem cpMk) : (Sem shInt) × CSem cpMk := (fun r : HArgs (List.map some [shInt]) × CSem cpMk => (r.1.1, r.2)) ((mSourcesO y).getD (dfltH [shInt], dfltC cpMk))
def F36p : FSem := boxF cpMk [] [shInt] cpMk (fun y _ => mSourcesC y) fun y _ => (((mSources y).1, ()), (mSources y).2)
theorem FOk36p : FOk env71.P env71.gl 36 F36p := FOk_B1 (keep := kp36p) (gas := 400) (n := 100000000) (e := e36p) (t := t36p) (i := fun y x => i36p y) env71_all env71_mix ok36p (fun y x => go36p y) on36p (fun _ _ => by kernel_rfl) (fun _ _ => by kernel_rfl)

def env59 : Env := (env71.add 36 F36p)
theorem env59_all : EnvAll env59 := (EnvAll.addS env71_all (SameE.refl env71) FOk36p)
theorem env59_mix : env59.P.follows .mixedOrders = true := (mix_add env71_mix _ _)
end
open Go Go.Proofs
noncomputable section
set_option maxHeartbeats 4000000
abbrev cpMk2 : List CP := [.d (.sl shRel), .d shStmt, .d shTable, .d shTable, .d .str, .d .str, .d .str, .d .str, .vec shCol, .d shInt, .nil, .nil, .d .expr, .vec shInt, .d shInt]

abbrev kp66p : Nat → Keep := fun j => if j = 3 then { slots := [1, 3, 14, 15, 16, 0], prom := [(0, some 60, .int .i64), (0, some 50, shCol)] } else if j = 12 then { slots := [1, 63, 64, 65, 0] } else if j = 1000000 then { sett := [(0, 60)] } else { }
inductive H66p where
  | h3 (l14 : LS) (i15 : Int) (i16 : Int) (z0 : CSem cpMk2)
  | h12 (i64 : Int) (i65 : Int) (z0 : CSem cpMk2)
  | h12b (i64 : Int) (i65 : Int) (z0 : CSem cpMk2)
abbrev e66p : H66p → Nat × St
  | .h3 l14 i15 i16 z0 => (3, ⟨tm 80 [(0, AV.ptr 0 0), (1, AV.ptr 1 0), (3, AV.clo (Fn.func 115) [] [AV.ptr 1 0]), (14, AV.sl Sh.str l14), (15, ai i15), (16, ai i16)], [AO.box (cpN [2, 3] cpMk2 z0), AO.box [AV.ptr 0 0], AO.vec shCol z0.2.2.2.2.2.2.2.2.1, AO.vec shInt z0.2.2.2.2.2.2.2.2.2.2.2.1]⟩)
  | .h12 i64 i65 z0 => (12, ⟨tm 80 [(0, AV.ptr 0 0), (1, AV.ptr 1 0), (63, AV.vec 2), (64, ai i64), (65, ai i65)], [AO.box (cpN [3, 2] cpMk2 z0), AO.box [AV.ptr 0 0], AO.vec shInt z0.2.2.2.2.2.2.2.2.2.2.2.1, AO.vec shCol z0.2.2.2.2.2.2.2.2.1]⟩)
  | .h12b i64 i65 z0 => (12, ⟨tm 80 [(0, AV.ptr 0 0), (1, AV.ptr 1 0), (63, AV.vec 2), (64, ai i64), (65, ai i65)], [AO.box (cpN [3, 2] cpMk2 z0), AO.box [AV.ptr 0 0], AO.frz shInt z0.2.2.2.2.2.2.2.2.2.2.2.1, AO.vec shCol z0.2.2.2.2.2.2.2.2.1]⟩)
theorem ok66p : fnChk env59.P 66 Tryz.f66 1 := by refine ⟨?_, ?_, ?_, ?_⟩ <;> kernel_rfl
def i66p (y : CSem cpMk) : Tr (H66p ⊕ Raw) := Tr.to (H66p.h3 y.2.1.2.2.2.1 (↑(List.length y.2.1.2.2.2.1) : Int) 0 (y.1, y.2.1, y.2.2.1, y.2.2.2.1, y.2.2.2.2.1, y.2.2.2.2.2.1, y.2.2.2.2.2.2.1, y.2.2.2.2.2.2.2.1, [], y.2.2.2.2.2.2.2.2.1, y.2.2.2.2.2.2.2.2.2.1, [], y.2.2.2.2.2.2.2.2.2.2))
def t66p_3z (l14 : LS) (i15 : Int) (i16 : Int) (z0 : CSem cpMk2) (a0 : Sem shInt) (a1 : LI) (a2 : LC) : Tr (H66p ⊕ Raw) := Tr.br (decide (i16 < i15)) (Tr.chk (inB i16 l14.length) (Tr.br (decide (a0 < 0)) (Tr.re (ai 4) (cpHeap cpMk3 z0)) (Tr.chk (decide (z0.2.2.2.2.2.2.2.2.2.2.2.1.length + a1.length ≤ 1073741824)) (Tr.chk (inB a0 (List.length z0.2.2.1.2.1)) (Tr.chk (decide (z0.2.2.2.2.2.2.2.2.1.length + a2.length ≤ 1073741824)) (Tr.to (H66p.h3 l14 i15 (IntKind.i64.wrap (i16 + 1)) (z0.1, z0.2.1, z0.2.2.1, z0.2.2.2.1, z0.2.2.2.2.1, z0.2.2.2.2.2.1, z0.2.2.2.2.2.2.1, z0.2.2.2.2.2.2.2.1, z0.2.2.2.2.2.2.2.2.1 ++ a2, z0.2.2.2.2.2.2.2.2.2.1, z0.2.2.2.2.2.2.2.2.2.2.1, z0.2.2.2.2.2.2.2.2.2.2.2.1 ++ a1, z0.2.2.2.2.2.2.2.2.2.2.2.2)))))))) (Tr.to (H66p.h12 (↑z0.2.2.2.2.2.2.2.2.2.2.2.1.length : Int) 0 z0))
def t66p_3 (l14 : LS) (i15 : Int) (i16 : Int) (z0 : CSem cpMk2) : Tr (H66p ⊕ Raw) :=
  let a0 := tPlace (z0.2.2.1.1, z0.2.2.1.2.1, z0.2.2.1.2.2.1, z0.2.2.1.2.2.2.1, z0.2.2.1.2.2.2.2.1, etaE z0.2.2.1.2.2.2.2.2) (l14.getD i16.toNat (dflt Sh.str))
  let a1 := [a0]
  let a2 := [List.getD z0.2.2.1.2.1 (Int.toNat a0) (dflt shCol)]
  t66p_3z l14 i15 i16 z0 a0 a1 a2
def t66p_12z (i64 : Int) (i65 : Int) (z0 : CSem cpMk2) (a0 : Int) : Tr (H66p ⊕ Raw) := Tr.br (decide (i65 < i64)) (Tr.chk (inB i65 z0.2.2.2.2.2.2.2.2.2.2.2.1.length) (Tr.chk (decide (i65.toNat < z0.2.2.2.2.2.2.2.2.2.2.2.1.length)) (Tr.chk (decide (0 ≤ 0) && decide (0 ≤ i65) && decide (i65 ≤ a0)) (Tr.br (hasInt (List.take (i65.toNat - Int.toNat 0) (List.drop (Int.toNat 0) z0.2.2.2.2.2.2.2.2.2.2.2.1)) (z0.2.2.2.2.2.2.2.2.2.2.2.1.getD i65.toNat (dflt shInt))) (Tr.re (ai 7) (cpHeap cpMk3 z0)) (Tr.to (H66p.h12b i64 (IntKind.i64.wrap (i65 + 1)) z0)))))) (Tr.re (ai 0) (cpHeap cpMk3 z0))
def t66p_12 (i64 : Int) (i65 : Int) (z0 : CSem cpMk2) : Tr (H66p ⊕ Raw) :=
  let a0 := (↑z0.2.2.2.2.2.2.2.2.2.2.2.1.length : Int)
  t66p_12z i64 i65 z0 a0
def t66p_12bz (i64 : Int) (i65 : Int) (z0 : CSem cpMk2) (a0 : Int) : Tr (H66p ⊕ Raw) := Tr.br (decide (i65 < i64)) (Tr.chk (inB i65 z0.2.2.2.2.2.2.2.2.2.2.2.1.length) (Tr.chk (decide (0 ≤ 0) && decide (0 ≤ i65) && decide (i65 ≤ a0)) (Tr.br (hasInt (List.take (i65.toNat - Int.toNat 0) (List.drop (Int.toNat 0) z0.2.2.2.2.2.2.2.2.2.2.2.1)) (z0.2.2.2.2.2.2.2.2.2.2.2.1.getD i65.toNat (dflt shInt))) (Tr.re (ai 7) (cpHeap cpMk3 z0)) (Tr.to (H66p.h12b i64 (IntKind.i64.wrap (i65 + 1)) z0))))) (Tr.re (ai 0) (cpHeap cpMk3 z0))
def t66p_12b (i64 : Int) (i65 : Int) (z0 : CSem cpMk2) : Tr (H66p ⊕ Raw) :=
  let a0 := (↑z0.2.2.2.2.2.2.2.2.2.2.2.1.length : Int)
  t66p_12bz i64 i65 z0 a0
theorem go66p (y : CSem cpMk) : run env59 1 kp66p (Func.results Tryz.f66).toList 400 (bodyOf Tryz.f66) (initSt (Func.ntmps Tryz.f66) [AV.ptr 0 0] (cpHeap cpMk y)) = (i66p y).map (lf Tryz.f66 e66p) := by kernel_rfl
def t66p : H66p → Tr (H66p ⊕ Raw)
  | .h3 l14 i15 i16 z0 => t66p_3 l14 i15 i16 z0
  | .h12 i64 i65 z0 => t66p_12 i64 i65 z0
  | .h12b i64 i65 z0 => t66p_12b i64 i65 z0
theorem on66p : ∀ s, run env59 1 kp66p (Func.results Tryz.f66).toList 400 (headK Tryz.f66 (e66p s).1) (e66p s).2 = (t66p s).map (lf Tryz.f66 e66p) | .h3 l14 i15 i16 z0 => by kernel_rfl | .h12 i64 i65 z0 => by kernel_rfl | .h12b i64 i65 z0 => by kernel_rfl
def mNamedO (y : CSem cpMk) : Option (HArgs (List.map some [shInt]) × CSem cpMk3) := outB [shInt] cpMk3 t66p 100000000 (i66p y)
def mNamedC (y : CSem cpMk) : Bool := (mNamedO y).isSome
def mNamed (y : CSem cpMk) : (Sem shInt) × CSem cpMk3 := (fun r : HArgs (List.map some [shInt]) × CSem cpMk3 => (r.1.1, r.2)) ((mNamedO y).getD (dfltH [shInt], dfltC cpMk3))
def F66p : FSem := boxF cpMk [] [shInt] cpMk3 (fun y _ => mNamedC y) fun y _ => (((mNamed y).1, ()), (mNamed y).2)
theorem FOk66p : FOk env59.P env59.gl 66 F66p := FOk_B1 (ps := cpMk) (ks := []) (outs := [shInt]) (keep := kp66p) (gas := 400) (n := 100000000) (e := e66p) (t := t66p) (i := fun y x => i66p y) env59_all env59_mix ok66p (fun y x => go66p y) on66p (fun _ _ => by kernel_rfl) (fun _ _ => by kernel_rfl)

def env60 : Env := (env59.add 66 F66p)
theorem env60_all : EnvAll env60 := (EnvAll.addS env59_all (SameE.refl env59) FOk66p)
theorem env60_mix : env60.P.follows .mixedOrders = true := (mix_add env59_mix _ _)
end
end Cad
