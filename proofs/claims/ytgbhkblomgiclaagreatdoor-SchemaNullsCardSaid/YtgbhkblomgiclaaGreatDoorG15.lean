/- Statements: their texts. Statements that may be. The table of a statement. The chapter's examples. -/
import Derived.Test.YtgbhkblomgiclaaGreatDoorG14
namespace Cad
open Go Go.Proofs
set_option maxHeartbeats 4000000

abbrev kp52 : Nat → Keep := fun j => { }
theorem ok52 : fnChk (env42).P 52 Tryz.f52 1 := by refine ⟨?_, ?_, ?_, ?_⟩ <;> kernel_rfl
theorem go52 (x0 : Sem shStmt) : run (env42) 0 kp52 (Func.results Tryz.f52).toList 400 (bodyOf Tryz.f52) (initSt (Func.ntmps Tryz.f52) [datum shStmt x0] []) =
  Tr.chk
  (sPartsC
    (x0.fst, x0.snd.fst, x0.snd.snd.fst, x0.snd.snd.snd.fst, x0.snd.snd.snd.snd.fst, x0.snd.snd.snd.snd.snd.fst, x0.snd.snd.snd.snd.snd.snd.fst,
      x0.snd.snd.snd.snd.snd.snd.snd.fst,
      ExprT.mk (ExprT.op x0.snd.snd.snd.snd.snd.snd.snd.snd.fst) (ExprT.v x0.snd.snd.snd.snd.snd.snd.snd.snd.fst)
        (ExprT.s x0.snd.snd.snd.snd.snd.snd.snd.snd.fst) (ExprT.l x0.snd.snd.snd.snd.snd.snd.snd.snd.fst),
      x0.snd.snd.snd.snd.snd.snd.snd.snd.snd.fst, x0.snd.snd.snd.snd.snd.snd.snd.snd.snd.snd.fst,
      ExprT.mk (ExprT.op x0.snd.snd.snd.snd.snd.snd.snd.snd.snd.snd.snd.fst) (ExprT.v x0.snd.snd.snd.snd.snd.snd.snd.snd.snd.snd.snd.fst)
        (ExprT.s x0.snd.snd.snd.snd.snd.snd.snd.snd.snd.snd.snd.fst) (ExprT.l x0.snd.snd.snd.snd.snd.snd.snd.snd.snd.snd.snd.fst),
      x0.snd.snd.snd.snd.snd.snd.snd.snd.snd.snd.snd.snd))
  (Tr.br
    (!sParts
        (x0.fst, x0.snd.fst, x0.snd.snd.fst, x0.snd.snd.snd.fst, x0.snd.snd.snd.snd.fst, x0.snd.snd.snd.snd.snd.fst, x0.snd.snd.snd.snd.snd.snd.fst,
        x0.snd.snd.snd.snd.snd.snd.snd.fst,
        ExprT.mk (ExprT.op x0.snd.snd.snd.snd.snd.snd.snd.snd.fst) (ExprT.v x0.snd.snd.snd.snd.snd.snd.snd.snd.fst)
        (ExprT.s x0.snd.snd.snd.snd.snd.snd.snd.snd.fst) (ExprT.l x0.snd.snd.snd.snd.snd.snd.snd.snd.fst),
        x0.snd.snd.snd.snd.snd.snd.snd.snd.snd.fst, x0.snd.snd.snd.snd.snd.snd.snd.snd.snd.snd.fst,
        ExprT.mk (ExprT.op x0.snd.snd.snd.snd.snd.snd.snd.snd.snd.snd.snd.fst) (ExprT.v x0.snd.snd.snd.snd.snd.snd.snd.snd.snd.snd.snd.fst)
        (ExprT.s x0.snd.snd.snd.snd.snd.snd.snd.snd.snd.snd.snd.fst) (ExprT.l x0.snd.snd.snd.snd.snd.snd.snd.snd.snd.snd.snd.fst),
        x0.snd.snd.snd.snd.snd.snd.snd.snd.snd.snd.snd.snd))
    (Tr.ok (Leaf.ret (AV.tup [AV.str [], AV.int IntKind.i64 1]) []))
    (Tr.chk
      (sTextC
        (x0.fst, x0.snd.fst, x0.snd.snd.fst, x0.snd.snd.snd.fst, x0.snd.snd.snd.snd.fst, x0.snd.snd.snd.snd.snd.fst, x0.snd.snd.snd.snd.snd.snd.fst,
        x0.snd.snd.snd.snd.snd.snd.snd.fst,
        ExprT.mk (ExprT.op x0.snd.snd.snd.snd.snd.snd.snd.snd.fst) (ExprT.v x0.snd.snd.snd.snd.snd.snd.snd.snd.fst)
        (ExprT.s x0.snd.snd.snd.snd.snd.snd.snd.snd.fst) (ExprT.l x0.snd.snd.snd.snd.snd.snd.snd.snd.fst),
        x0.snd.snd.snd.snd.snd.snd.snd.snd.snd.fst, x0.snd.snd.snd.snd.snd.snd.snd.snd.snd.snd.fst,
        ExprT.mk (ExprT.op x0.snd.snd.snd.snd.snd.snd.snd.snd.snd.snd.snd.fst) (ExprT.v x0.snd.snd.snd.snd.snd.snd.snd.snd.snd.snd.snd.fst)
        (ExprT.s x0.snd.snd.snd.snd.snd.snd.snd.snd.snd.snd.snd.fst) (ExprT.l x0.snd.snd.snd.snd.snd.snd.snd.snd.snd.snd.snd.fst),
        x0.snd.snd.snd.snd.snd.snd.snd.snd.snd.snd.snd.snd))
      (Tr.chk
        (cutC
        (sText
        (x0.fst, x0.snd.fst, x0.snd.snd.fst, x0.snd.snd.snd.fst, x0.snd.snd.snd.snd.fst, x0.snd.snd.snd.snd.snd.fst, x0.snd.snd.snd.snd.snd.snd.fst,
        x0.snd.snd.snd.snd.snd.snd.snd.fst,
        ExprT.mk (ExprT.op x0.snd.snd.snd.snd.snd.snd.snd.snd.fst) (ExprT.v x0.snd.snd.snd.snd.snd.snd.snd.snd.fst)
        (ExprT.s x0.snd.snd.snd.snd.snd.snd.snd.snd.fst) (ExprT.l x0.snd.snd.snd.snd.snd.snd.snd.snd.fst),
        x0.snd.snd.snd.snd.snd.snd.snd.snd.snd.fst, x0.snd.snd.snd.snd.snd.snd.snd.snd.snd.snd.fst,
        ExprT.mk (ExprT.op x0.snd.snd.snd.snd.snd.snd.snd.snd.snd.snd.snd.fst) (ExprT.v x0.snd.snd.snd.snd.snd.snd.snd.snd.snd.snd.snd.fst)
        (ExprT.s x0.snd.snd.snd.snd.snd.snd.snd.snd.snd.snd.snd.fst) (ExprT.l x0.snd.snd.snd.snd.snd.snd.snd.snd.snd.snd.snd.fst),
        x0.snd.snd.snd.snd.snd.snd.snd.snd.snd.snd.snd.snd)))
        (Tr.br
        ((cut
        (sText
        (x0.fst, x0.snd.fst, x0.snd.snd.fst, x0.snd.snd.snd.fst, x0.snd.snd.snd.snd.fst, x0.snd.snd.snd.snd.snd.fst, x0.snd.snd.snd.snd.snd.snd.fst,
        x0.snd.snd.snd.snd.snd.snd.snd.fst,
        ExprT.mk (ExprT.op x0.snd.snd.snd.snd.snd.snd.snd.snd.fst) (ExprT.v x0.snd.snd.snd.snd.snd.snd.snd.snd.fst)
        (ExprT.s x0.snd.snd.snd.snd.snd.snd.snd.snd.fst) (ExprT.l x0.snd.snd.snd.snd.snd.snd.snd.snd.fst),
        x0.snd.snd.snd.snd.snd.snd.snd.snd.snd.fst, x0.snd.snd.snd.snd.snd.snd.snd.snd.snd.snd.fst,
        ExprT.mk (ExprT.op x0.snd.snd.snd.snd.snd.snd.snd.snd.snd.snd.snd.fst) (ExprT.v x0.snd.snd.snd.snd.snd.snd.snd.snd.snd.snd.snd.fst)
        (ExprT.s x0.snd.snd.snd.snd.snd.snd.snd.snd.snd.snd.snd.fst) (ExprT.l x0.snd.snd.snd.snd.snd.snd.snd.snd.snd.snd.snd.fst),
        x0.snd.snd.snd.snd.snd.snd.snd.snd.snd.snd.snd.snd))).snd !=
        0)
        (Tr.ok (Leaf.ret (AV.tup [AV.str [], AV.int IntKind.i64 1]) []))
        (Tr.ok
        (Leaf.ret
        (AV.tup
        [AV.str
        (sText
        (x0.fst, x0.snd.fst, x0.snd.snd.fst, x0.snd.snd.snd.fst, x0.snd.snd.snd.snd.fst, x0.snd.snd.snd.snd.snd.fst,
        x0.snd.snd.snd.snd.snd.snd.fst, x0.snd.snd.snd.snd.snd.snd.snd.fst,
        ExprT.mk (ExprT.op x0.snd.snd.snd.snd.snd.snd.snd.snd.fst) (ExprT.v x0.snd.snd.snd.snd.snd.snd.snd.snd.fst)
        (ExprT.s x0.snd.snd.snd.snd.snd.snd.snd.snd.fst) (ExprT.l x0.snd.snd.snd.snd.snd.snd.snd.snd.fst),
        x0.snd.snd.snd.snd.snd.snd.snd.snd.snd.fst, x0.snd.snd.snd.snd.snd.snd.snd.snd.snd.snd.fst,
        ExprT.mk (ExprT.op x0.snd.snd.snd.snd.snd.snd.snd.snd.snd.snd.snd.fst) (ExprT.v x0.snd.snd.snd.snd.snd.snd.snd.snd.snd.snd.snd.fst)
        (ExprT.s x0.snd.snd.snd.snd.snd.snd.snd.snd.snd.snd.snd.fst) (ExprT.l x0.snd.snd.snd.snd.snd.snd.snd.snd.snd.snd.snd.fst),
        x0.snd.snd.snd.snd.snd.snd.snd.snd.snd.snd.snd.snd)),
        AV.int IntKind.i64 0])
        [])))))) := by kernel_rfl
def stText (x0 : Sem shStmt) : Sem Sh.str × Sem shInt :=
  (if (!sParts x0) = true then ([], 1) else if ((cut (sText x0)).snd != 0) = true then ([], 1) else (sText x0, 0))
def stTextC (x0 : Sem shStmt) : Bool :=
  (if sPartsC x0 = true then if (!sParts x0) = true then true else if sTextC x0 = true then if cutC (sText x0) = true then true else false else false else false)
def F52 : FSem := plainC [shStmt] [Sh.str, shInt] (fun x => stTextC x.1) fun x => ((stText x.1).1, (stText x.1).2, ())
theorem FOk52 : FOk (env42).P (env42).gl 52 F52 := by
  refine FOk_plainC (ok52) fun x hc C hC => ?_
  unfold stTextC at hc
  refine reach_ok env42_all env42_mix (ok52) (fun id _ => hC id) (go52 x.1) ?_
  generalize hy : stText x.1 = y
  unfold stText at hy
  try simp only [ExprT.eta]
  repeat' (first | (with_reducible refine OptOk_br (fun hsp => ?_) (fun hsp => ?_) <;> first | (rw [if_pos hsp] at hy; try rw [if_pos hsp] at hc) | (rw [if_neg (ne_t hsp)] at hy; try rw [if_neg (ne_t hsp)] at hc)) | (have hgi := guard_ite hc; with_reducible refine OptOk_chk hgi.1 ?_; replace hc := hgi.2; clear hgi) | with_reducible refine OptOk_chkT ?_)
  all_goals first | (cases hc; done) | (subst hy; first | rfl)

noncomputable def F34 : FSem := liftF (List.replicate 3 none) (autoG env42 Tryz.f34 (List.replicate 3 none))
theorem FOk34 : FOk env42.P env42.gl 34 F34 := FOk_auto _ env42_all env42_mix (by refine ⟨?_, ?_, ?_, ?_⟩ <;> kernel_rfl)

noncomputable def env43 : Env := ((env42.add 52 F52).add 34 F34)
theorem env43_all : EnvAll env43 := (EnvAll.addS (EnvAll.addS env42_all (SameE.refl env42) FOk52) ((SameE.refl env42).add _ _) FOk34)
theorem env43_mix : env43.P.follows .mixedOrders = true := (mix_add (mix_add env42_mix _ _) _ _)
end Cad

namespace Cad
open Go Go.Proofs
set_option maxHeartbeats 4000000

abbrev kp31 : Nat → Keep := fun j => { }
theorem ok31 : fnChk (env43).P 31 Tryz.f31 1 := by refine ⟨?_, ?_, ?_, ?_⟩ <;> kernel_rfl
theorem go31 (x0 : Sem shStmt) : run (env43) 0 kp31 (Func.results Tryz.f31).toList 400 (bodyOf Tryz.f31) (initSt (Func.ntmps Tryz.f31) [datum shStmt x0] []) =
  Tr.chk
  (stTextC
    (x0.fst, x0.snd.fst, x0.snd.snd.fst, x0.snd.snd.snd.fst, x0.snd.snd.snd.snd.fst, x0.snd.snd.snd.snd.snd.fst, x0.snd.snd.snd.snd.snd.snd.fst,
      x0.snd.snd.snd.snd.snd.snd.snd.fst,
      ExprT.mk (ExprT.op x0.snd.snd.snd.snd.snd.snd.snd.snd.fst) (ExprT.v x0.snd.snd.snd.snd.snd.snd.snd.snd.fst)
        (ExprT.s x0.snd.snd.snd.snd.snd.snd.snd.snd.fst) (ExprT.l x0.snd.snd.snd.snd.snd.snd.snd.snd.fst),
      x0.snd.snd.snd.snd.snd.snd.snd.snd.snd.fst, x0.snd.snd.snd.snd.snd.snd.snd.snd.snd.snd.fst,
      ExprT.mk (ExprT.op x0.snd.snd.snd.snd.snd.snd.snd.snd.snd.snd.snd.fst) (ExprT.v x0.snd.snd.snd.snd.snd.snd.snd.snd.snd.snd.snd.fst)
        (ExprT.s x0.snd.snd.snd.snd.snd.snd.snd.snd.snd.snd.snd.fst) (ExprT.l x0.snd.snd.snd.snd.snd.snd.snd.snd.snd.snd.snd.fst),
      x0.snd.snd.snd.snd.snd.snd.snd.snd.snd.snd.snd.snd))
  (Tr.ok
    (Leaf.ret
      (AV.bool
        ((stText
        (x0.fst, x0.snd.fst, x0.snd.snd.fst, x0.snd.snd.snd.fst, x0.snd.snd.snd.snd.fst, x0.snd.snd.snd.snd.snd.fst, x0.snd.snd.snd.snd.snd.snd.fst,
        x0.snd.snd.snd.snd.snd.snd.snd.fst,
        ExprT.mk (ExprT.op x0.snd.snd.snd.snd.snd.snd.snd.snd.fst) (ExprT.v x0.snd.snd.snd.snd.snd.snd.snd.snd.fst)
        (ExprT.s x0.snd.snd.snd.snd.snd.snd.snd.snd.fst) (ExprT.l x0.snd.snd.snd.snd.snd.snd.snd.snd.fst),
        x0.snd.snd.snd.snd.snd.snd.snd.snd.snd.fst, x0.snd.snd.snd.snd.snd.snd.snd.snd.snd.snd.fst,
        ExprT.mk (ExprT.op x0.snd.snd.snd.snd.snd.snd.snd.snd.snd.snd.snd.fst) (ExprT.v x0.snd.snd.snd.snd.snd.snd.snd.snd.snd.snd.snd.fst)
        (ExprT.s x0.snd.snd.snd.snd.snd.snd.snd.snd.snd.snd.snd.fst) (ExprT.l x0.snd.snd.snd.snd.snd.snd.snd.snd.snd.snd.snd.fst),
        x0.snd.snd.snd.snd.snd.snd.snd.snd.snd.snd.snd.snd)).snd ==
        0))
      [])) := by kernel_rfl
def stMay (x0 : Sem shStmt) : Sem Sh.bool :=
  ((stText x0).snd == 0)
def stMayC (x0 : Sem shStmt) : Bool :=
  (if stTextC x0 = true then true else false)
def F31 : FSem := plainC [shStmt] [Sh.bool] (fun x => stMayC x.1) fun x => (stMay x.1, ())
theorem FOk31 : FOk (env43).P (env43).gl 31 F31 := by
  refine FOk_plainC (ok31) fun x hc C hC => ?_
  unfold stMayC at hc
  refine reach_ok env43_all env43_mix (ok31) (fun id _ => hC id) (go31 x.1) ?_
  generalize hy : stMay x.1 = y
  unfold stMay at hy
  try simp only [ExprT.eta]
  repeat' (first | (with_reducible refine OptOk_br (fun hsp => ?_) (fun hsp => ?_) <;> first | (rw [if_pos hsp] at hy; try rw [if_pos hsp] at hc) | (rw [if_neg (ne_t hsp)] at hy; try rw [if_neg (ne_t hsp)] at hc)) | (have hgi := guard_ite hc; with_reducible refine OptOk_chk hgi.1 ?_; replace hc := hgi.2; clear hgi) | with_reducible refine OptOk_chkT ?_)
  all_goals first | (cases hc; done) | (subst hy; first | rfl)

noncomputable def env44 : Env := (env43.add 31 F31)
theorem env44_all : EnvAll env44 := (EnvAll.addS env43_all (SameE.refl env43) FOk31)
theorem env44_mix : env44.P.follows .mixedOrders = true := (mix_add env43_mix _ _)
end Cad

namespace Cad
open Go Go.Proofs
set_option maxHeartbeats 4000000

abbrev kp20 : Nat → Keep := fun j => if j = 5 then { slots := [1, 2, 4, 32, 33, 34] } else if j = 14 then { slots := [1, 2, 4, 7, 8, 54, 55, 56], prom := [(4, some 3, .int .i64)] } else if j = 19 then { slots := [2, 4, 7, 8, 70, 71, 72], prom := [(4, some 4, shFor)] } else { }
abbrev s20_5 (i33 : Int) (i34 : Int) (sh_0_0 : Sem Sh.str) (sh_0_1 : Sem Sh.str) (sh_0_2 : Sem Sh.str) (lh_0_3 : List (Sem Sh.str)) (lh_0_4 : List (Sem shCol)) (sh_0_5 : Sem Sh.str) (lh_0_6 : List (Sem Sh.str)) (lh_0_7 : List (Sem (Sh.str.pr Sh.str))) (sh_0_8 : Str) (ih_0_9 : Int) (ih_0_10 : Int) (sh_0_11 : Str) (sh_0_12 : Str) (lh_0_13 : List (Sem Sh.expr)) (lh_0_14 : List (Sem shVal)) (lh_0_15 : List (Sem (Sh.str.pr Sh.expr))) (sh_0_16 : Str) (ih_0_17 : Int) (ih_0_18 : Int) (sh_0_19 : Str) (sh_0_20 : Str) (lh_0_21 : List (Sem Sh.expr)) (sh_0_22 : Sem Sh.str) (sh_1_0 : List UInt8) (ih_1_2 : Int) (sh_1_5 : List UInt8) (ih_1_6 : Int) (ih_1_7 : Int) (sh_1_8 : List UInt8) (sh_1_9 : List UInt8) (sh_2_0 : Sem Sh.str) (ih_2_2 : Int) (sh_2_5 : Str) (ih_2_6 : Int) (ih_2_7 : Int) (sh_2_8 : Str) (sh_2_9 : Str) (lh_2_10 : List (Sem Sh.expr)) (lh_3 : List (Sem shCol)) : St := {
  tmps :=
    [AV.any, AV.ptr 0 0, AV.ptr 1 0, AV.any, AV.ptr 2 0, AV.any, AV.any, AV.any, AV.any, AV.any, AV.any, AV.any, AV.any, AV.any, AV.any, AV.any, AV.any, AV.any,
      AV.any, AV.any, AV.any, AV.any, AV.any, AV.any, AV.any, AV.any, AV.any, AV.any, AV.any, AV.any, AV.any, AV.any, AV.vec 3, AV.int IntKind.i64 i33,
      AV.int IntKind.i64 i34, AV.any, AV.any, AV.any, AV.any, AV.any, AV.any, AV.any, AV.any, AV.any, AV.any, AV.any, AV.any, AV.any, AV.any, AV.any, AV.any,
      AV.any, AV.any, AV.any, AV.any, AV.any, AV.any, AV.any, AV.any, AV.any, AV.any, AV.any, AV.any, AV.any, AV.any, AV.any, AV.any, AV.any, AV.any, AV.any,
      AV.any, AV.any, AV.any, AV.any, AV.any, AV.any, AV.any, AV.any, AV.any, AV.any, AV.any, AV.any, AV.any, AV.any, AV.any, AV.any, AV.any, AV.any, AV.any,
      AV.any, AV.any, AV.any, AV.any, AV.any, AV.any, AV.any, AV.any, AV.any, AV.any, AV.any, AV.any, AV.any, AV.any, AV.any, AV.any, AV.any, AV.any],
  heap :=
    [AO.box
        [AV.str sh_0_0, AV.str sh_0_1, AV.str sh_0_2, AV.sl Sh.str lh_0_3, AV.sl shCol lh_0_4, AV.str sh_0_5,
        AV.sl Sh.str lh_0_6, AV.sl (Sh.str.pr Sh.str) lh_0_7, AV.str sh_0_8, AV.int IntKind.i64 ih_0_9, AV.int IntKind.i64 ih_0_10, AV.str sh_0_11,
        AV.str sh_0_12, AV.sl Sh.expr lh_0_13, AV.sl shVal lh_0_14, AV.sl (Sh.str.pr Sh.expr) lh_0_15,
        AV.str sh_0_16, AV.int IntKind.i64 ih_0_17, AV.int IntKind.i64 ih_0_18, AV.str sh_0_19, AV.str sh_0_20, AV.sl Sh.expr lh_0_21, AV.str sh_0_22],
      AO.box
        [AV.str sh_1_0, AV.nils, AV.int IntKind.i64 ih_1_2, AV.nils, AV.nils, AV.str sh_1_5, AV.int IntKind.i64 ih_1_6, AV.int IntKind.i64 ih_1_7,
        AV.str sh_1_8, AV.str sh_1_9, AV.nils],
      AO.box
        [AV.str sh_2_0, AV.vec 3, AV.int IntKind.i64 ih_2_2, AV.nils, AV.nils, AV.str sh_2_5, AV.int IntKind.i64 ih_2_6, AV.int IntKind.i64 ih_2_7,
        AV.str sh_2_8, AV.str sh_2_9, AV.sl Sh.expr lh_2_10],
      AO.vec shCol lh_3] }
theorem ok20 : fnChk (env44).P 20 Tryz.f20 1 := by refine ⟨?_, ?_, ?_, ?_⟩ <;> kernel_rfl
theorem go20 (x0 : Sem shStmt) : run (env44) 0 kp20 (Func.results Tryz.f20).toList 400 (bodyOf Tryz.f20) (initSt (Func.ntmps Tryz.f20) [datum shStmt x0] []) =
  Tr.chk
  (bif !x0.fst == [99, 114, 101, 97, 116, 101] then true
  else
    stMayC
      (x0.fst, x0.snd.fst, x0.snd.snd.fst, x0.snd.snd.snd.fst, x0.snd.snd.snd.snd.fst, x0.snd.snd.snd.snd.snd.fst, x0.snd.snd.snd.snd.snd.snd.fst,
        x0.snd.snd.snd.snd.snd.snd.snd.fst,
        ExprT.mk (ExprT.op x0.snd.snd.snd.snd.snd.snd.snd.snd.fst) (ExprT.v x0.snd.snd.snd.snd.snd.snd.snd.snd.fst)
        (ExprT.s x0.snd.snd.snd.snd.snd.snd.snd.snd.fst) (ExprT.l x0.snd.snd.snd.snd.snd.snd.snd.snd.fst),
        x0.snd.snd.snd.snd.snd.snd.snd.snd.snd.fst, x0.snd.snd.snd.snd.snd.snd.snd.snd.snd.snd.fst,
        ExprT.mk (ExprT.op x0.snd.snd.snd.snd.snd.snd.snd.snd.snd.snd.snd.fst) (ExprT.v x0.snd.snd.snd.snd.snd.snd.snd.snd.snd.snd.snd.fst)
        (ExprT.s x0.snd.snd.snd.snd.snd.snd.snd.snd.snd.snd.snd.fst) (ExprT.l x0.snd.snd.snd.snd.snd.snd.snd.snd.snd.snd.snd.fst),
        x0.snd.snd.snd.snd.snd.snd.snd.snd.snd.snd.snd.snd))
  (Tr.br
    (bif !x0.fst == [99, 114, 101, 97, 116, 101] then true
    else
      !stMay
        (x0.fst, x0.snd.fst, x0.snd.snd.fst, x0.snd.snd.snd.fst, x0.snd.snd.snd.snd.fst, x0.snd.snd.snd.snd.snd.fst, x0.snd.snd.snd.snd.snd.snd.fst,
        x0.snd.snd.snd.snd.snd.snd.snd.fst,
        ExprT.mk (ExprT.op x0.snd.snd.snd.snd.snd.snd.snd.snd.fst) (ExprT.v x0.snd.snd.snd.snd.snd.snd.snd.snd.fst)
        (ExprT.s x0.snd.snd.snd.snd.snd.snd.snd.snd.fst) (ExprT.l x0.snd.snd.snd.snd.snd.snd.snd.snd.fst),
        x0.snd.snd.snd.snd.snd.snd.snd.snd.snd.fst, x0.snd.snd.snd.snd.snd.snd.snd.snd.snd.snd.fst,
        ExprT.mk (ExprT.op x0.snd.snd.snd.snd.snd.snd.snd.snd.snd.snd.snd.fst) (ExprT.v x0.snd.snd.snd.snd.snd.snd.snd.snd.snd.snd.snd.fst)
        (ExprT.s x0.snd.snd.snd.snd.snd.snd.snd.snd.snd.snd.snd.fst) (ExprT.l x0.snd.snd.snd.snd.snd.snd.snd.snd.snd.snd.snd.fst),
        x0.snd.snd.snd.snd.snd.snd.snd.snd.snd.snd.snd.snd))
    (Tr.ok
      (Leaf.ret
        (AV.tup
        [AV.agg
        [AV.str [], AV.nils, AV.int IntKind.i64 0, AV.nils, AV.nils, AV.str [], AV.int IntKind.i64 0, AV.int IntKind.i64 0, AV.str [], AV.str [],
        AV.nils],
        AV.int IntKind.i64 1])
        []))
    (Tr.chk (decide (List.length x0.snd.snd.snd.snd.fst ≤ 1073741824))
      (Tr.chk
        (cpC 16
        (ExprT.mk (ExprT.op x0.snd.snd.snd.snd.snd.snd.snd.snd.fst) (ExprT.v x0.snd.snd.snd.snd.snd.snd.snd.snd.fst)
        (ExprT.s x0.snd.snd.snd.snd.snd.snd.snd.snd.fst) (ExprT.l x0.snd.snd.snd.snd.snd.snd.snd.snd.fst)))
        (Tr.ok
        (Leaf.head 5 (headK Tryz.f20 5)
        (s20_5 (↑(List.length x0.snd.snd.snd.snd.fst) : Int) 0 x0.fst x0.snd.fst x0.snd.snd.fst x0.snd.snd.snd.fst x0.snd.snd.snd.snd.fst
        x0.snd.snd.snd.snd.snd.fst x0.snd.snd.snd.snd.snd.snd.fst x0.snd.snd.snd.snd.snd.snd.snd.fst (ExprT.op x0.snd.snd.snd.snd.snd.snd.snd.snd.fst)
        (ExprT.v x0.snd.snd.snd.snd.snd.snd.snd.snd.fst).fst (ExprT.v x0.snd.snd.snd.snd.snd.snd.snd.snd.fst).snd.fst
        (ExprT.v x0.snd.snd.snd.snd.snd.snd.snd.snd.fst).snd.snd (ExprT.s x0.snd.snd.snd.snd.snd.snd.snd.snd.fst)
        (ExprT.l x0.snd.snd.snd.snd.snd.snd.snd.snd.fst) x0.snd.snd.snd.snd.snd.snd.snd.snd.snd.fst x0.snd.snd.snd.snd.snd.snd.snd.snd.snd.snd.fst
        (ExprT.op x0.snd.snd.snd.snd.snd.snd.snd.snd.snd.snd.snd.fst) (ExprT.v x0.snd.snd.snd.snd.snd.snd.snd.snd.snd.snd.snd.fst).fst
        (ExprT.v x0.snd.snd.snd.snd.snd.snd.snd.snd.snd.snd.snd.fst).snd.fst (ExprT.v x0.snd.snd.snd.snd.snd.snd.snd.snd.snd.snd.snd.fst).snd.snd
        (ExprT.s x0.snd.snd.snd.snd.snd.snd.snd.snd.snd.snd.snd.fst) (ExprT.l x0.snd.snd.snd.snd.snd.snd.snd.snd.snd.snd.snd.fst)
        x0.snd.snd.snd.snd.snd.snd.snd.snd.snd.snd.snd.snd [] 0 [] 0 0 [] [] x0.snd.fst 0 (ExprT.op x0.snd.snd.snd.snd.snd.snd.snd.snd.fst)
        (ExprT.v x0.snd.snd.snd.snd.snd.snd.snd.snd.fst).fst (ExprT.v x0.snd.snd.snd.snd.snd.snd.snd.snd.fst).snd.fst
        (ExprT.v x0.snd.snd.snd.snd.snd.snd.snd.snd.fst).snd.snd (ExprT.s x0.snd.snd.snd.snd.snd.snd.snd.snd.fst)
        (ExprT.l x0.snd.snd.snd.snd.snd.snd.snd.snd.fst) x0.snd.snd.snd.snd.fst)))))) := by kernel_rfl
abbrev s20_14 (l54 : List (Sem Sh.str)) (i55 : Int) (i56 : Int) (sh_0_0 : Sem Sh.str) (sh_0_1 : Sem Sh.str) (sh_0_2 : Sem Sh.str) (lh_0_3 : List (Sem Sh.str)) (lh_0_4 : List (Sem shCol)) (sh_0_5 : Sem Sh.str) (lh_0_6 : List (Sem Sh.str)) (lh_0_7 : List (Sem (Sh.str.pr Sh.str))) (sh_0_8 : Str) (ih_0_9 : Int) (ih_0_10 : Int) (sh_0_11 : Str) (sh_0_12 : Str) (lh_0_13 : List (Sem Sh.expr)) (lh_0_14 : List (Sem shVal)) (lh_0_15 : List (Sem (Sh.str.pr Sh.expr))) (sh_0_16 : Str) (ih_0_17 : Int) (ih_0_18 : Int) (sh_0_19 : Str) (sh_0_20 : Str) (lh_0_21 : List (Sem Sh.expr)) (sh_0_22 : Sem Sh.str) (sh_1_0 : List UInt8) (ih_1_2 : Int) (sh_1_5 : List UInt8) (ih_1_6 : Int) (ih_1_7 : Int) (sh_1_8 : List UInt8) (sh_1_9 : List UInt8) (sh_2_0 : Sem Sh.str) (ih_2_2 : Sem shInt) (sh_2_5 : Str) (ih_2_6 : Int) (ih_2_7 : Int) (sh_2_8 : Str) (sh_2_9 : Str) (lh_2_10 : List (Sem Sh.expr)) (ih_3_0 : Int) (lh_4 : List (Sem shCol)) (lh_5 : List (Sem shInt)) : St := {
  tmps :=
    [AV.any, AV.ptr 0 0, AV.ptr 1 0, AV.any, AV.ptr 2 0, AV.any, AV.any, AV.ptr 3 0, AV.clo (Fn.func 34) [] [AV.ptr 2 0, AV.ptr 3 0], AV.any, AV.any, AV.any,
      AV.any, AV.any, AV.any, AV.any, AV.any, AV.any, AV.any, AV.any, AV.any, AV.any, AV.any, AV.any, AV.any, AV.any, AV.any, AV.any, AV.any, AV.any, AV.any,
      AV.any, AV.any, AV.any, AV.any, AV.any, AV.any, AV.any, AV.any, AV.any, AV.any, AV.any, AV.any, AV.any, AV.any, AV.any, AV.any, AV.any, AV.any, AV.any,
      AV.any, AV.any, AV.any, AV.any, AV.sl Sh.str l54, AV.int IntKind.i64 i55, AV.int IntKind.i64 i56, AV.any, AV.any, AV.any, AV.any, AV.any, AV.any, AV.any,
      AV.any, AV.any, AV.any, AV.any, AV.any, AV.any, AV.any, AV.any, AV.any, AV.any, AV.any, AV.any, AV.any, AV.any, AV.any, AV.any, AV.any, AV.any, AV.any,
      AV.any, AV.any, AV.any, AV.any, AV.any, AV.any, AV.any, AV.any, AV.any, AV.any, AV.any, AV.any, AV.any, AV.any, AV.any, AV.any, AV.any, AV.any, AV.any,
      AV.any, AV.any, AV.any, AV.any, AV.any],
  heap :=
    [AO.box
        [AV.str sh_0_0, AV.str sh_0_1, AV.str sh_0_2, AV.sl Sh.str lh_0_3, AV.sl shCol lh_0_4, AV.str sh_0_5,
        AV.sl Sh.str lh_0_6, AV.sl (Sh.str.pr Sh.str) lh_0_7, AV.str sh_0_8, AV.int IntKind.i64 ih_0_9, AV.int IntKind.i64 ih_0_10, AV.str sh_0_11,
        AV.str sh_0_12, AV.sl Sh.expr lh_0_13, AV.sl shVal lh_0_14, AV.sl (Sh.str.pr Sh.expr) lh_0_15,
        AV.str sh_0_16, AV.int IntKind.i64 ih_0_17, AV.int IntKind.i64 ih_0_18, AV.str sh_0_19, AV.str sh_0_20, AV.sl Sh.expr lh_0_21, AV.str sh_0_22],
      AO.box
        [AV.str sh_1_0, AV.nils, AV.int IntKind.i64 ih_1_2, AV.nils, AV.nils, AV.str sh_1_5, AV.int IntKind.i64 ih_1_6, AV.int IntKind.i64 ih_1_7,
        AV.str sh_1_8, AV.str sh_1_9, AV.nils],
      AO.box
        [AV.str sh_2_0, AV.vec 4, AV.int IntKind.i64 ih_2_2, AV.vec 5, AV.nils, AV.str sh_2_5, AV.int IntKind.i64 ih_2_6, AV.int IntKind.i64 ih_2_7,
        AV.str sh_2_8, AV.str sh_2_9, AV.sl Sh.expr lh_2_10],
      AO.box [AV.int IntKind.i64 ih_3_0], AO.vec shCol lh_4, AO.vec shInt lh_5] }
theorem on20_5 (i33 : Int) (i34 : Int) (sh_0_0 : Sem Sh.str) (sh_0_1 : Sem Sh.str) (sh_0_2 : Sem Sh.str) (lh_0_3 : List (Sem Sh.str)) (lh_0_4 : List (Sem shCol)) (sh_0_5 : Sem Sh.str) (lh_0_6 : List (Sem Sh.str)) (lh_0_7 : List (Sem (Sh.str.pr Sh.str))) (sh_0_8 : Str) (ih_0_9 : Int) (ih_0_10 : Int) (sh_0_11 : Str) (sh_0_12 : Str) (lh_0_13 : List (Sem Sh.expr)) (lh_0_14 : List (Sem shVal)) (lh_0_15 : List (Sem (Sh.str.pr Sh.expr))) (sh_0_16 : Str) (ih_0_17 : Int) (ih_0_18 : Int) (sh_0_19 : Str) (sh_0_20 : Str) (lh_0_21 : List (Sem Sh.expr)) (sh_0_22 : Sem Sh.str) (sh_1_0 : List UInt8) (ih_1_2 : Int) (sh_1_5 : List UInt8) (ih_1_6 : Int) (ih_1_7 : Int) (sh_1_8 : List UInt8) (sh_1_9 : List UInt8) (sh_2_0 : Sem Sh.str) (ih_2_2 : Int) (sh_2_5 : Str) (ih_2_6 : Int) (ih_2_7 : Int) (sh_2_8 : Str) (sh_2_9 : Str) (lh_2_10 : List (Sem Sh.expr)) (lh_3 : List (Sem shCol)) : run (env44) 0 kp20 (Func.results Tryz.f20).toList 400 (headK Tryz.f20 5) (s20_5 i33 i34 sh_0_0 sh_0_1 sh_0_2 lh_0_3 lh_0_4 sh_0_5 lh_0_6 lh_0_7 sh_0_8 ih_0_9 ih_0_10 sh_0_11 sh_0_12 lh_0_13 lh_0_14 lh_0_15 sh_0_16 ih_0_17 ih_0_18 sh_0_19 sh_0_20 lh_0_21 sh_0_22 sh_1_0 ih_1_2 sh_1_5 ih_1_6 ih_1_7 sh_1_8 sh_1_9 sh_2_0 ih_2_2 sh_2_5 ih_2_6 ih_2_7 sh_2_8 sh_2_9 lh_2_10 lh_3) =
  Tr.br (decide (i34 < i33))
  (Tr.chk (inB i34 lh_3.length)
    (Tr.chk (decide (i34.toNat < lh_3.length))
      (Tr.br
        (tPlace (sh_2_0, lh_3, ih_2_2, [], [], ExprT.mk sh_2_5 (ih_2_6, ih_2_7, sh_2_8) sh_2_9 lh_2_10)
        (lh_3.getD i34.toNat (dflt shCol)).fst !=
        i34)
        (Tr.ok
        (Leaf.ret
        (AV.tup
        [AV.agg
        [AV.str [], AV.nils, AV.int IntKind.i64 0, AV.nils, AV.nils, AV.str [], AV.int IntKind.i64 0, AV.int IntKind.i64 0, AV.str [], AV.str [],
        AV.nils],
        AV.int IntKind.i64 7])
        []))
        (Tr.ok
        (Leaf.head 5 (headK Tryz.f20 5)
        (s20_5 i33 (IntKind.i64.wrap (i34 + 1)) sh_0_0 sh_0_1 sh_0_2 lh_0_3 lh_0_4 sh_0_5 lh_0_6 lh_0_7 sh_0_8 ih_0_9 ih_0_10 sh_0_11 sh_0_12 lh_0_13
        lh_0_14 lh_0_15 sh_0_16 ih_0_17 ih_0_18 sh_0_19 sh_0_20 lh_0_21 sh_0_22 sh_1_0 ih_1_2 sh_1_5 ih_1_6 ih_1_7 sh_1_8 sh_1_9 sh_2_0 ih_2_2 sh_2_5
        ih_2_6 ih_2_7 sh_2_8 sh_2_9 lh_2_10 lh_3))))))
  (Tr.br (decide (tPlace (sh_2_0, lh_3, ih_2_2, [], [], ExprT.mk sh_2_5 (ih_2_6, ih_2_7, sh_2_8) sh_2_9 lh_2_10) sh_0_5 < 0))
    (Tr.ok
      (Leaf.head 14 (headK Tryz.f20 14)
        (s20_14 lh_0_6 (↑lh_0_6.length : Int) 0 sh_0_0 sh_0_1 sh_0_2 lh_0_3 lh_0_4 sh_0_5 lh_0_6 lh_0_7 sh_0_8 ih_0_9 ih_0_10 sh_0_11 sh_0_12 lh_0_13 lh_0_14
        lh_0_15 sh_0_16 ih_0_17 ih_0_18 sh_0_19 sh_0_20 lh_0_21 sh_0_22 sh_1_0 ih_1_2 sh_1_5 ih_1_6 ih_1_7 sh_1_8 sh_1_9 sh_2_0
        (tPlace (sh_2_0, lh_3, ih_2_2, [], [], ExprT.mk sh_2_5 (ih_2_6, ih_2_7, sh_2_8) sh_2_9 lh_2_10) sh_0_5) sh_2_5 ih_2_6 ih_2_7 sh_2_8 sh_2_9 lh_2_10 4
        lh_3 [])))
    (Tr.ok
      (Leaf.head 14 (headK Tryz.f20 14)
        (s20_14 lh_0_6 (↑lh_0_6.length : Int) 0 sh_0_0 sh_0_1 sh_0_2 lh_0_3 lh_0_4 sh_0_5 lh_0_6 lh_0_7 sh_0_8 ih_0_9 ih_0_10 sh_0_11 sh_0_12 lh_0_13 lh_0_14
        lh_0_15 sh_0_16 ih_0_17 ih_0_18 sh_0_19 sh_0_20 lh_0_21 sh_0_22 sh_1_0 ih_1_2 sh_1_5 ih_1_6 ih_1_7 sh_1_8 sh_1_9 sh_2_0
        (tPlace (sh_2_0, lh_3, ih_2_2, [], [], ExprT.mk sh_2_5 (ih_2_6, ih_2_7, sh_2_8) sh_2_9 lh_2_10) sh_0_5) sh_2_5 ih_2_6 ih_2_7 sh_2_8 sh_2_9 lh_2_10 0
        lh_3 [])))) := by kernel_rfl
abbrev s20_19 (l70 : List (Sem (Sh.str.pr Sh.str))) (i71 : Int) (i72 : Int) (sh_0_0 : List UInt8) (ih_0_2 : Int) (sh_0_5 : List UInt8) (ih_0_6 : Int) (ih_0_7 : Int) (sh_0_8 : List UInt8) (sh_0_9 : List UInt8) (sh_1_0 : Sem Sh.str) (ih_1_2 : Sem shInt) (sh_1_5 : Str) (ih_1_6 : Int) (ih_1_7 : Int) (sh_1_8 : Str) (sh_1_9 : Str) (lh_1_10 : List (Sem Sh.expr)) (ih_2_0 : Int) (lh_3 : List (Sem shCol)) (lh_4 : List (Sem shInt)) (lh_5 : List (Sem shFor)) : St := {
  tmps :=
    [AV.any, AV.any, AV.ptr 0 0, AV.any, AV.ptr 1 0, AV.any, AV.any, AV.ptr 2 0, AV.clo (Fn.func 34) [] [AV.ptr 1 0, AV.ptr 2 0], AV.any, AV.any, AV.any,
      AV.any, AV.any, AV.any, AV.any, AV.any, AV.any, AV.any, AV.any, AV.any, AV.any, AV.any, AV.any, AV.any, AV.any, AV.any, AV.any, AV.any, AV.any, AV.any,
      AV.any, AV.any, AV.any, AV.any, AV.any, AV.any, AV.any, AV.any, AV.any, AV.any, AV.any, AV.any, AV.any, AV.any, AV.any, AV.any, AV.any, AV.any, AV.any,
      AV.any, AV.any, AV.any, AV.any, AV.any, AV.any, AV.any, AV.any, AV.any, AV.any, AV.any, AV.any, AV.any, AV.any, AV.any, AV.any, AV.any, AV.any, AV.any,
      AV.any, AV.sl (Sh.str.pr Sh.str) l70, AV.int IntKind.i64 i71, AV.int IntKind.i64 i72, AV.any, AV.any, AV.any, AV.any, AV.any, AV.any, AV.any, AV.any,
      AV.any, AV.any, AV.any, AV.any, AV.any, AV.any, AV.any, AV.any, AV.any, AV.any, AV.any, AV.any, AV.any, AV.any, AV.any, AV.any, AV.any, AV.any, AV.any,
      AV.any, AV.any, AV.any, AV.any, AV.any, AV.any, AV.any],
  heap :=
    [AO.box
        [AV.str sh_0_0, AV.nils, AV.int IntKind.i64 ih_0_2, AV.nils, AV.nils, AV.str sh_0_5, AV.int IntKind.i64 ih_0_6, AV.int IntKind.i64 ih_0_7,
        AV.str sh_0_8, AV.str sh_0_9, AV.nils],
      AO.box
        [AV.str sh_1_0, AV.vec 3, AV.int IntKind.i64 ih_1_2, AV.vec 4, AV.vec 5, AV.str sh_1_5, AV.int IntKind.i64 ih_1_6, AV.int IntKind.i64 ih_1_7,
        AV.str sh_1_8, AV.str sh_1_9, AV.sl Sh.expr lh_1_10],
      AO.box [AV.int IntKind.i64 ih_2_0], AO.vec shCol lh_3, AO.vec shInt lh_4,
      AO.vec shFor lh_5] }
theorem on20_14 (l54 : List (Sem Sh.str)) (i55 : Int) (i56 : Int) (sh_0_0 : Sem Sh.str) (sh_0_1 : Sem Sh.str) (sh_0_2 : Sem Sh.str) (lh_0_3 : List (Sem Sh.str)) (lh_0_4 : List (Sem shCol)) (sh_0_5 : Sem Sh.str) (lh_0_6 : List (Sem Sh.str)) (lh_0_7 : List (Sem (Sh.str.pr Sh.str))) (sh_0_8 : Str) (ih_0_9 : Int) (ih_0_10 : Int) (sh_0_11 : Str) (sh_0_12 : Str) (lh_0_13 : List (Sem Sh.expr)) (lh_0_14 : List (Sem shVal)) (lh_0_15 : List (Sem (Sh.str.pr Sh.expr))) (sh_0_16 : Str) (ih_0_17 : Int) (ih_0_18 : Int) (sh_0_19 : Str) (sh_0_20 : Str) (lh_0_21 : List (Sem Sh.expr)) (sh_0_22 : Sem Sh.str) (sh_1_0 : List UInt8) (ih_1_2 : Int) (sh_1_5 : List UInt8) (ih_1_6 : Int) (ih_1_7 : Int) (sh_1_8 : List UInt8) (sh_1_9 : List UInt8) (sh_2_0 : Sem Sh.str) (ih_2_2 : Sem shInt) (sh_2_5 : Str) (ih_2_6 : Int) (ih_2_7 : Int) (sh_2_8 : Str) (sh_2_9 : Str) (lh_2_10 : List (Sem Sh.expr)) (ih_3_0 : Int) (lh_4 : List (Sem shCol)) (lh_5 : List (Sem shInt)) : run (env44) 0 kp20 (Func.results Tryz.f20).toList 400 (headK Tryz.f20 14) (s20_14 l54 i55 i56 sh_0_0 sh_0_1 sh_0_2 lh_0_3 lh_0_4 sh_0_5 lh_0_6 lh_0_7 sh_0_8 ih_0_9 ih_0_10 sh_0_11 sh_0_12 lh_0_13 lh_0_14 lh_0_15 sh_0_16 ih_0_17 ih_0_18 sh_0_19 sh_0_20 lh_0_21 sh_0_22 sh_1_0 ih_1_2 sh_1_5 ih_1_6 ih_1_7 sh_1_8 sh_1_9 sh_2_0 ih_2_2 sh_2_5 ih_2_6 ih_2_7 sh_2_8 sh_2_9 lh_2_10 ih_3_0 lh_4 lh_5) =
  Tr.br (decide (i56 < i55))
  (Tr.chk (inB i56 l54.length)
    (Tr.br (decide (tPlace (sh_2_0, lh_4, ih_2_2, lh_5, [], ExprT.mk sh_2_5 (ih_2_6, ih_2_7, sh_2_8) sh_2_9 lh_2_10) (l54.getD i56.toNat (dflt Sh.str)) < 0))
      (Tr.chk
        (decide
        (lh_5.length +
        [tPlace (sh_2_0, lh_4, ih_2_2, lh_5, [], ExprT.mk sh_2_5 (ih_2_6, ih_2_7, sh_2_8) sh_2_9 lh_2_10) (l54.getD i56.toNat (dflt Sh.str))].length ≤
        1073741824))
        Tr.err)
      (Tr.chk
        (decide
        (lh_5.length +
        [tPlace (sh_2_0, lh_4, ih_2_2, lh_5, [], ExprT.mk sh_2_5 (ih_2_6, ih_2_7, sh_2_8) sh_2_9 lh_2_10) (l54.getD i56.toNat (dflt Sh.str))].length ≤
        1073741824))
        Tr.err)))
  (Tr.ok
    (Leaf.head 19 (headK Tryz.f20 19)
      (s20_19 lh_0_7 (↑lh_0_7.length : Int) 0 sh_1_0 ih_1_2 sh_1_5 ih_1_6 ih_1_7 sh_1_8 sh_1_9 sh_2_0 ih_2_2 sh_2_5 ih_2_6 ih_2_7 sh_2_8 sh_2_9 lh_2_10 ih_3_0
        lh_4 lh_5 []))) := by kernel_rfl
theorem on20_19 (l70 : List (Sem (Sh.str.pr Sh.str))) (i71 : Int) (i72 : Int) (sh_0_0 : List UInt8) (ih_0_2 : Int) (sh_0_5 : List UInt8) (ih_0_6 : Int) (ih_0_7 : Int) (sh_0_8 : List UInt8) (sh_0_9 : List UInt8) (sh_1_0 : Sem Sh.str) (ih_1_2 : Sem shInt) (sh_1_5 : Str) (ih_1_6 : Int) (ih_1_7 : Int) (sh_1_8 : Str) (sh_1_9 : Str) (lh_1_10 : List (Sem Sh.expr)) (ih_2_0 : Int) (lh_3 : List (Sem shCol)) (lh_4 : List (Sem shInt)) (lh_5 : List (Sem shFor)) : run (env44) 0 kp20 (Func.results Tryz.f20).toList 400 (headK Tryz.f20 19) (s20_19 l70 i71 i72 sh_0_0 ih_0_2 sh_0_5 ih_0_6 ih_0_7 sh_0_8 sh_0_9 sh_1_0 ih_1_2 sh_1_5 ih_1_6 ih_1_7 sh_1_8 sh_1_9 lh_1_10 ih_2_0 lh_3 lh_4 lh_5) =
  Tr.br (decide (i72 < i71))
  (Tr.chk (inB i72 l70.length)
    (Tr.br
      (decide
        (tPlace (sh_1_0, lh_3, ih_1_2, lh_4, lh_5, ExprT.mk sh_1_5 (ih_1_6, ih_1_7, sh_1_8) sh_1_9 lh_1_10) (l70.getD i72.toNat (dflt (Sh.str.pr Sh.str))).fst <
        0))
      (Tr.chk
        (decide
        (lh_5.length +
        [(tPlace (sh_1_0, lh_3, ih_1_2, lh_4, lh_5, ExprT.mk sh_1_5 (ih_1_6, ih_1_7, sh_1_8) sh_1_9 lh_1_10)
        (l70.getD i72.toNat (dflt (Sh.str.pr Sh.str))).fst,
        (l70.getD i72.toNat (dflt (Sh.str.pr Sh.str))).snd)].length ≤
        1073741824))
        Tr.err)
      (Tr.chk
        (decide
        (lh_5.length +
        [(tPlace (sh_1_0, lh_3, ih_1_2, lh_4, lh_5, ExprT.mk sh_1_5 (ih_1_6, ih_1_7, sh_1_8) sh_1_9 lh_1_10)
        (l70.getD i72.toNat (dflt (Sh.str.pr Sh.str))).fst,
        (l70.getD i72.toNat (dflt (Sh.str.pr Sh.str))).snd)].length ≤
        1073741824))
        Tr.err)))
  (Tr.br (ih_2_0 == 0)
    (Tr.br (sCheck (ExprT.mk sh_1_5 (ih_1_6, ih_1_7, sh_1_8) sh_1_9 lh_1_10) lh_3 != 0)
      (Tr.ok
        (Leaf.ret
        (AV.tup
        [AV.agg
        [AV.str [], AV.nils, AV.int IntKind.i64 0, AV.nils, AV.nils, AV.str [], AV.int IntKind.i64 0, AV.int IntKind.i64 0, AV.str [], AV.str [],
        AV.nils],
        AV.int IntKind.i64 (sCheck (ExprT.mk sh_1_5 (ih_1_6, ih_1_7, sh_1_8) sh_1_9 lh_1_10) lh_3)])
        []))
      (Tr.chk (inB ih_1_2 lh_3.length)
        (Tr.chk (decide (Int.toNat ih_1_2 < lh_3.length))
        (Tr.ok
        (Leaf.ret
        (AV.tup
        [AV.agg
        [AV.str sh_1_0, AV.vec 0, AV.int IntKind.i64 ih_1_2, AV.vec 1, AV.vec 2, AV.str sh_1_5, AV.int IntKind.i64 ih_1_6,
        AV.int IntKind.i64 ih_1_7, AV.str sh_1_8, AV.str sh_1_9, AV.sl Sh.expr lh_1_10],
        AV.int IntKind.i64 0])
        [AO.vec shCol
        (lh_3.set (Int.toNat ih_1_2)
        ((lh_3.getD (Int.toNat ih_1_2) (dflt shCol)).fst,
        (lh_3.getD (Int.toNat ih_1_2) (dflt shCol)).snd.fst, true)),
        AO.vec shInt lh_4, AO.vec shFor lh_5])))))
    (Tr.br (ih_2_0 != 0)
      (Tr.ok
        (Leaf.ret
        (AV.tup
        [AV.agg
        [AV.str [], AV.nils, AV.int IntKind.i64 0, AV.nils, AV.nils, AV.str [], AV.int IntKind.i64 0, AV.int IntKind.i64 0, AV.str [], AV.str [],
        AV.nils],
        AV.int IntKind.i64 ih_2_0])
        []))
      (Tr.chk (inB ih_1_2 lh_3.length)
        (Tr.chk (decide (Int.toNat ih_1_2 < lh_3.length))
        (Tr.ok
        (Leaf.ret
        (AV.tup
        [AV.agg
        [AV.str sh_1_0, AV.vec 0, AV.int IntKind.i64 ih_1_2, AV.vec 1, AV.vec 2, AV.str sh_1_5, AV.int IntKind.i64 ih_1_6,
        AV.int IntKind.i64 ih_1_7, AV.str sh_1_8, AV.str sh_1_9, AV.sl Sh.expr lh_1_10],
        AV.int IntKind.i64 0])
        [AO.vec shCol
        (lh_3.set (Int.toNat ih_1_2)
        ((lh_3.getD (Int.toNat ih_1_2) (dflt shCol)).fst,
        (lh_3.getD (Int.toNat ih_1_2) (dflt shCol)).snd.fst, true)),
        AO.vec shInt lh_4, AO.vec shFor lh_5])))))) := by kernel_rfl
mutual
def tOf_5 : Nat → Int → Int → (Sem Sh.str) → (Sem Sh.str) → (Sem Sh.str) → (List (Sem Sh.str)) → (List (Sem shCol)) → (Sem Sh.str) → (List (Sem Sh.str)) → (List (Sem (Sh.str.pr Sh.str))) → Str → Int → Int → Str → Str → (List (Sem Sh.expr)) → (List (Sem shVal)) → (List (Sem (Sh.str.pr Sh.expr))) → Str → Int → Int → Str → Str → (List (Sem Sh.expr)) → (Sem Sh.str) → (List UInt8) → Int → (List UInt8) → Int → Int → (List UInt8) → (List UInt8) → (Sem Sh.str) → Int → Str → Int → Int → Str → Str → (List (Sem Sh.expr)) → (List (Sem shCol)) → Sem shTable × Sem shInt
  | 0, _, _, _, _, _, _, _, _, _, _, _, _, _, _, _, _, _, _, _, _, _, _, _, _, _, _, _, _, _, _, _, _, _, _, _, _, _, _, _, _, _ => default
  | n + 1, i33, i34, sh_0_0, sh_0_1, sh_0_2, lh_0_3, lh_0_4, sh_0_5, lh_0_6, lh_0_7, sh_0_8, ih_0_9, ih_0_10, sh_0_11, sh_0_12, lh_0_13, lh_0_14, lh_0_15, sh_0_16, ih_0_17, ih_0_18, sh_0_19, sh_0_20, lh_0_21, sh_0_22, sh_1_0, ih_1_2, sh_1_5, ih_1_6, ih_1_7, sh_1_8, sh_1_9, sh_2_0, ih_2_2, sh_2_5, ih_2_6, ih_2_7, sh_2_8, sh_2_9, lh_2_10, lh_3 => (if decide (i34 < i33) = true then
  if
      (tPlace (sh_2_0, lh_3, ih_2_2, [], [], ExprT.mk sh_2_5 (ih_2_6, ih_2_7, sh_2_8) sh_2_9 lh_2_10)
        (lh_3.getD i34.toNat (dflt shCol)).fst !=
        i34) =
        true then
    (([], [], 0, [], [], ExprT.mk [] (0, 0, []) [] []), 7)
  else
    tOf_5 n i33 (IntKind.i64.wrap (i34 + 1)) sh_0_0 sh_0_1 sh_0_2 lh_0_3 lh_0_4 sh_0_5 lh_0_6 lh_0_7 sh_0_8 ih_0_9 ih_0_10 sh_0_11 sh_0_12 lh_0_13 lh_0_14
      lh_0_15 sh_0_16 ih_0_17 ih_0_18 sh_0_19 sh_0_20 lh_0_21 sh_0_22 sh_1_0 ih_1_2 sh_1_5 ih_1_6 ih_1_7 sh_1_8 sh_1_9 sh_2_0 ih_2_2 sh_2_5 ih_2_6 ih_2_7 sh_2_8
      sh_2_9 lh_2_10 lh_3
else
  if decide (tPlace (sh_2_0, lh_3, ih_2_2, [], [], ExprT.mk sh_2_5 (ih_2_6, ih_2_7, sh_2_8) sh_2_9 lh_2_10) sh_0_5 < 0) = true then
    tOf_14 n lh_0_6 (↑lh_0_6.length : Int) 0 sh_0_0 sh_0_1 sh_0_2 lh_0_3 lh_0_4 sh_0_5 lh_0_6 lh_0_7 sh_0_8 ih_0_9 ih_0_10 sh_0_11 sh_0_12 lh_0_13 lh_0_14
      lh_0_15 sh_0_16 ih_0_17 ih_0_18 sh_0_19 sh_0_20 lh_0_21 sh_0_22 sh_1_0 ih_1_2 sh_1_5 ih_1_6 ih_1_7 sh_1_8 sh_1_9 sh_2_0
      (tPlace (sh_2_0, lh_3, ih_2_2, [], [], ExprT.mk sh_2_5 (ih_2_6, ih_2_7, sh_2_8) sh_2_9 lh_2_10) sh_0_5) sh_2_5 ih_2_6 ih_2_7 sh_2_8 sh_2_9 lh_2_10 4 lh_3
      []
  else
    tOf_14 n lh_0_6 (↑lh_0_6.length : Int) 0 sh_0_0 sh_0_1 sh_0_2 lh_0_3 lh_0_4 sh_0_5 lh_0_6 lh_0_7 sh_0_8 ih_0_9 ih_0_10 sh_0_11 sh_0_12 lh_0_13 lh_0_14
      lh_0_15 sh_0_16 ih_0_17 ih_0_18 sh_0_19 sh_0_20 lh_0_21 sh_0_22 sh_1_0 ih_1_2 sh_1_5 ih_1_6 ih_1_7 sh_1_8 sh_1_9 sh_2_0
      (tPlace (sh_2_0, lh_3, ih_2_2, [], [], ExprT.mk sh_2_5 (ih_2_6, ih_2_7, sh_2_8) sh_2_9 lh_2_10) sh_0_5) sh_2_5 ih_2_6 ih_2_7 sh_2_8 sh_2_9 lh_2_10 0 lh_3
      [])
def tOf_14 : Nat → (List (Sem Sh.str)) → Int → Int → (Sem Sh.str) → (Sem Sh.str) → (Sem Sh.str) → (List (Sem Sh.str)) → (List (Sem shCol)) → (Sem Sh.str) → (List (Sem Sh.str)) → (List (Sem (Sh.str.pr Sh.str))) → Str → Int → Int → Str → Str → (List (Sem Sh.expr)) → (List (Sem shVal)) → (List (Sem (Sh.str.pr Sh.expr))) → Str → Int → Int → Str → Str → (List (Sem Sh.expr)) → (Sem Sh.str) → (List UInt8) → Int → (List UInt8) → Int → Int → (List UInt8) → (List UInt8) → (Sem Sh.str) → (Sem shInt) → Str → Int → Int → Str → Str → (List (Sem Sh.expr)) → Int → (List (Sem shCol)) → (List (Sem shInt)) → Sem shTable × Sem shInt
  | 0, _, _, _, _, _, _, _, _, _, _, _, _, _, _, _, _, _, _, _, _, _, _, _, _, _, _, _, _, _, _, _, _, _, _, _, _, _, _, _, _, _, _, _, _ => default
  | n + 1, l54, i55, i56, sh_0_0, sh_0_1, sh_0_2, lh_0_3, lh_0_4, sh_0_5, lh_0_6, lh_0_7, sh_0_8, ih_0_9, ih_0_10, sh_0_11, sh_0_12, lh_0_13, lh_0_14, lh_0_15, sh_0_16, ih_0_17, ih_0_18, sh_0_19, sh_0_20, lh_0_21, sh_0_22, sh_1_0, ih_1_2, sh_1_5, ih_1_6, ih_1_7, sh_1_8, sh_1_9, sh_2_0, ih_2_2, sh_2_5, ih_2_6, ih_2_7, sh_2_8, sh_2_9, lh_2_10, ih_3_0, lh_4, lh_5 => (if decide (i56 < i55) = true then
  if
      decide (tPlace (sh_2_0, lh_4, ih_2_2, lh_5, [], ExprT.mk sh_2_5 (ih_2_6, ih_2_7, sh_2_8) sh_2_9 lh_2_10) (l54.getD i56.toNat (dflt Sh.str)) < 0) =
        true then
    default
  else default
else
  tOf_19 n lh_0_7 (↑lh_0_7.length : Int) 0 sh_1_0 ih_1_2 sh_1_5 ih_1_6 ih_1_7 sh_1_8 sh_1_9 sh_2_0 ih_2_2 sh_2_5 ih_2_6 ih_2_7 sh_2_8 sh_2_9 lh_2_10 ih_3_0 lh_4
    lh_5 [])
def tOf_19 : Nat → (List (Sem (Sh.str.pr Sh.str))) → Int → Int → (List UInt8) → Int → (List UInt8) → Int → Int → (List UInt8) → (List UInt8) → (Sem Sh.str) → (Sem shInt) → Str → Int → Int → Str → Str → (List (Sem Sh.expr)) → Int → (List (Sem shCol)) → (List (Sem shInt)) → (List (Sem shFor)) → Sem shTable × Sem shInt
  | 0, _, _, _, _, _, _, _, _, _, _, _, _, _, _, _, _, _, _, _, _, _, _ => default
  | n + 1, l70, i71, i72, sh_0_0, ih_0_2, sh_0_5, ih_0_6, ih_0_7, sh_0_8, sh_0_9, sh_1_0, ih_1_2, sh_1_5, ih_1_6, ih_1_7, sh_1_8, sh_1_9, lh_1_10, ih_2_0, lh_3, lh_4, lh_5 => (if decide (i72 < i71) = true then
  if
      decide
        (tPlace (sh_1_0, lh_3, ih_1_2, lh_4, lh_5, ExprT.mk sh_1_5 (ih_1_6, ih_1_7, sh_1_8) sh_1_9 lh_1_10)
        (l70.getD i72.toNat (dflt (Sh.str.pr Sh.str))).fst <
        0) =
        true then
    default
  else default
else
  if (ih_2_0 == 0) = true then
    if (sCheck (ExprT.mk sh_1_5 (ih_1_6, ih_1_7, sh_1_8) sh_1_9 lh_1_10) lh_3 != 0) = true then
      (([], [], 0, [], [], ExprT.mk [] (0, 0, []) [] []), sCheck (ExprT.mk sh_1_5 (ih_1_6, ih_1_7, sh_1_8) sh_1_9 lh_1_10) lh_3)
    else
      ((sh_1_0,
        lh_3.set (Int.toNat ih_1_2)
        ((lh_3.getD (Int.toNat ih_1_2) (dflt shCol)).fst,
        (lh_3.getD (Int.toNat ih_1_2) (dflt shCol)).snd.fst, true),
        ih_1_2, lh_4, lh_5, ExprT.mk sh_1_5 (ih_1_6, ih_1_7, sh_1_8) sh_1_9 lh_1_10),
        0)
  else
    if (ih_2_0 != 0) = true then (([], [], 0, [], [], ExprT.mk [] (0, 0, []) [] []), ih_2_0)
    else
      ((sh_1_0,
        lh_3.set (Int.toNat ih_1_2)
        ((lh_3.getD (Int.toNat ih_1_2) (dflt shCol)).fst,
        (lh_3.getD (Int.toNat ih_1_2) (dflt shCol)).snd.fst, true),
        ih_1_2, lh_4, lh_5, ExprT.mk sh_1_5 (ih_1_6, ih_1_7, sh_1_8) sh_1_9 lh_1_10),
        0))
end
mutual
def tOfC_5 : Nat → Int → Int → (Sem Sh.str) → (Sem Sh.str) → (Sem Sh.str) → (List (Sem Sh.str)) → (List (Sem shCol)) → (Sem Sh.str) → (List (Sem Sh.str)) → (List (Sem (Sh.str.pr Sh.str))) → Str → Int → Int → Str → Str → (List (Sem Sh.expr)) → (List (Sem shVal)) → (List (Sem (Sh.str.pr Sh.expr))) → Str → Int → Int → Str → Str → (List (Sem Sh.expr)) → (Sem Sh.str) → (List UInt8) → Int → (List UInt8) → Int → Int → (List UInt8) → (List UInt8) → (Sem Sh.str) → Int → Str → Int → Int → Str → Str → (List (Sem Sh.expr)) → (List (Sem shCol)) → Bool
  | 0, _, _, _, _, _, _, _, _, _, _, _, _, _, _, _, _, _, _, _, _, _, _, _, _, _, _, _, _, _, _, _, _, _, _, _, _, _, _, _, _, _ => false
  | n + 1, i33, i34, sh_0_0, sh_0_1, sh_0_2, lh_0_3, lh_0_4, sh_0_5, lh_0_6, lh_0_7, sh_0_8, ih_0_9, ih_0_10, sh_0_11, sh_0_12, lh_0_13, lh_0_14, lh_0_15, sh_0_16, ih_0_17, ih_0_18, sh_0_19, sh_0_20, lh_0_21, sh_0_22, sh_1_0, ih_1_2, sh_1_5, ih_1_6, ih_1_7, sh_1_8, sh_1_9, sh_2_0, ih_2_2, sh_2_5, ih_2_6, ih_2_7, sh_2_8, sh_2_9, lh_2_10, lh_3 => (if decide (i34 < i33) = true then
  if inB i34 lh_3.length = true then
    if decide (i34.toNat < lh_3.length) = true then
      if
        (tPlace (sh_2_0, lh_3, ih_2_2, [], [], ExprT.mk sh_2_5 (ih_2_6, ih_2_7, sh_2_8) sh_2_9 lh_2_10)
        (lh_3.getD i34.toNat (dflt shCol)).fst !=
        i34) =
        true then
        true
      else
        tOfC_5 n i33 (IntKind.i64.wrap (i34 + 1)) sh_0_0 sh_0_1 sh_0_2 lh_0_3 lh_0_4 sh_0_5 lh_0_6 lh_0_7 sh_0_8 ih_0_9 ih_0_10 sh_0_11 sh_0_12 lh_0_13 lh_0_14
        lh_0_15 sh_0_16 ih_0_17 ih_0_18 sh_0_19 sh_0_20 lh_0_21 sh_0_22 sh_1_0 ih_1_2 sh_1_5 ih_1_6 ih_1_7 sh_1_8 sh_1_9 sh_2_0 ih_2_2 sh_2_5 ih_2_6 ih_2_7
        sh_2_8 sh_2_9 lh_2_10 lh_3
    else false
  else false
else
  if decide (tPlace (sh_2_0, lh_3, ih_2_2, [], [], ExprT.mk sh_2_5 (ih_2_6, ih_2_7, sh_2_8) sh_2_9 lh_2_10) sh_0_5 < 0) = true then
    tOfC_14 n lh_0_6 (↑lh_0_6.length : Int) 0 sh_0_0 sh_0_1 sh_0_2 lh_0_3 lh_0_4 sh_0_5 lh_0_6 lh_0_7 sh_0_8 ih_0_9 ih_0_10 sh_0_11 sh_0_12 lh_0_13 lh_0_14
      lh_0_15 sh_0_16 ih_0_17 ih_0_18 sh_0_19 sh_0_20 lh_0_21 sh_0_22 sh_1_0 ih_1_2 sh_1_5 ih_1_6 ih_1_7 sh_1_8 sh_1_9 sh_2_0
      (tPlace (sh_2_0, lh_3, ih_2_2, [], [], ExprT.mk sh_2_5 (ih_2_6, ih_2_7, sh_2_8) sh_2_9 lh_2_10) sh_0_5) sh_2_5 ih_2_6 ih_2_7 sh_2_8 sh_2_9 lh_2_10 4 lh_3
      []
  else
    tOfC_14 n lh_0_6 (↑lh_0_6.length : Int) 0 sh_0_0 sh_0_1 sh_0_2 lh_0_3 lh_0_4 sh_0_5 lh_0_6 lh_0_7 sh_0_8 ih_0_9 ih_0_10 sh_0_11 sh_0_12 lh_0_13 lh_0_14
      lh_0_15 sh_0_16 ih_0_17 ih_0_18 sh_0_19 sh_0_20 lh_0_21 sh_0_22 sh_1_0 ih_1_2 sh_1_5 ih_1_6 ih_1_7 sh_1_8 sh_1_9 sh_2_0
      (tPlace (sh_2_0, lh_3, ih_2_2, [], [], ExprT.mk sh_2_5 (ih_2_6, ih_2_7, sh_2_8) sh_2_9 lh_2_10) sh_0_5) sh_2_5 ih_2_6 ih_2_7 sh_2_8 sh_2_9 lh_2_10 0 lh_3
      [])
def tOfC_14 : Nat → (List (Sem Sh.str)) → Int → Int → (Sem Sh.str) → (Sem Sh.str) → (Sem Sh.str) → (List (Sem Sh.str)) → (List (Sem shCol)) → (Sem Sh.str) → (List (Sem Sh.str)) → (List (Sem (Sh.str.pr Sh.str))) → Str → Int → Int → Str → Str → (List (Sem Sh.expr)) → (List (Sem shVal)) → (List (Sem (Sh.str.pr Sh.expr))) → Str → Int → Int → Str → Str → (List (Sem Sh.expr)) → (Sem Sh.str) → (List UInt8) → Int → (List UInt8) → Int → Int → (List UInt8) → (List UInt8) → (Sem Sh.str) → (Sem shInt) → Str → Int → Int → Str → Str → (List (Sem Sh.expr)) → Int → (List (Sem shCol)) → (List (Sem shInt)) → Bool
  | 0, _, _, _, _, _, _, _, _, _, _, _, _, _, _, _, _, _, _, _, _, _, _, _, _, _, _, _, _, _, _, _, _, _, _, _, _, _, _, _, _, _, _, _, _ => false
  | n + 1, l54, i55, i56, sh_0_0, sh_0_1, sh_0_2, lh_0_3, lh_0_4, sh_0_5, lh_0_6, lh_0_7, sh_0_8, ih_0_9, ih_0_10, sh_0_11, sh_0_12, lh_0_13, lh_0_14, lh_0_15, sh_0_16, ih_0_17, ih_0_18, sh_0_19, sh_0_20, lh_0_21, sh_0_22, sh_1_0, ih_1_2, sh_1_5, ih_1_6, ih_1_7, sh_1_8, sh_1_9, sh_2_0, ih_2_2, sh_2_5, ih_2_6, ih_2_7, sh_2_8, sh_2_9, lh_2_10, ih_3_0, lh_4, lh_5 => (if decide (i56 < i55) = true then
  if inB i56 l54.length = true then
    if
        decide (tPlace (sh_2_0, lh_4, ih_2_2, lh_5, [], ExprT.mk sh_2_5 (ih_2_6, ih_2_7, sh_2_8) sh_2_9 lh_2_10) (l54.getD i56.toNat (dflt Sh.str)) < 0) =
        true then
      if
        decide
        (lh_5.length +
        [tPlace (sh_2_0, lh_4, ih_2_2, lh_5, [], ExprT.mk sh_2_5 (ih_2_6, ih_2_7, sh_2_8) sh_2_9 lh_2_10) (l54.getD i56.toNat (dflt Sh.str))].length ≤
        1073741824) =
        true then
        false
      else false
    else
      if
        decide
        (lh_5.length +
        [tPlace (sh_2_0, lh_4, ih_2_2, lh_5, [], ExprT.mk sh_2_5 (ih_2_6, ih_2_7, sh_2_8) sh_2_9 lh_2_10) (l54.getD i56.toNat (dflt Sh.str))].length ≤
        1073741824) =
        true then
        false
      else false
  else false
else
  tOfC_19 n lh_0_7 (↑lh_0_7.length : Int) 0 sh_1_0 ih_1_2 sh_1_5 ih_1_6 ih_1_7 sh_1_8 sh_1_9 sh_2_0 ih_2_2 sh_2_5 ih_2_6 ih_2_7 sh_2_8 sh_2_9 lh_2_10 ih_3_0
    lh_4 lh_5 [])
def tOfC_19 : Nat → (List (Sem (Sh.str.pr Sh.str))) → Int → Int → (List UInt8) → Int → (List UInt8) → Int → Int → (List UInt8) → (List UInt8) → (Sem Sh.str) → (Sem shInt) → Str → Int → Int → Str → Str → (List (Sem Sh.expr)) → Int → (List (Sem shCol)) → (List (Sem shInt)) → (List (Sem shFor)) → Bool
  | 0, _, _, _, _, _, _, _, _, _, _, _, _, _, _, _, _, _, _, _, _, _, _ => false
  | n + 1, l70, i71, i72, sh_0_0, ih_0_2, sh_0_5, ih_0_6, ih_0_7, sh_0_8, sh_0_9, sh_1_0, ih_1_2, sh_1_5, ih_1_6, ih_1_7, sh_1_8, sh_1_9, lh_1_10, ih_2_0, lh_3, lh_4, lh_5 => (if decide (i72 < i71) = true then
  if inB i72 l70.length = true then
    if
        decide
        (tPlace (sh_1_0, lh_3, ih_1_2, lh_4, lh_5, ExprT.mk sh_1_5 (ih_1_6, ih_1_7, sh_1_8) sh_1_9 lh_1_10)
        (l70.getD i72.toNat (dflt (Sh.str.pr Sh.str))).fst <
        0) =
        true then
      if
        decide
        (lh_5.length +
        [(tPlace (sh_1_0, lh_3, ih_1_2, lh_4, lh_5, ExprT.mk sh_1_5 (ih_1_6, ih_1_7, sh_1_8) sh_1_9 lh_1_10)
        (l70.getD i72.toNat (dflt (Sh.str.pr Sh.str))).fst,
        (l70.getD i72.toNat (dflt (Sh.str.pr Sh.str))).snd)].length ≤
        1073741824) =
        true then
        false
      else false
    else
      if
        decide
        (lh_5.length +
        [(tPlace (sh_1_0, lh_3, ih_1_2, lh_4, lh_5, ExprT.mk sh_1_5 (ih_1_6, ih_1_7, sh_1_8) sh_1_9 lh_1_10)
        (l70.getD i72.toNat (dflt (Sh.str.pr Sh.str))).fst,
        (l70.getD i72.toNat (dflt (Sh.str.pr Sh.str))).snd)].length ≤
        1073741824) =
        true then
        false
      else false
  else false
else
  if (ih_2_0 == 0) = true then
    if (sCheck (ExprT.mk sh_1_5 (ih_1_6, ih_1_7, sh_1_8) sh_1_9 lh_1_10) lh_3 != 0) = true then true
    else if inB ih_1_2 lh_3.length = true then if decide (Int.toNat ih_1_2 < lh_3.length) = true then true else false else false
  else
    if (ih_2_0 != 0) = true then true
    else if inB ih_1_2 lh_3.length = true then if decide (Int.toNat ih_1_2 < lh_3.length) = true then true else false else false)
end
mutual
theorem at20_5 {C : Ctx} (hC : ∀ id, C.ρ0 id = none) : ∀ (n : Nat) (i33 : Int) (i34 : Int) (sh_0_0 : Sem Sh.str) (sh_0_1 : Sem Sh.str) (sh_0_2 : Sem Sh.str) (lh_0_3 : List (Sem Sh.str)) (lh_0_4 : List (Sem shCol)) (sh_0_5 : Sem Sh.str) (lh_0_6 : List (Sem Sh.str)) (lh_0_7 : List (Sem (Sh.str.pr Sh.str))) (sh_0_8 : Str) (ih_0_9 : Int) (ih_0_10 : Int) (sh_0_11 : Str) (sh_0_12 : Str) (lh_0_13 : List (Sem Sh.expr)) (lh_0_14 : List (Sem shVal)) (lh_0_15 : List (Sem (Sh.str.pr Sh.expr))) (sh_0_16 : Str) (ih_0_17 : Int) (ih_0_18 : Int) (sh_0_19 : Str) (sh_0_20 : Str) (lh_0_21 : List (Sem Sh.expr)) (sh_0_22 : Sem Sh.str) (sh_1_0 : List UInt8) (ih_1_2 : Int) (sh_1_5 : List UInt8) (ih_1_6 : Int) (ih_1_7 : Int) (sh_1_8 : List UInt8) (sh_1_9 : List UInt8) (sh_2_0 : Sem Sh.str) (ih_2_2 : Int) (sh_2_5 : Str) (ih_2_6 : Int) (ih_2_7 : Int) (sh_2_8 : Str) (sh_2_9 : Str) (lh_2_10 : List (Sem Sh.expr)) (lh_3 : List (Sem shCol)), tOfC_5 n i33 i34 sh_0_0 sh_0_1 sh_0_2 lh_0_3 lh_0_4 sh_0_5 lh_0_6 lh_0_7 sh_0_8 ih_0_9 ih_0_10 sh_0_11 sh_0_12 lh_0_13 lh_0_14 lh_0_15 sh_0_16 ih_0_17 ih_0_18 sh_0_19 sh_0_20 lh_0_21 sh_0_22 sh_1_0 ih_1_2 sh_1_5 ih_1_6 ih_1_7 sh_1_8 sh_1_9 sh_2_0 ih_2_2 sh_2_5 ih_2_6 ih_2_7 sh_2_8 sh_2_9 lh_2_10 lh_3 = true →
    Reach (env44) C 20 (headK Tryz.f20 5) (s20_5 i33 i34 sh_0_0 sh_0_1 sh_0_2 lh_0_3 lh_0_4 sh_0_5 lh_0_6 lh_0_7 sh_0_8 ih_0_9 ih_0_10 sh_0_11 sh_0_12 lh_0_13 lh_0_14 lh_0_15 sh_0_16 ih_0_17 ih_0_18 sh_0_19 sh_0_20 lh_0_21 sh_0_22 sh_1_0 ih_1_2 sh_1_5 ih_1_6 ih_1_7 sh_1_8 sh_1_9 sh_2_0 ih_2_2 sh_2_5 ih_2_6 ih_2_7 sh_2_8 sh_2_9 lh_2_10 lh_3) (fun r h => resOf h [shTable, shInt] r = some ((tOf_5 n i33 i34 sh_0_0 sh_0_1 sh_0_2 lh_0_3 lh_0_4 sh_0_5 lh_0_6 lh_0_7 sh_0_8 ih_0_9 ih_0_10 sh_0_11 sh_0_12 lh_0_13 lh_0_14 lh_0_15 sh_0_16 ih_0_17 ih_0_18 sh_0_19 sh_0_20 lh_0_21 sh_0_22 sh_1_0 ih_1_2 sh_1_5 ih_1_6 ih_1_7 sh_1_8 sh_1_9 sh_2_0 ih_2_2 sh_2_5 ih_2_6 ih_2_7 sh_2_8 sh_2_9 lh_2_10 lh_3).1, (tOf_5 n i33 i34 sh_0_0 sh_0_1 sh_0_2 lh_0_3 lh_0_4 sh_0_5 lh_0_6 lh_0_7 sh_0_8 ih_0_9 ih_0_10 sh_0_11 sh_0_12 lh_0_13 lh_0_14 lh_0_15 sh_0_16 ih_0_17 ih_0_18 sh_0_19 sh_0_20 lh_0_21 sh_0_22 sh_1_0 ih_1_2 sh_1_5 ih_1_6 ih_1_7 sh_1_8 sh_1_9 sh_2_0 ih_2_2 sh_2_5 ih_2_6 ih_2_7 sh_2_8 sh_2_9 lh_2_10 lh_3).2, ()))
  | 0, i33, i34, sh_0_0, sh_0_1, sh_0_2, lh_0_3, lh_0_4, sh_0_5, lh_0_6, lh_0_7, sh_0_8, ih_0_9, ih_0_10, sh_0_11, sh_0_12, lh_0_13, lh_0_14, lh_0_15, sh_0_16, ih_0_17, ih_0_18, sh_0_19, sh_0_20, lh_0_21, sh_0_22, sh_1_0, ih_1_2, sh_1_5, ih_1_6, ih_1_7, sh_1_8, sh_1_9, sh_2_0, ih_2_2, sh_2_5, ih_2_6, ih_2_7, sh_2_8, sh_2_9, lh_2_10, lh_3, hc => by cases hc
  | n + 1, i33, i34, sh_0_0, sh_0_1, sh_0_2, lh_0_3, lh_0_4, sh_0_5, lh_0_6, lh_0_7, sh_0_8, ih_0_9, ih_0_10, sh_0_11, sh_0_12, lh_0_13, lh_0_14, lh_0_15, sh_0_16, ih_0_17, ih_0_18, sh_0_19, sh_0_20, lh_0_21, sh_0_22, sh_1_0, ih_1_2, sh_1_5, ih_1_6, ih_1_7, sh_1_8, sh_1_9, sh_2_0, ih_2_2, sh_2_5, ih_2_6, ih_2_7, sh_2_8, sh_2_9, lh_2_10, lh_3, hc => by
    refine reach_ok env44_all env44_mix (ok20) (fun id _ => hC id) (on20_5 _ _ _ _ _ _ _ _ _ _ _ _ _ _ _ _ _ _ _ _ _ _ _ _ _ _ _ _ _ _ _ _ _ _ _ _ _ _ _ _ _) ?_
    rw [tOfC_5] at hc
    generalize hy : tOf_5 (n + 1) i33 i34 sh_0_0 sh_0_1 sh_0_2 lh_0_3 lh_0_4 sh_0_5 lh_0_6 lh_0_7 sh_0_8 ih_0_9 ih_0_10 sh_0_11 sh_0_12 lh_0_13 lh_0_14 lh_0_15 sh_0_16 ih_0_17 ih_0_18 sh_0_19 sh_0_20 lh_0_21 sh_0_22 sh_1_0 ih_1_2 sh_1_5 ih_1_6 ih_1_7 sh_1_8 sh_1_9 sh_2_0 ih_2_2 sh_2_5 ih_2_6 ih_2_7 sh_2_8 sh_2_9 lh_2_10 lh_3 = y
    rw [tOf_5] at hy
    try simp only [ExprT.eta]
    repeat' (first | (with_reducible refine OptOk_br (fun hsp => ?_) (fun hsp => ?_) <;> first | (rw [if_pos hsp] at hy; try rw [if_pos hsp] at hc) | (rw [if_neg (ne_t hsp)] at hy; try rw [if_neg (ne_t hsp)] at hc)) | (have hgi := guard_ite hc; with_reducible refine OptOk_chk hgi.1 ?_; replace hc := hgi.2; clear hgi) | with_reducible refine OptOk_chkT ?_)
    all_goals first | (cases hc; done) | (subst hy; first | (change Reach _ _ _ _ _ _; refine at20_5 hC n _ _ _ _ _ _ _ _ _ _ _ _ _ _ _ _ _ _ _ _ _ _ _ _ _ _ _ _ _ _ _ _ _ _ _ _ _ _ _ _ _ ?_ <;> exact hc) | (change Reach _ _ _ _ _ _; refine at20_14 hC n _ _ _ _ _ _ _ _ _ _ _ _ _ _ _ _ _ _ _ _ _ _ _ _ _ _ _ _ _ _ _ _ _ _ _ _ _ _ _ _ _ _ _ _ ?_ <;> exact hc) | (change Reach _ _ _ _ _ _; refine at20_19 hC n _ _ _ _ _ _ _ _ _ _ _ _ _ _ _ _ _ _ _ _ _ _ ?_ <;> exact hc) | rfl)
theorem at20_14 {C : Ctx} (hC : ∀ id, C.ρ0 id = none) : ∀ (n : Nat) (l54 : List (Sem Sh.str)) (i55 : Int) (i56 : Int) (sh_0_0 : Sem Sh.str) (sh_0_1 : Sem Sh.str) (sh_0_2 : Sem Sh.str) (lh_0_3 : List (Sem Sh.str)) (lh_0_4 : List (Sem shCol)) (sh_0_5 : Sem Sh.str) (lh_0_6 : List (Sem Sh.str)) (lh_0_7 : List (Sem (Sh.str.pr Sh.str))) (sh_0_8 : Str) (ih_0_9 : Int) (ih_0_10 : Int) (sh_0_11 : Str) (sh_0_12 : Str) (lh_0_13 : List (Sem Sh.expr)) (lh_0_14 : List (Sem shVal)) (lh_0_15 : List (Sem (Sh.str.pr Sh.expr))) (sh_0_16 : Str) (ih_0_17 : Int) (ih_0_18 : Int) (sh_0_19 : Str) (sh_0_20 : Str) (lh_0_21 : List (Sem Sh.expr)) (sh_0_22 : Sem Sh.str) (sh_1_0 : List UInt8) (ih_1_2 : Int) (sh_1_5 : List UInt8) (ih_1_6 : Int) (ih_1_7 : Int) (sh_1_8 : List UInt8) (sh_1_9 : List UInt8) (sh_2_0 : Sem Sh.str) (ih_2_2 : Sem shInt) (sh_2_5 : Str) (ih_2_6 : Int) (ih_2_7 : Int) (sh_2_8 : Str) (sh_2_9 : Str) (lh_2_10 : List (Sem Sh.expr)) (ih_3_0 : Int) (lh_4 : List (Sem shCol)) (lh_5 : List (Sem shInt)), tOfC_14 n l54 i55 i56 sh_0_0 sh_0_1 sh_0_2 lh_0_3 lh_0_4 sh_0_5 lh_0_6 lh_0_7 sh_0_8 ih_0_9 ih_0_10 sh_0_11 sh_0_12 lh_0_13 lh_0_14 lh_0_15 sh_0_16 ih_0_17 ih_0_18 sh_0_19 sh_0_20 lh_0_21 sh_0_22 sh_1_0 ih_1_2 sh_1_5 ih_1_6 ih_1_7 sh_1_8 sh_1_9 sh_2_0 ih_2_2 sh_2_5 ih_2_6 ih_2_7 sh_2_8 sh_2_9 lh_2_10 ih_3_0 lh_4 lh_5 = true →
    Reach (env44) C 20 (headK Tryz.f20 14) (s20_14 l54 i55 i56 sh_0_0 sh_0_1 sh_0_2 lh_0_3 lh_0_4 sh_0_5 lh_0_6 lh_0_7 sh_0_8 ih_0_9 ih_0_10 sh_0_11 sh_0_12 lh_0_13 lh_0_14 lh_0_15 sh_0_16 ih_0_17 ih_0_18 sh_0_19 sh_0_20 lh_0_21 sh_0_22 sh_1_0 ih_1_2 sh_1_5 ih_1_6 ih_1_7 sh_1_8 sh_1_9 sh_2_0 ih_2_2 sh_2_5 ih_2_6 ih_2_7 sh_2_8 sh_2_9 lh_2_10 ih_3_0 lh_4 lh_5) (fun r h => resOf h [shTable, shInt] r = some ((tOf_14 n l54 i55 i56 sh_0_0 sh_0_1 sh_0_2 lh_0_3 lh_0_4 sh_0_5 lh_0_6 lh_0_7 sh_0_8 ih_0_9 ih_0_10 sh_0_11 sh_0_12 lh_0_13 lh_0_14 lh_0_15 sh_0_16 ih_0_17 ih_0_18 sh_0_19 sh_0_20 lh_0_21 sh_0_22 sh_1_0 ih_1_2 sh_1_5 ih_1_6 ih_1_7 sh_1_8 sh_1_9 sh_2_0 ih_2_2 sh_2_5 ih_2_6 ih_2_7 sh_2_8 sh_2_9 lh_2_10 ih_3_0 lh_4 lh_5).1, (tOf_14 n l54 i55 i56 sh_0_0 sh_0_1 sh_0_2 lh_0_3 lh_0_4 sh_0_5 lh_0_6 lh_0_7 sh_0_8 ih_0_9 ih_0_10 sh_0_11 sh_0_12 lh_0_13 lh_0_14 lh_0_15 sh_0_16 ih_0_17 ih_0_18 sh_0_19 sh_0_20 lh_0_21 sh_0_22 sh_1_0 ih_1_2 sh_1_5 ih_1_6 ih_1_7 sh_1_8 sh_1_9 sh_2_0 ih_2_2 sh_2_5 ih_2_6 ih_2_7 sh_2_8 sh_2_9 lh_2_10 ih_3_0 lh_4 lh_5).2, ()))
  | 0, l54, i55, i56, sh_0_0, sh_0_1, sh_0_2, lh_0_3, lh_0_4, sh_0_5, lh_0_6, lh_0_7, sh_0_8, ih_0_9, ih_0_10, sh_0_11, sh_0_12, lh_0_13, lh_0_14, lh_0_15, sh_0_16, ih_0_17, ih_0_18, sh_0_19, sh_0_20, lh_0_21, sh_0_22, sh_1_0, ih_1_2, sh_1_5, ih_1_6, ih_1_7, sh_1_8, sh_1_9, sh_2_0, ih_2_2, sh_2_5, ih_2_6, ih_2_7, sh_2_8, sh_2_9, lh_2_10, ih_3_0, lh_4, lh_5, hc => by cases hc
  | n + 1, l54, i55, i56, sh_0_0, sh_0_1, sh_0_2, lh_0_3, lh_0_4, sh_0_5, lh_0_6, lh_0_7, sh_0_8, ih_0_9, ih_0_10, sh_0_11, sh_0_12, lh_0_13, lh_0_14, lh_0_15, sh_0_16, ih_0_17, ih_0_18, sh_0_19, sh_0_20, lh_0_21, sh_0_22, sh_1_0, ih_1_2, sh_1_5, ih_1_6, ih_1_7, sh_1_8, sh_1_9, sh_2_0, ih_2_2, sh_2_5, ih_2_6, ih_2_7, sh_2_8, sh_2_9, lh_2_10, ih_3_0, lh_4, lh_5, hc => by
    refine reach_ok env44_all env44_mix (ok20) (fun id _ => hC id) (on20_14 _ _ _ _ _ _ _ _ _ _ _ _ _ _ _ _ _ _ _ _ _ _ _ _ _ _ _ _ _ _ _ _ _ _ _ _ _ _ _ _ _ _ _ _) ?_
    rw [tOfC_14] at hc
    generalize hy : tOf_14 (n + 1) l54 i55 i56 sh_0_0 sh_0_1 sh_0_2 lh_0_3 lh_0_4 sh_0_5 lh_0_6 lh_0_7 sh_0_8 ih_0_9 ih_0_10 sh_0_11 sh_0_12 lh_0_13 lh_0_14 lh_0_15 sh_0_16 ih_0_17 ih_0_18 sh_0_19 sh_0_20 lh_0_21 sh_0_22 sh_1_0 ih_1_2 sh_1_5 ih_1_6 ih_1_7 sh_1_8 sh_1_9 sh_2_0 ih_2_2 sh_2_5 ih_2_6 ih_2_7 sh_2_8 sh_2_9 lh_2_10 ih_3_0 lh_4 lh_5 = y
    rw [tOf_14] at hy
    try simp only [ExprT.eta]
    repeat' (first | (with_reducible refine OptOk_br (fun hsp => ?_) (fun hsp => ?_) <;> first | (rw [if_pos hsp] at hy; try rw [if_pos hsp] at hc) | (rw [if_neg (ne_t hsp)] at hy; try rw [if_neg (ne_t hsp)] at hc)) | (have hgi := guard_ite hc; with_reducible refine OptOk_chk hgi.1 ?_; replace hc := hgi.2; clear hgi) | with_reducible refine OptOk_chkT ?_)
    all_goals first | (cases hc; done) | (subst hy; first | (change Reach _ _ _ _ _ _; refine at20_5 hC n _ _ _ _ _ _ _ _ _ _ _ _ _ _ _ _ _ _ _ _ _ _ _ _ _ _ _ _ _ _ _ _ _ _ _ _ _ _ _ _ _ ?_ <;> exact hc) | (change Reach _ _ _ _ _ _; refine at20_14 hC n _ _ _ _ _ _ _ _ _ _ _ _ _ _ _ _ _ _ _ _ _ _ _ _ _ _ _ _ _ _ _ _ _ _ _ _ _ _ _ _ _ _ _ _ ?_ <;> exact hc) | (change Reach _ _ _ _ _ _; refine at20_19 hC n _ _ _ _ _ _ _ _ _ _ _ _ _ _ _ _ _ _ _ _ _ _ ?_ <;> exact hc) | rfl)
theorem at20_19 {C : Ctx} (hC : ∀ id, C.ρ0 id = none) : ∀ (n : Nat) (l70 : List (Sem (Sh.str.pr Sh.str))) (i71 : Int) (i72 : Int) (sh_0_0 : List UInt8) (ih_0_2 : Int) (sh_0_5 : List UInt8) (ih_0_6 : Int) (ih_0_7 : Int) (sh_0_8 : List UInt8) (sh_0_9 : List UInt8) (sh_1_0 : Sem Sh.str) (ih_1_2 : Sem shInt) (sh_1_5 : Str) (ih_1_6 : Int) (ih_1_7 : Int) (sh_1_8 : Str) (sh_1_9 : Str) (lh_1_10 : List (Sem Sh.expr)) (ih_2_0 : Int) (lh_3 : List (Sem shCol)) (lh_4 : List (Sem shInt)) (lh_5 : List (Sem shFor)), tOfC_19 n l70 i71 i72 sh_0_0 ih_0_2 sh_0_5 ih_0_6 ih_0_7 sh_0_8 sh_0_9 sh_1_0 ih_1_2 sh_1_5 ih_1_6 ih_1_7 sh_1_8 sh_1_9 lh_1_10 ih_2_0 lh_3 lh_4 lh_5 = true →
    Reach (env44) C 20 (headK Tryz.f20 19) (s20_19 l70 i71 i72 sh_0_0 ih_0_2 sh_0_5 ih_0_6 ih_0_7 sh_0_8 sh_0_9 sh_1_0 ih_1_2 sh_1_5 ih_1_6 ih_1_7 sh_1_8 sh_1_9 lh_1_10 ih_2_0 lh_3 lh_4 lh_5) (fun r h => resOf h [shTable, shInt] r = some ((tOf_19 n l70 i71 i72 sh_0_0 ih_0_2 sh_0_5 ih_0_6 ih_0_7 sh_0_8 sh_0_9 sh_1_0 ih_1_2 sh_1_5 ih_1_6 ih_1_7 sh_1_8 sh_1_9 lh_1_10 ih_2_0 lh_3 lh_4 lh_5).1, (tOf_19 n l70 i71 i72 sh_0_0 ih_0_2 sh_0_5 ih_0_6 ih_0_7 sh_0_8 sh_0_9 sh_1_0 ih_1_2 sh_1_5 ih_1_6 ih_1_7 sh_1_8 sh_1_9 lh_1_10 ih_2_0 lh_3 lh_4 lh_5).2, ()))
  | 0, l70, i71, i72, sh_0_0, ih_0_2, sh_0_5, ih_0_6, ih_0_7, sh_0_8, sh_0_9, sh_1_0, ih_1_2, sh_1_5, ih_1_6, ih_1_7, sh_1_8, sh_1_9, lh_1_10, ih_2_0, lh_3, lh_4, lh_5, hc => by cases hc
  | n + 1, l70, i71, i72, sh_0_0, ih_0_2, sh_0_5, ih_0_6, ih_0_7, sh_0_8, sh_0_9, sh_1_0, ih_1_2, sh_1_5, ih_1_6, ih_1_7, sh_1_8, sh_1_9, lh_1_10, ih_2_0, lh_3, lh_4, lh_5, hc => by
    refine reach_ok env44_all env44_mix (ok20) (fun id _ => hC id) (on20_19 _ _ _ _ _ _ _ _ _ _ _ _ _ _ _ _ _ _ _ _ _ _) ?_
    rw [tOfC_19] at hc
    generalize hy : tOf_19 (n + 1) l70 i71 i72 sh_0_0 ih_0_2 sh_0_5 ih_0_6 ih_0_7 sh_0_8 sh_0_9 sh_1_0 ih_1_2 sh_1_5 ih_1_6 ih_1_7 sh_1_8 sh_1_9 lh_1_10 ih_2_0 lh_3 lh_4 lh_5 = y
    rw [tOf_19] at hy
    try simp only [ExprT.eta]
    repeat' (first | (with_reducible refine OptOk_br (fun hsp => ?_) (fun hsp => ?_) <;> first | (rw [if_pos hsp] at hy; try rw [if_pos hsp] at hc) | (rw [if_neg (ne_t hsp)] at hy; try rw [if_neg (ne_t hsp)] at hc)) | (have hgi := guard_ite hc; with_reducible refine OptOk_chk hgi.1 ?_; replace hc := hgi.2; clear hgi) | with_reducible refine OptOk_chkT ?_)
    all_goals first | (cases hc; done) | (subst hy; first | (change Reach _ _ _ _ _ _; refine at20_5 hC n _ _ _ _ _ _ _ _ _ _ _ _ _ _ _ _ _ _ _ _ _ _ _ _ _ _ _ _ _ _ _ _ _ _ _ _ _ _ _ _ _ ?_ <;> exact hc) | (change Reach _ _ _ _ _ _; refine at20_14 hC n _ _ _ _ _ _ _ _ _ _ _ _ _ _ _ _ _ _ _ _ _ _ _ _ _ _ _ _ _ _ _ _ _ _ _ _ _ _ _ _ _ _ _ _ ?_ <;> exact hc) | (change Reach _ _ _ _ _ _; refine at20_19 hC n _ _ _ _ _ _ _ _ _ _ _ _ _ _ _ _ _ _ _ _ _ _ ?_ <;> exact hc) | rfl)
end
def tOf (x0 : Sem shStmt) : Sem shTable × Sem shInt :=
  (if (bif !x0.fst == [99, 114, 101, 97, 116, 101] then true else !stMay x0) = true then (([], [], 0, [], [], ExprT.mk [] (0, 0, []) [] []), 1)
else
  tOf_5 (List.length x0.snd.snd.snd.snd.fst + List.length x0.snd.snd.snd.snd.snd.snd.fst + List.length x0.snd.snd.snd.snd.snd.snd.snd.fst + 10)
    (↑(List.length x0.snd.snd.snd.snd.fst) : Int) 0 x0.fst x0.snd.fst x0.snd.snd.fst x0.snd.snd.snd.fst x0.snd.snd.snd.snd.fst x0.snd.snd.snd.snd.snd.fst
    x0.snd.snd.snd.snd.snd.snd.fst x0.snd.snd.snd.snd.snd.snd.snd.fst (ExprT.op x0.snd.snd.snd.snd.snd.snd.snd.snd.fst)
    (ExprT.v x0.snd.snd.snd.snd.snd.snd.snd.snd.fst).fst (ExprT.v x0.snd.snd.snd.snd.snd.snd.snd.snd.fst).snd.fst
    (ExprT.v x0.snd.snd.snd.snd.snd.snd.snd.snd.fst).snd.snd (ExprT.s x0.snd.snd.snd.snd.snd.snd.snd.snd.fst) (ExprT.l x0.snd.snd.snd.snd.snd.snd.snd.snd.fst)
    x0.snd.snd.snd.snd.snd.snd.snd.snd.snd.fst x0.snd.snd.snd.snd.snd.snd.snd.snd.snd.snd.fst (ExprT.op x0.snd.snd.snd.snd.snd.snd.snd.snd.snd.snd.snd.fst)
    (ExprT.v x0.snd.snd.snd.snd.snd.snd.snd.snd.snd.snd.snd.fst).fst (ExprT.v x0.snd.snd.snd.snd.snd.snd.snd.snd.snd.snd.snd.fst).snd.fst
    (ExprT.v x0.snd.snd.snd.snd.snd.snd.snd.snd.snd.snd.snd.fst).snd.snd (ExprT.s x0.snd.snd.snd.snd.snd.snd.snd.snd.snd.snd.snd.fst)
    (ExprT.l x0.snd.snd.snd.snd.snd.snd.snd.snd.snd.snd.snd.fst) x0.snd.snd.snd.snd.snd.snd.snd.snd.snd.snd.snd.snd [] 0 [] 0 0 [] [] x0.snd.fst 0
    (ExprT.op x0.snd.snd.snd.snd.snd.snd.snd.snd.fst) (ExprT.v x0.snd.snd.snd.snd.snd.snd.snd.snd.fst).fst
    (ExprT.v x0.snd.snd.snd.snd.snd.snd.snd.snd.fst).snd.fst (ExprT.v x0.snd.snd.snd.snd.snd.snd.snd.snd.fst).snd.snd
    (ExprT.s x0.snd.snd.snd.snd.snd.snd.snd.snd.fst) (ExprT.l x0.snd.snd.snd.snd.snd.snd.snd.snd.fst) x0.snd.snd.snd.snd.fst)
def tOfC (x0 : Sem shStmt) : Bool :=
  (if (bif !x0.fst == [99, 114, 101, 97, 116, 101] then true else stMayC x0) = true then
  if (bif !x0.fst == [99, 114, 101, 97, 116, 101] then true else !stMay x0) = true then true
  else
    if decide (List.length x0.snd.snd.snd.snd.fst ≤ 1073741824) = true then
      if cpC 16 x0.snd.snd.snd.snd.snd.snd.snd.snd.fst = true then
        tOfC_5 (List.length x0.snd.snd.snd.snd.fst + List.length x0.snd.snd.snd.snd.snd.snd.fst + List.length x0.snd.snd.snd.snd.snd.snd.snd.fst + 10)
        (↑(List.length x0.snd.snd.snd.snd.fst) : Int) 0 x0.fst x0.snd.fst x0.snd.snd.fst x0.snd.snd.snd.fst x0.snd.snd.snd.snd.fst x0.snd.snd.snd.snd.snd.fst
        x0.snd.snd.snd.snd.snd.snd.fst x0.snd.snd.snd.snd.snd.snd.snd.fst (ExprT.op x0.snd.snd.snd.snd.snd.snd.snd.snd.fst)
        (ExprT.v x0.snd.snd.snd.snd.snd.snd.snd.snd.fst).fst (ExprT.v x0.snd.snd.snd.snd.snd.snd.snd.snd.fst).snd.fst
        (ExprT.v x0.snd.snd.snd.snd.snd.snd.snd.snd.fst).snd.snd (ExprT.s x0.snd.snd.snd.snd.snd.snd.snd.snd.fst)
        (ExprT.l x0.snd.snd.snd.snd.snd.snd.snd.snd.fst) x0.snd.snd.snd.snd.snd.snd.snd.snd.snd.fst x0.snd.snd.snd.snd.snd.snd.snd.snd.snd.snd.fst
        (ExprT.op x0.snd.snd.snd.snd.snd.snd.snd.snd.snd.snd.snd.fst) (ExprT.v x0.snd.snd.snd.snd.snd.snd.snd.snd.snd.snd.snd.fst).fst
        (ExprT.v x0.snd.snd.snd.snd.snd.snd.snd.snd.snd.snd.snd.fst).snd.fst (ExprT.v x0.snd.snd.snd.snd.snd.snd.snd.snd.snd.snd.snd.fst).snd.snd
        (ExprT.s x0.snd.snd.snd.snd.snd.snd.snd.snd.snd.snd.snd.fst) (ExprT.l x0.snd.snd.snd.snd.snd.snd.snd.snd.snd.snd.snd.fst)
        x0.snd.snd.snd.snd.snd.snd.snd.snd.snd.snd.snd.snd [] 0 [] 0 0 [] [] x0.snd.fst 0 (ExprT.op x0.snd.snd.snd.snd.snd.snd.snd.snd.fst)
        (ExprT.v x0.snd.snd.snd.snd.snd.snd.snd.snd.fst).fst (ExprT.v x0.snd.snd.snd.snd.snd.snd.snd.snd.fst).snd.fst
        (ExprT.v x0.snd.snd.snd.snd.snd.snd.snd.snd.fst).snd.snd (ExprT.s x0.snd.snd.snd.snd.snd.snd.snd.snd.fst)
        (ExprT.l x0.snd.snd.snd.snd.snd.snd.snd.snd.fst) x0.snd.snd.snd.snd.fst
      else false
    else false
else false)
def F20 : FSem := plainC [shStmt] [shTable, shInt] (fun x => tOfC x.1) fun x => ((tOf x.1).1, (tOf x.1).2, ())
theorem FOk20 : FOk (env44).P (env44).gl 20 F20 := by
  refine FOk_plainC (ok20) fun x hc C hC => ?_
  unfold tOfC at hc
  refine reach_ok env44_all env44_mix (ok20) (fun id _ => hC id) (go20 x.1) ?_
  generalize hy : tOf x.1 = y
  unfold tOf at hy
  try simp only [ExprT.eta]
  repeat' (first | (with_reducible refine OptOk_br (fun hsp => ?_) (fun hsp => ?_) <;> first | (rw [if_pos hsp] at hy; try rw [if_pos hsp] at hc) | (rw [if_neg (ne_t hsp)] at hy; try rw [if_neg (ne_t hsp)] at hc)) | (have hgi := guard_ite hc; with_reducible refine OptOk_chk hgi.1 ?_; replace hc := hgi.2; clear hgi) | with_reducible refine OptOk_chkT ?_)
  all_goals first | (cases hc; done) | (subst hy; first | (change Reach _ _ _ _ _ _; refine at20_5 hC _ _ _ _ _ _ _ _ _ _ _ _ _ _ _ _ _ _ _ _ _ _ _ _ _ _ _ _ _ _ _ _ _ _ _ _ _ _ _ _ _ _ ?_ <;> exact hc) | (change Reach _ _ _ _ _ _; refine at20_14 hC _ _ _ _ _ _ _ _ _ _ _ _ _ _ _ _ _ _ _ _ _ _ _ _ _ _ _ _ _ _ _ _ _ _ _ _ _ _ _ _ _ _ _ _ _ ?_ <;> exact hc) | (change Reach _ _ _ _ _ _; refine at20_19 hC _ _ _ _ _ _ _ _ _ _ _ _ _ _ _ _ _ _ _ _ _ _ _ ?_ <;> exact hc) | rfl)

noncomputable def env45 : Env := (env44.add 20 F20)
theorem env45_all : EnvAll env45 := (EnvAll.addS env44_all (SameE.refl env44) FOk20)
theorem env45_mix : env45.P.follows .mixedOrders = true := (mix_add env44_mix _ _)
end Cad

namespace Cad
open Go Go.Proofs
set_option maxHeartbeats 4000000

abbrev kp9a : Nat → Keep := fun j => { }
theorem ok9a : fnChk (env45).P 9 Tryz.f9 0 := by refine ⟨?_, ?_, ?_, ?_⟩ <;> kernel_rfl
theorem go9a : run (env45) 0 kp9a (Func.results Tryz.f9).toList 400 (bodyOf Tryz.f9) (initSt (Func.ntmps Tryz.f9) [] []) =
  Tr.chk true (Tr.chk true (Tr.ok (Leaf.ret (AV.bool true) []))) := by kernel_rfl
def awk6 : Sem Sh.bool :=
  (true)
def awk6C : Bool :=
  (if true = true then if true = true then true else false else false)
def F9a : FSem := plainC [] [Sh.bool] (fun x => awk6C) fun x => (awk6, ())
theorem FOk9a : FOk (env45).P (env45).gl 9 F9a := by
  refine FOk_plainC (ok9a) fun x hc C hC => ?_
  unfold awk6C at hc
  refine reach_ok env45_all env45_mix (ok9a) (fun id _ => hC id) (go9a) ?_
  generalize hy : awk6 = y
  unfold awk6 at hy
  try simp only [ExprT.eta]
  repeat' (first | (with_reducible refine OptOk_br (fun hsp => ?_) (fun hsp => ?_) <;> first | (rw [if_pos hsp] at hy; try rw [if_pos hsp] at hc) | (rw [if_neg (ne_t hsp)] at hy; try rw [if_neg (ne_t hsp)] at hc)) | (have hgi := guard_ite hc; with_reducible refine OptOk_chk hgi.1 ?_; replace hc := hgi.2; clear hgi) | with_reducible refine OptOk_chkT ?_)
  all_goals first | (cases hc; done) | (subst hy; first | rfl)

noncomputable def env46 : Env := (env45.add 9 F9a)
theorem env46_all : EnvAll env46 := (EnvAll.addS env45_all (SameE.refl env45) FOk9a)
theorem env46_mix : env46.P.follows .mixedOrders = true := (mix_add env45_mix _ _)
end Cad

