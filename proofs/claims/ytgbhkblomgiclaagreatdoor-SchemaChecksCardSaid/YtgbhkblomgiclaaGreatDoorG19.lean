/- Both laws' statements and cards, given the examples. -/
import Derived.Test.YtgbhkblomgiclaaGreatDoorG18
import Derived.Deep.DeepWitnessRowRef
namespace Go.Proofs.YtgbhkblomgiclaaGreatDoor
open Go.ChangeShapes Go.WideShapes Go.ChangeAt Go.RowKit

def zE : List Value := [.string ⟨#[]⟩, .int .i64 0, .int .i64 0, .string ⟨#[]⟩, .string ⟨#[]⟩, .slice none 0 0]
def zT : Value := .agg (([.string ⟨#[]⟩, .slice none 0 0, .int .i64 0, .slice none 0 0, .slice none 0 0] : List Value) ++ zE).toArray
def args3 : Array Value := #[zT, .slice none 0 0, .agg zE.toArray]
def args4 : Array Value := #[zT, .slice none 0 0, .int .u8 0]
def dE {H : Type} : DataW H := .agg [.lit (.string []), .agg [.lit (.int .i64 0), .lit (.int .i64 0), .lit (.string [])], .lit (.string []), .nil]
def dT {H : Type} : DataW H := .agg [.lit (.string []), .nil, .lit (.int .i64 0), .nil, .nil, dE]

theorem reads3 (os : Os) {H : Type} (enc : TypeId × Value → H) : ∃ places, DataW.whole enc Tryz.prog ((laidWorld os).forCall (fun _ _ => 0) ⟨#[], args3, []⟩).memory Tryz.f3.params.toList Rows.schemaChecksSpec.vars false args3.toList 8 = some ([dT, .nil, dE], [], places) :=
  ⟨[], by kernel_rfl⟩

set_option maxRecDepth 100000 in
theorem lifted3 (hg : Cad.FOk Cad.env33.P Cad.env33.gl 9 Cad.F9) (os : Os) (started : os.Started) (H : Type) (enc : TypeId × Value → H) (F : Stop.Interp) :
    ReturnsInHanded {} Tryz.checked os 3 .any ((OpenSpec.ofChange Rows.schemaChecksSpec).preRow enc Tryz.prog Tryz.f3 Rows.schemaChecksRow.domain false Rows.schemaChecksRow.laid) (((OpenSpec.ofChange Rows.schemaChecksSpec).at F).post enc Tryz.prog Tryz.f3 false true false false) := by
  obtain ⟨places, hx⟩ := reads3 os enc
  refine returnsInHanded_of_row (C := Tryz.checked) (s := OpenSpec.ofChange Rows.schemaChecksSpec) own0 started (by kernel_rfl) Tryz.func3
    (witness_row_atRef (enc := enc) (C := Tryz.checked) false (laidWorld os) args3 rfl (by kernel_rfl) (by kernel_rfl) (by kernel_rfl)
      (OpenSpec.preRow_of_cond 8 hx (by kernel_rfl) (fun k hk => by cases hk) (by kernel_rfl) (laid_met os _))) ?_
  intro W base args ds gs before hval hW _ _ _ hL _ _
  exact Cad.contract3 hg hval hW (Cad.glOk_of (Cad.types_cells (Cad.laidMet_of_H (by kernel_rfl) hL)))

theorem said3 (hg : Cad.FOk Cad.env33.P Cad.env33.gl 9 Cad.F9) : Rows.SchemaChecksSaid :=
  OpenClaim.holds_of_cond 3 Tryz.f3 rfl rfl rfl rfl rfl rfl rfl ⟨rfl, rfl, rfl, rfl, rfl⟩ rfl rfl rfl rfl rfl (by kernel_rfl) Tryz.func3 (by kernel_rfl)
    (of_decide_eq_true (by kernel_rfl)) (by unfold Func.isWrapper; first | (rw [if_pos (by decide +kernel)]; kernel_rfl) | (rw [if_neg (by decide +kernel)]; exact ⟨rfl, rfl⟩))
    (fun os started H enc _ F => by rw [OpenClaim.pre_eq_preRow]; exact lifted3 hg os started H enc F)

theorem plain3 (f : FuncId) (fn : Func) (hf : Tryz.pinned.checked.prog.funcNamed "caddis/caddislaw06.SchemaChecks" = some f) (hfn : Tryz.pinned.checked.prog.funcs[f]? = some fn) :
    false = Tryz.pinned.checked.prog.looks [] ∧ ∀ (j : Nat) t, fn.params[j]? = some t → Tryz.pinned.checked.prog.wantsStandIn t = false := by
  obtain rfl : f = 3 := Option.some.inj ((show Tryz.prog.funcNamed "caddis/caddislaw06.SchemaChecks" = some 3 by kernel_rfl).symm.trans hf) |>.symm
  obtain rfl : fn = Tryz.f3 := (Option.some.inj (Tryz.func3.symm.trans hfn)).symm
  refine ⟨by kernel_rfl, fun j t ht => ?_⟩
  have hpar : Tryz.f3.params = #[31, 32, 29] := by kernel_rfl
  rw [hpar] at ht
  have hm : t = 31 ∨ t = 32 ∨ t = 29 := by simpa using Array.mem_of_getElem? ht
  rcases hm with rfl | rfl | rfl
  · exact (show Tryz.prog.wantsStandIn 31 = false by kernel_rfl)
  · exact (show Tryz.prog.wantsStandIn 32 = false by kernel_rfl)
  · exact (show Tryz.prog.wantsStandIn 29 = false by kernel_rfl)

theorem card3 (hg : Cad.FOk Cad.env33.P Cad.env33.gl 9 Cad.F9) : Rows.SchemaChecksCardSaid :=
  Claim7.holds_tied_plain_at .later [] _ _ _ _ (said3 hg) (fun _ h => by cases h) (by kernel_rfl) (fun _ h => by cases h) schemaChecks_row_tie rfl ⟨rfl, rfl⟩ (by kernel_rfl) rfl plain3 (by kernel_rfl)
end Go.Proofs.YtgbhkblomgiclaaGreatDoor

