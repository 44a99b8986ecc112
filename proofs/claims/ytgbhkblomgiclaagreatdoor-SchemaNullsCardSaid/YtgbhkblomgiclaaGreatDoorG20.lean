/- The card of the second law, given the examples. SchemaChecks and SchemaNulls: each answers true at whatever arguments, and leaves them as they were. Conditions: none but those of the given statements. -/
import Derived.Test.YtgbhkblomgiclaaGreatDoorG19
import Derived.Test.YtgbhkblomgiclaaGreatDoorG16
namespace Go.Proofs.YtgbhkblomgiclaaGreatDoor
open Go.ChangeShapes Go.WideShapes Go.ChangeAt Go.RowKit

theorem laid_same : Rows.schemaNullsRow.laid = Rows.schemaChecksRow.laid := rfl
theorem laid_met4 (os : Os) (args : Array Value) : laidMet Tryz.prog Rows.schemaNullsRow.laid ((laidWorld os).forCall (fun _ _ => 0) ⟨#[], args, []⟩).memory := laid_same ▸ laid_met os args

theorem reads4 (os : Os) {H : Type} (enc : TypeId × Value → H) : ∃ places, DataW.whole enc Tryz.prog ((laidWorld os).forCall (fun _ _ => 0) ⟨#[], args4, []⟩).memory Tryz.f4.params.toList Rows.schemaNullsSpec.vars false args4.toList 8 = some ([dT, .nil, .lit (.int .u8 0)], [], places) :=
  ⟨[], by kernel_rfl⟩

set_option maxRecDepth 100000 in
theorem lifted4 (hg : Cad.FOk Cad.env33.P Cad.env33.gl 9 Cad.F9) (os : Os) (started : os.Started) (H : Type) (enc : TypeId × Value → H) (F : Stop.Interp) :
    ReturnsInHanded {} Tryz.checked os 4 .any ((OpenSpec.ofChange Rows.schemaNullsSpec).preRow enc Tryz.prog Tryz.f4 Rows.schemaNullsRow.domain false Rows.schemaNullsRow.laid) (((OpenSpec.ofChange Rows.schemaNullsSpec).at F).post enc Tryz.prog Tryz.f4 false true false false) := by
  obtain ⟨places, hx⟩ := reads4 os enc
  refine returnsInHanded_of_row (C := Tryz.checked) (s := OpenSpec.ofChange Rows.schemaNullsSpec) own0 started (by kernel_rfl) Tryz.func4
    (witness_row_atRef (enc := enc) (C := Tryz.checked) false (laidWorld os) args4 rfl (by kernel_rfl) (by kernel_rfl) (by kernel_rfl)
      (OpenSpec.preRow_of_cond 8 hx (by kernel_rfl) (fun k hk => by cases hk) (by kernel_rfl) (laid_met4 os _))) ?_
  intro W base args ds gs before hval hW _ _ _ hL _ _
  exact Cad.contract4 hg hval hW (Cad.glOk_of (Cad.types_cells (laid_same ▸ Cad.laidMet_of_H (by kernel_rfl) hL)))

theorem said4 (hg : Cad.FOk Cad.env33.P Cad.env33.gl 9 Cad.F9) : Rows.SchemaNullsSaid :=
  OpenClaim.holds_of_cond 4 Tryz.f4 rfl rfl rfl rfl rfl rfl rfl ⟨rfl, rfl, rfl, rfl, rfl⟩ rfl rfl rfl rfl rfl (by kernel_rfl) Tryz.func4 (by kernel_rfl)
    (of_decide_eq_true (by kernel_rfl)) (by unfold Func.isWrapper; first | (rw [if_pos (by decide +kernel)]; kernel_rfl) | (rw [if_neg (by decide +kernel)]; exact ⟨rfl, rfl⟩))
    (fun os started H enc _ F => by rw [OpenClaim.pre_eq_preRow]; exact lifted4 hg os started H enc F)

theorem plain4 (f : FuncId) (fn : Func) (hf : Tryz.pinned.checked.prog.funcNamed "caddis/caddislaw06.SchemaNulls" = some f) (hfn : Tryz.pinned.checked.prog.funcs[f]? = some fn) :
    false = Tryz.pinned.checked.prog.looks [] ∧ ∀ (j : Nat) t, fn.params[j]? = some t → Tryz.pinned.checked.prog.wantsStandIn t = false := by
  obtain rfl : f = 4 := Option.some.inj ((show Tryz.prog.funcNamed "caddis/caddislaw06.SchemaNulls" = some 4 by kernel_rfl).symm.trans hf) |>.symm
  obtain rfl : fn = Tryz.f4 := (Option.some.inj (Tryz.func4.symm.trans hfn)).symm
  refine ⟨by kernel_rfl, fun j t ht => ?_⟩
  have hpar : Tryz.f4.params = #[31, 32, 5] := by kernel_rfl
  rw [hpar] at ht
  have hm : t = 31 ∨ t = 32 ∨ t = 5 := by simpa using Array.mem_of_getElem? ht
  rcases hm with rfl | rfl | rfl
  · exact (show Tryz.prog.wantsStandIn 31 = false by kernel_rfl)
  · exact (show Tryz.prog.wantsStandIn 32 = false by kernel_rfl)
  · exact (show Tryz.prog.wantsStandIn 5 = false by kernel_rfl)

theorem card4 (hg : Cad.FOk Cad.env33.P Cad.env33.gl 9 Cad.F9) : Rows.SchemaNullsCardSaid :=
  Claim7.holds_tied_plain_at .later [] _ _ _ _ (said4 hg) (fun _ h => by cases h) (by kernel_rfl) (fun _ h => by cases h) schemaNulls_row_tie rfl ⟨rfl, rfl⟩ (by kernel_rfl) rfl plain4 (by kernel_rfl)
end Go.Proofs.YtgbhkblomgiclaaGreatDoor

namespace Go.Proofs.YtgbhkblomgiclaaGreatDoor

theorem schemaChecks_holds : Rows.SchemaChecksCardSaid := card3 Cad.FOk9
theorem schemaNulls_holds : Rows.SchemaNullsCardSaid := card4 Cad.FOk9

end Go.Proofs.YtgbhkblomgiclaaGreatDoor

