/- The law's statement and card. -/
import Derived.Test.YtfgnbipebgibeaaGreatDoorG19
import Derived.Test.YtfgnbipebgibeaaGreatDoorG20
import Derived.Test.YtfgnbipebgibeaaGreatDoorG21
import Derived.Deep.DeepWitnessRowRef
namespace Go.Proofs.YtfgnbipebgibeaaGreatDoor
open Go.ChangeShapes Go.WideShapes Go.ChangeAt Go.RowKit

def zE:List Value:=[.string ⟨#[]⟩,.int .i64 0,.int .i64 0,.string ⟨#[]⟩,.string ⟨#[]⟩,.slice none 0 0]
def zS:Value:=.agg (([.string ⟨#[]⟩,.string ⟨#[]⟩,.string ⟨#[]⟩,.slice none 0 0,.slice none 0 0,.string ⟨#[]⟩,.slice none 0 0,.slice none 0 0]:List Value)++zE++([.slice none 0 0,.slice none 0 0]:List Value)++zE++([.string ⟨#[]⟩]:List Value)).toArray
def args2:Array Value := #[.slice none 0 0,zS]
def dE {H:Type}:DataW H:=.agg [.lit (.string []),.agg [.lit (.int .i64 0),.lit (.int .i64 0),.lit (.string [])],.lit (.string []),.nil]
def dS {H:Type}:DataW H:=.agg [.lit (.string []),.lit (.string []),.lit (.string []),.nil,.nil,.lit (.string []),.nil,.nil,dE,.nil,.nil,dE,.lit (.string [])]

theorem reads3 (os:Os) {H:Type} (enc:TypeId×Value→H):∃ places,DataW.whole enc Tryz.prog ((laidWorld os).forCall (fun _ _=>0) ⟨#[],args2,[]⟩).memory Tryz.f3.params.toList Rows.planRowsSpec.vars false args2.toList 8=some ([.nil,dS],[],places):=
 ⟨[],by kernel_rfl⟩

theorem m0:("caddis/stmt.types",Rows.laid_caddis_stmt_types)∈Rows.planRowsRow.laid:=by simp [Rows.planRowsRow]
theorem m5:("internal/strconv.uint64pow10",Rows.laid_internal_strconv_uint64pow10)∈Rows.planRowsRow.laid:=by simp [Rows.planRowsRow]
set_option maxRecDepth 100000 in
theorem con3 (hF:Cad.FOk Tryz.prog Cad.zrA 3 Cad.F3p) {H:Type} {enc:TypeId×Value→H} {W:World} {base:Nat} {args:Array Value} {ds gs:List (DataW H)} {before:List MemPlace}
  (hval:∀ (j:Nat) t v,Tryz.f3.params[j]?=some t→args[j]?=some v→Value.okWide Tryz.prog W .any base t v)
  (hW:DataW.Whole enc Tryz.prog Tryz.f3.params.toList Rows.planRowsSpec.vars false W args.toList ds gs before) (hgl:Cad.zr0 Cad.zrA W Cad.U0):
  Calls Tryz.prog 3 args W fun e W'=>∃ v,e=.returned v∧Rows.planRowsSpec.post enc Tryz.prog Tryz.f3 false true false false W args v W':=
 Cad.zyh (s:=Rows.planRowsSpec) hF (by kernel_rfl) (by kernel_rfl) rfl (fun _ _ _=>rfl) (fun _ _ _ h=>Cad.zGH h) hval hW hgl

set_option maxRecDepth 100000 in
theorem lifted3 (hF:Cad.FOk Tryz.prog Cad.zrA 3 Cad.F3p) (os:Os) (started:os.Started) (H:Type) (enc:TypeId×Value→H) (F:Stop.Interp):
  ReturnsInHanded {} Tryz.checked os 3 .any ((OpenSpec.ofChange Rows.planRowsSpec).preRow enc Tryz.prog Tryz.f3 Rows.planRowsRow.domain false Rows.planRowsRow.laid) (((OpenSpec.ofChange Rows.planRowsSpec).at F).post enc Tryz.prog Tryz.f3 false true false false):=by
 obtain ⟨places,hx⟩:=reads3 os enc
 refine returnsInHanded_of_row (C:=Tryz.checked) (s:=OpenSpec.ofChange Rows.planRowsSpec) own0 started (by kernel_rfl) Tryz.func3
  (witness_row_atRef (enc:=enc) (C:=Tryz.checked) false (laidWorld os) args2 rfl (by kernel_rfl) (by kernel_rfl) (by kernel_rfl)
   (OpenSpec.preRow_of_cond 8 hx (by kernel_rfl) (fun k hk=>by cases hk) (by kernel_rfl) (laid_met os _))) ?_
 intro W base args ds gs before hval hW _ _ _ hL hS _
 exact con3 hF hval hW (Cad.zI3 (Cad.zuy (by kernel_rfl) hL) hS m0 m5)

theorem said3 (hF:Cad.FOk Tryz.prog Cad.zrA 3 Cad.F3p):Rows.PlanRowsSaid:=
 OpenClaim.holds_of_cond 3 Tryz.f3 rfl rfl rfl rfl rfl rfl rfl ⟨rfl,rfl,rfl,rfl,rfl⟩ rfl rfl rfl rfl rfl (by kernel_rfl) Tryz.func3 facts3
  (of_decide_eq_true (by kernel_rfl)) (by unfold Func.isWrapper; first | (rw [if_pos (by decide +kernel)]; kernel_rfl) | (rw [if_neg (by decide +kernel)]; exact ⟨rfl,rfl⟩))
  (fun os started H enc _ F=>by rw [OpenClaim.pre_eq_preRow]; exact lifted3 hF os started H enc F)

theorem plain3 (f:FuncId) (fn:Func) (hf:Tryz.pinned.checked.prog.funcNamed "caddis/caddislaw10.PlanRows" = some f) (hfn:Tryz.pinned.checked.prog.funcs[f]?=some fn):
  false=Tryz.pinned.checked.prog.looks []∧∀ (j:Nat) t,fn.params[j]?=some t→Tryz.pinned.checked.prog.wantsStandIn t=false:=by
 obtain rfl:f=3:=Option.some.inj ((show Tryz.prog.funcNamed "caddis/caddislaw10.PlanRows" = some 3 by kernel_rfl).symm.trans hf) |>.symm
 obtain rfl:fn=Tryz.f3:=(Option.some.inj (Tryz.func3.symm.trans hfn)).symm
 refine ⟨by kernel_rfl,fun j t ht=>?_⟩
 have hpar:Tryz.f3.params = #[22,34]:=by kernel_rfl
 rw [hpar] at ht
 have hm:t=22∨t=34:=by simpa using Array.mem_of_getElem? ht
 rcases hm with rfl | rfl
 ·exact (show Tryz.prog.wantsStandIn 22=false by kernel_rfl)
 ·exact (show Tryz.prog.wantsStandIn 34=false by kernel_rfl)

theorem card3 (hF:Cad.FOk Tryz.prog Cad.zrA 3 Cad.F3p):Rows.PlanRowsCardSaid:=
 Claim7.holds_tied_plain_at .later [] _ _ _ _ (said3 hF) (fun _ h=>by cases h) (by kernel_rfl) (fun _ h=>by cases h) planRows_row_tie rfl ⟨rfl,rfl⟩ (by kernel_rfl) rfl plain3 (by kernel_rfl)
end Go.Proofs.YtfgnbipebgibeaaGreatDoor
