/- The law's statement and card. -/
import Derived.Test.YtfgnbipebgibeaaGreatDoorG20
import Derived.Test.YtfgnbipebgibeaaGreatDoorG21
import Derived.Test.YtfgnbipebgibeaaGreatDoorG22
import Derived.Deep.DeepWitnessRowRef
namespace Go.Proofs.YtfgnbipebgibeaaGreatDoor
open Go.ChangeShapes Go.WideShapes Go.ChangeAt Go.RowKit

def zE:List Value:=[.string ⟨#[]⟩,.int .i64 0,.int .i64 0,.string ⟨#[]⟩,.string ⟨#[]⟩,.slice none 0 0]
def zS:Value:=.agg (([.string ⟨#[]⟩,.string ⟨#[]⟩,.string ⟨#[]⟩,.slice none 0 0,.slice none 0 0,.string ⟨#[]⟩,.slice none 0 0,.slice none 0 0]:List Value)++zE++([.slice none 0 0,.slice none 0 0]:List Value)++zE++([.string ⟨#[]⟩]:List Value)).toArray
def args2:Array Value := #[.slice none 0 0,zS,zS]
def dE {H:Type}:DataW H:=.agg [.lit (.string []),.agg [.lit (.int .i64 0),.lit (.int .i64 0),.lit (.string [])],.lit (.string []),.nil]
def dS {H:Type}:DataW H:=.agg [.lit (.string []),.lit (.string []),.lit (.string []),.nil,.nil,.lit (.string []),.nil,.nil,dE,.nil,.nil,dE,.lit (.string [])]

theorem reads5 (os:Os) {H:Type} (enc:TypeId×Value→H):∃ places,DataW.whole enc Tryz.prog ((laidWorld os).forCall (fun _ _=>0) ⟨#[],args2,[]⟩).memory Tryz.f5.params.toList Rows.planOfsSpec.vars false args2.toList 8=some ([.nil,dS,dS],[],places):=
 ⟨[],by kernel_rfl⟩

theorem m0:("caddis/stmt.types",Rows.laid_caddis_stmt_types)∈Rows.planOfsRow.laid:=by simp [Rows.planOfsRow]
theorem m5:("internal/strconv.uint64pow10",Rows.laid_internal_strconv_uint64pow10)∈Rows.planOfsRow.laid:=by simp [Rows.planOfsRow]
set_option maxRecDepth 100000 in
theorem con5 (hF:Cad.nl Tryz.prog Cad.BC 5 Cad.Yv) {H:Type} {enc:TypeId×Value→H} {W:World} {base:Nat} {args:Array Value} {ds gs:List (DataW H)} {before:List MemPlace}
  (hval:∀ (j:Nat) t v,Tryz.f5.params[j]?=some t→args[j]?=some v→Value.okWide Tryz.prog W .any base t v)
  (hW:DataW.Whole enc Tryz.prog Tryz.f5.params.toList Rows.planOfsSpec.vars false W args.toList ds gs before) (hgl:Cad.Bo Cad.BC W Cad.U0):
  Calls Tryz.prog 5 args W fun e W'=>∃ v,e=.returned v∧Rows.planOfsSpec.post enc Tryz.prog Tryz.f5 false true false false W args v W':=
 Cad.Ii (s:=Rows.planOfsSpec) hF (by kernel_rfl) (by kernel_rfl) rfl (fun _ _ _ _=>rfl) (fun _ _ _ _ _ _ h h1 h2=>Cad.Sv h h1 h2) hval hW hgl

set_option maxRecDepth 100000 in
theorem lifted5 (hF:Cad.nl Tryz.prog Cad.BC 5 Cad.Yv) (os:Os) (started:os.Started) (H:Type) (enc:TypeId×Value→H) (F:Stop.Interp):
  ReturnsInHanded {} Tryz.checked os 5 .any ((OpenSpec.ofChange Rows.planOfsSpec).preRow enc Tryz.prog Tryz.f5 Rows.planOfsRow.domain false Rows.planOfsRow.laid) (((OpenSpec.ofChange Rows.planOfsSpec).at F).post enc Tryz.prog Tryz.f5 false true false false):=by
 obtain ⟨places,hx⟩:=reads5 os enc
 refine returnsInHanded_of_row (C:=Tryz.checked) (s:=OpenSpec.ofChange Rows.planOfsSpec) own0 started (by kernel_rfl) Tryz.func5
  (witness_row_atRef (enc:=enc) (C:=Tryz.checked) false (laidWorld os) args2 rfl (by kernel_rfl) (by kernel_rfl) (by kernel_rfl)
   (OpenSpec.preRow_of_cond 8 hx (by kernel_rfl) (fun k hk=>by cases hk) (by kernel_rfl) (laid_met os _))) ?_
 intro W base args ds gs before hval hW _ _ _ hL hS _
 exact con5 hF hval hW (Cad.R9 (Cad.Eh (by kernel_rfl) hL) hS m0 m5)

theorem said5 (hF:Cad.nl Tryz.prog Cad.BC 5 Cad.Yv):Rows.PlanOfsSaid:=
 OpenClaim.holds_of_cond 5 Tryz.f5 rfl rfl rfl rfl rfl rfl rfl ⟨rfl,rfl,rfl,rfl,rfl⟩ rfl rfl rfl rfl rfl (by kernel_rfl) Tryz.func5 facts5
  (of_decide_eq_true (by kernel_rfl)) (by unfold Func.isWrapper; first | (rw [if_pos (by decide +kernel)]; kernel_rfl) | (rw [if_neg (by decide +kernel)]; exact ⟨rfl,rfl⟩))
  (fun os started H enc _ F=>by rw [OpenClaim.pre_eq_preRow]; exact lifted5 hF os started H enc F)

theorem plain5 (f:FuncId) (fn:Func) (hf:Tryz.pinned.checked.prog.funcNamed "caddis/caddislaw10.PlanOfs" = some f) (hfn:Tryz.pinned.checked.prog.funcs[f]?=some fn):
  false=Tryz.pinned.checked.prog.looks []∧∀ (j:Nat) t,fn.params[j]?=some t→Tryz.pinned.checked.prog.wantsStandIn t=false:=by
 obtain rfl:f=5:=Option.some.inj ((show Tryz.prog.funcNamed "caddis/caddislaw10.PlanOfs" = some 5 by kernel_rfl).symm.trans hf) |>.symm
 obtain rfl:fn=Tryz.f5:=(Option.some.inj (Tryz.func5.symm.trans hfn)).symm
 refine ⟨by kernel_rfl,fun j t ht=>?_⟩
 have hpar:Tryz.f5.params = #[22,34,34]:=by kernel_rfl
 rw [hpar] at ht
 have hm:t=22∨t=34:=by simpa using Array.mem_of_getElem? ht
 rcases hm with rfl | rfl
 ·exact (show Tryz.prog.wantsStandIn 22=false by kernel_rfl)
 ·exact (show Tryz.prog.wantsStandIn 34=false by kernel_rfl)

theorem card5 (hF:Cad.nl Tryz.prog Cad.BC 5 Cad.Yv):Rows.PlanOfsCardSaid:=
 Claim7.holds_tied_plain_at .later [] _ _ _ _ (said5 hF) (fun _ h=>by cases h) (by kernel_rfl) (fun _ h=>by cases h) planOfs_row_tie rfl ⟨rfl,rfl⟩ (by kernel_rfl) rfl plain5 (by kernel_rfl)
end Go.Proofs.YtfgnbipebgibeaaGreatDoor
