/- The law's statement and card. -/
import Derived.Test.YtkmcdhahdadkpaaGreatDoorK24
import Derived.Test.YtkmcdhahdadkpaaGreatDoorK23
import Derived.Test.YtkmcdhahdadkpaaGreatDoorK25
import Derived.Deep.DeepWitnessRowRef
namespace Go.Proofs.YtkmcdhahdadkpaaGreatDoor
open Go.ChangeShapes Go.WideShapes Go.ChangeAt Go.RowKit

theorem fa6:(Rows.unitKeysRow.inPlace==Tryz.pinned.checked.prog.inPlace 6)=true:=by kernel_rfl
theorem fb6:(Rows.unitKeysRow.unfollowed==Tryz.pinned.checked.prog.unfollowed 6)=true:=by kernel_rfl
theorem fc6:(Rows.unitKeysRow.recurses==Tryz.pinned.checked.prog.recurses 6)=true:=by kernel_rfl
theorem fd6:(Rows.unitKeysRow.named==Tryz.pinned.checked.prog.varsNamed 6)=true:=by kernel_rfl
theorem facts6:joinedFacts Tryz.pinned.checked.prog 6 Tryz.f6 (OpenSpec.ofChange Rows.unitKeysSpec).bare Rows.unitKeysRow=true:=by
 unfold joinedFacts
 rw [fa6,fb6,fc6,fd6]
 kernel_rfl

def args6:Array Value := #[.slice none 0 0,.agg ([.string ⟨#[]⟩,.string ⟨#[]⟩,.string ⟨#[]⟩,.slice none 0 0,.slice none 0 0,.string ⟨#[]⟩,.slice none 0 0,.slice none 0 0,.string ⟨#[]⟩,.int .i64 0,.int .i64 0,.string ⟨#[]⟩,.string ⟨#[]⟩,.slice none 0 0,.slice none 0 0,.slice none 0 0,.string ⟨#[]⟩,.int .i64 0,.int .i64 0,.string ⟨#[]⟩,.string ⟨#[]⟩,.slice none 0 0,.string ⟨#[]⟩]:List Value).toArray]
def dE {H:Type}:DataW H:=.agg [.lit (.string []),.agg [.lit (.int .i64 0),.lit (.int .i64 0),.lit (.string [])],.lit (.string []),.nil]
def dS {H:Type}:DataW H:=.agg [.lit (.string []),.lit (.string []),.lit (.string []),.nil,.nil,.lit (.string []),.nil,.nil,dE,.nil,.nil,dE,.lit (.string [])]
theorem reads6 (os:Os) {H:Type} (enc:TypeId×Value→H):∃ places,DataW.whole enc Tryz.prog ((laidWorld os).forCall (fun _ _=>0) ⟨#[],args6,[]⟩).memory Tryz.f6.params.toList Rows.unitKeysSpec.vars false args6.toList 8=some ([.nil,dS],[],places):=
 ⟨[],by kernel_rfl⟩

theorem m0:("caddis/stmt.types",Rows.laid_caddis_stmt_types)∈Rows.unitKeysRow.laid:=by simp [Rows.unitKeysRow]
theorem m5:("internal/strconv.uint64pow10",Rows.laid_internal_strconv_uint64pow10)∈Rows.unitKeysRow.laid:=by simp [Rows.unitKeysRow]
set_option maxRecDepth 100000 in
theorem pars6:Cad.Kj [22,34] ([(.sl Cad.zh),Cad.zl]:List Cad.Sh):=.cons (Cad.Ah.slice (e:=52) (n:=9) (by kernel_rfl) (by kernel_rfl) (by kernel_rfl) (of_decide_eq_true (by kernel_rfl))) <| .cons (Cad.Ah.struct (n:=9) (by kernel_rfl) rfl (by kernel_rfl) (by kernel_rfl) (of_decide_eq_true (by kernel_rfl))) <| .nil
set_option maxRecDepth 100000 in
theorem con6 {H:Type} {enc:TypeId×Value→H} {W:World} {base:Nat} {args:Array Value} {ds gs:List (DataW H)} {before:List MemPlace}
  (hval:∀ (j:Nat) t v,Tryz.f6.params[j]?=some t→args[j]?=some v→Value.okWide Tryz.prog W .any base t v)
  (hW:DataW.Whole enc Tryz.prog Tryz.f6.params.toList Rows.unitKeysSpec.vars false W args.toList ds gs before) (hgl:Cad.C4 Cad.OG W Cad.U0):
  Calls Tryz.prog 6 args W fun e W'=>∃ v,e=.returned v∧Rows.unitKeysSpec.post enc Tryz.prog Tryz.f6 false true false false W args v W':=
 Cad.Og (s:=Rows.unitKeysSpec) Cad.zf0 (by kernel_rfl) pars6 (by kernel_rfl) rfl (fun H ds hl=>by
  match ds,hl with
  | [_,_],_=>rfl) (fun x hx=>Cad.OO x hx) hval hW hgl

set_option maxRecDepth 100000 in
theorem lifted6 (os:Os) (started:os.Started) (H:Type) (enc:TypeId×Value→H) (F:Stop.Interp):
  ReturnsInHanded {} Tryz.checked os 6 .any ((OpenSpec.ofChange Rows.unitKeysSpec).preRow enc Tryz.prog Tryz.f6 Rows.unitKeysRow.domain false Rows.unitKeysRow.laid) (((OpenSpec.ofChange Rows.unitKeysSpec).at F).post enc Tryz.prog Tryz.f6 false true false false):=by
 obtain ⟨places,hx⟩:=reads6 os enc
 refine returnsInHanded_of_row (C:=Tryz.checked) (s:=OpenSpec.ofChange Rows.unitKeysSpec) own0 started (by kernel_rfl) Tryz.func6
  (witness_row_atRef (enc:=enc) (C:=Tryz.checked) false (laidWorld os) args6 rfl (by kernel_rfl) (by kernel_rfl) (by kernel_rfl)
   (OpenSpec.preRow_of_cond 8 hx (by kernel_rfl) (fun k hk=>by cases hk) (by kernel_rfl) (laid_met os _))) ?_
 intro W base args ds gs before hval hW _ _ _ hL hS _
 exact con6 hval hW (Cad.V4 (Cad.F1 (by kernel_rfl) hL) hS m0 m5)

theorem said6:Rows.UnitKeysSaid:=
 OpenClaim.holds_of_cond 6 Tryz.f6 rfl rfl rfl rfl rfl rfl rfl ⟨rfl,rfl,rfl,rfl,rfl⟩ rfl rfl rfl rfl rfl (by kernel_rfl) Tryz.func6 facts6
  (of_decide_eq_true (by kernel_rfl)) (by unfold Func.isWrapper; first | (rw [if_pos (by decide +kernel)]; kernel_rfl) | (rw [if_neg (by decide +kernel)]; exact ⟨rfl,rfl⟩))
  (fun os started H enc _ F=>by rw [OpenClaim.pre_eq_preRow]; exact lifted6 os started H enc F)

theorem plain6 (f:FuncId) (fn:Func) (hf:Tryz.pinned.checked.prog.funcNamed "caddis/caddislaw11.UnitKeys" = some f) (hfn:Tryz.pinned.checked.prog.funcs[f]?=some fn):
  false=Tryz.pinned.checked.prog.looks []∧∀ (j:Nat) t,fn.params[j]?=some t→Tryz.pinned.checked.prog.wantsStandIn t=false:=by
 obtain rfl:f=6:=Option.some.inj ((show Tryz.prog.funcNamed "caddis/caddislaw11.UnitKeys" = some 6 by kernel_rfl).symm.trans hf) |>.symm
 obtain rfl:fn=Tryz.f6:=(Option.some.inj (Tryz.func6.symm.trans hfn)).symm
 refine ⟨by kernel_rfl,fun j t ht=>?_⟩
 have hpar:Tryz.f6.params = #[22,34]:=by kernel_rfl
 rw [hpar] at ht
 have hm:t=22∨t=34:=by simpa using Array.mem_of_getElem? ht
 rcases hm with rfl | rfl
 ·exact (show Tryz.prog.wantsStandIn 22=false by kernel_rfl)
 ·exact (show Tryz.prog.wantsStandIn 34=false by kernel_rfl)

end Go.Proofs.YtkmcdhahdadkpaaGreatDoor
