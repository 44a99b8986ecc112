/- The law's statement and card. -/
import Derived.Test.YtjdjldbhjmgmkaaGreatDoorS25
import Derived.Deep.DeepWitnessRowRef
namespace Go.Proofs.YtjdjldbhjmgmkaaGreatDoor
open Go.ChangeShapes Go.WideShapes Go.ChangeAt Go.RowKit

theorem fa3:(Rows.buildSumsRow.inPlace==Tryz.pinned.checked.prog.inPlace 3)=true:=by kernel_rfl
theorem fb3:(Rows.buildSumsRow.unfollowed==Tryz.pinned.checked.prog.unfollowed 3)=true:=by kernel_rfl
theorem fc3:(Rows.buildSumsRow.recurses==Tryz.pinned.checked.prog.recurses 3)=true:=by kernel_rfl
theorem fd3:(Rows.buildSumsRow.named==Tryz.pinned.checked.prog.varsNamed 3)=true:=by kernel_rfl
theorem facts3:joinedFacts Tryz.pinned.checked.prog 3 Tryz.f3 (OpenSpec.ofChange Rows.buildSumsSpec).bare Rows.buildSumsRow=true:=by
 unfold joinedFacts
 rw [fa3,fb3,fc3,fd3]
 kernel_rfl

def args3:Array Value := #[.slice none 0 0,.slice none 0 0]
theorem reads3 (os:Os) {H:Type} (enc:TypeId×Value→H):∃ places,DataW.whole enc Tryz.prog ((laidWorld os).forCall (fun _ _=>0) ⟨#[],args3,[]⟩).memory Tryz.f3.params.toList Rows.buildSumsSpec.vars false args3.toList 8=some ([.nil,.nil],[],places):=
 ⟨[],by kernel_rfl⟩

theorem m0:("caddis/stmt.types",Rows.laid_caddis_stmt_types)∈Rows.buildSumsRow.laid:=by simp [Rows.buildSumsRow]
theorem m5:("internal/strconv.uint64pow10",Rows.laid_internal_strconv_uint64pow10)∈Rows.buildSumsRow.laid:=by simp [Rows.buildSumsRow]
set_option maxRecDepth 100000 in
theorem pars3:Cad.NZ [22,23] ([(.sl Cad.zj),(.sl (.int .u8))]:List Cad.Sh):=.cons (Cad.BU.slice (e:=2) (n:=9) (by kernel_rfl) (by kernel_rfl) (by kernel_rfl) (of_decide_eq_true (by kernel_rfl))) <| .cons (Cad.BU.slice (e:=5) (n:=9) (by kernel_rfl) (by kernel_rfl) (by kernel_rfl) (of_decide_eq_true (by kernel_rfl))) <| .nil
set_option maxRecDepth 100000 in
theorem con3 {H:Type} {enc:TypeId×Value→H} {W:World} {base:Nat} {args:Array Value} {ds gs:List (DataW H)} {before:List MemPlace}
  (hval:∀ (j:Nat) t v,Tryz.f3.params[j]?=some t→args[j]?=some v→Value.okWide Tryz.prog W .any base t v)
  (hW:DataW.Whole enc Tryz.prog Tryz.f3.params.toList Rows.buildSumsSpec.vars false W args.toList ds gs before) (hgl:Cad.BO Cad.TZ W Cad.U0):
  Calls Tryz.prog 3 args W fun e W'=>∃ v,e=.returned v∧Rows.buildSumsSpec.post enc Tryz.prog Tryz.f3 false true false false W args v W':=
 Cad.Tt (s:=Rows.buildSumsSpec) Cad.zoF (by kernel_rfl) pars3 (by kernel_rfl) rfl (fun H ds hl=>by
  match ds,hl with
  | [_,_],_=>rfl) (fun x hx=>Cad.Z5 x hx) hval hW hgl

set_option maxRecDepth 100000 in
theorem lifted3 (os:Os) (started:os.Started) (H:Type) (enc:TypeId×Value→H) (F:Stop.Interp):
  ReturnsInHanded {} Tryz.checked os 3 .any ((OpenSpec.ofChange Rows.buildSumsSpec).preRow enc Tryz.prog Tryz.f3 Rows.buildSumsRow.domain false Rows.buildSumsRow.laid) (((OpenSpec.ofChange Rows.buildSumsSpec).at F).post enc Tryz.prog Tryz.f3 false true false false):=by
 obtain ⟨places,hx⟩:=reads3 os enc
 refine returnsInHanded_of_row (C:=Tryz.checked) (s:=OpenSpec.ofChange Rows.buildSumsSpec) own0 started (by kernel_rfl) Tryz.func3
  (witness_row_atRef (enc:=enc) (C:=Tryz.checked) false (laidWorld os) args3 rfl (by kernel_rfl) (by kernel_rfl) (by kernel_rfl)
   (OpenSpec.preRow_of_cond 8 hx (by kernel_rfl) (fun k hk=>by cases hk) (by kernel_rfl) (laid_met os _))) ?_
 intro W base args ds gs before hval hW _ _ _ hL hS _
 exact con3 hval hW (Cad.zcQ (Cad.IT (by kernel_rfl) hL) hS m0 m5)

theorem said3:Rows.BuildSumsSaid:=
 OpenClaim.holds_of_cond 3 Tryz.f3 rfl rfl rfl rfl rfl rfl rfl ⟨rfl,rfl,rfl,rfl,rfl⟩ rfl rfl rfl rfl rfl (by kernel_rfl) Tryz.func3 facts3
  (of_decide_eq_true (by kernel_rfl)) (by unfold Func.isWrapper; first | (rw [if_pos (by decide +kernel)]; kernel_rfl) | (rw [if_neg (by decide +kernel)]; exact ⟨rfl,rfl⟩))
  (fun os started H enc _ F=>by rw [OpenClaim.pre_eq_preRow]; exact lifted3 os started H enc F)

theorem plain3 (f:FuncId) (fn:Func) (hf:Tryz.pinned.checked.prog.funcNamed "caddis/caddislaw12.BuildSums" = some f) (hfn:Tryz.pinned.checked.prog.funcs[f]?=some fn):
  false=Tryz.pinned.checked.prog.looks []∧∀ (j:Nat) t,fn.params[j]?=some t→Tryz.pinned.checked.prog.wantsStandIn t=false:=by
 obtain rfl:f=3:=Option.some.inj ((show Tryz.prog.funcNamed "caddis/caddislaw12.BuildSums" = some 3 by kernel_rfl).symm.trans hf) |>.symm
 obtain rfl:fn=Tryz.f3:=(Option.some.inj (Tryz.func3.symm.trans hfn)).symm
 refine ⟨by kernel_rfl,fun j t ht=>?_⟩
 have hpar:Tryz.f3.params = #[22,23]:=by kernel_rfl
 rw [hpar] at ht
 have hm:t=22∨t=23:=by simpa using Array.mem_of_getElem? ht
 rcases hm with rfl | rfl
 ·exact (show Tryz.prog.wantsStandIn 22=false by kernel_rfl)
 ·exact (show Tryz.prog.wantsStandIn 23=false by kernel_rfl)

end Go.Proofs.YtjdjldbhjmgmkaaGreatDoor
