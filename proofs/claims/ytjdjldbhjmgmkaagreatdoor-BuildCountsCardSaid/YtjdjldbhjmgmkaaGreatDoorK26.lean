/- The law's statement and card. -/
import Derived.Test.YtjdjldbhjmgmkaaGreatDoorK25
import Derived.Deep.DeepWitnessRowRef
namespace Go.Proofs.YtjdjldbhjmgmkaaGreatDoor
open Go.ChangeShapes Go.WideShapes Go.ChangeAt Go.RowKit

theorem fa5:(Rows.buildCountsRow.inPlace==Tryz.pinned.checked.prog.inPlace 5)=true:=by kernel_rfl
theorem fb5:(Rows.buildCountsRow.unfollowed==Tryz.pinned.checked.prog.unfollowed 5)=true:=by kernel_rfl
theorem fc5:(Rows.buildCountsRow.recurses==Tryz.pinned.checked.prog.recurses 5)=true:=by kernel_rfl
theorem fd5:(Rows.buildCountsRow.named==Tryz.pinned.checked.prog.varsNamed 5)=true:=by kernel_rfl
theorem facts5:joinedFacts Tryz.pinned.checked.prog 5 Tryz.f5 (OpenSpec.ofChange Rows.buildCountsSpec).bare Rows.buildCountsRow=true:=by
 unfold joinedFacts
 rw [fa5,fb5,fc5,fd5]
 kernel_rfl

def args5:Array Value := #[.slice none 0 0,.agg ([.string ⟨#[]⟩,.string ⟨#[]⟩,.string ⟨#[]⟩,.slice none 0 0,.slice none 0 0,.string ⟨#[]⟩,.slice none 0 0,.slice none 0 0,.string ⟨#[]⟩,.int .i64 0,.int .i64 0,.string ⟨#[]⟩,.string ⟨#[]⟩,.slice none 0 0,.slice none 0 0,.slice none 0 0,.string ⟨#[]⟩,.int .i64 0,.int .i64 0,.string ⟨#[]⟩,.string ⟨#[]⟩,.slice none 0 0,.string ⟨#[]⟩]:List Value).toArray]
def dE {H:Type}:DataW H:=.agg [.lit (.string []),.agg [.lit (.int .i64 0),.lit (.int .i64 0),.lit (.string [])],.lit (.string []),.nil]
def dS {H:Type}:DataW H:=.agg [.lit (.string []),.lit (.string []),.lit (.string []),.nil,.nil,.lit (.string []),.nil,.nil,dE,.nil,.nil,dE,.lit (.string [])]
theorem reads5 (os:Os) {H:Type} (enc:TypeId×Value→H):∃ places,DataW.whole enc Tryz.prog ((laidWorld os).forCall (fun _ _=>0) ⟨#[],args5,[]⟩).memory Tryz.f5.params.toList Rows.buildCountsSpec.vars false args5.toList 8=some ([.nil,dS],[],places):=
 ⟨[],by kernel_rfl⟩

theorem m0:("caddis/stmt.types",Rows.laid_caddis_stmt_types)∈Rows.buildCountsRow.laid:=by simp [Rows.buildCountsRow]
theorem m5:("internal/strconv.uint64pow10",Rows.laid_internal_strconv_uint64pow10)∈Rows.buildCountsRow.laid:=by simp [Rows.buildCountsRow]
set_option maxRecDepth 100000 in
theorem pars5:Cad.N4 [42,49] ([(.sl Cad.zk),Cad.ar]:List Cad.Sh):=.cons (Cad.BT.slice (e:=38) (n:=9) (by kernel_rfl) (by kernel_rfl) (by kernel_rfl) (of_decide_eq_true (by kernel_rfl))) <| .cons (Cad.BT.struct (n:=9) (by kernel_rfl) rfl (by kernel_rfl) (by kernel_rfl) (of_decide_eq_true (by kernel_rfl))) <| .nil
set_option maxRecDepth 100000 in
theorem con5 {H:Type} {enc:TypeId×Value→H} {W:World} {base:Nat} {args:Array Value} {ds gs:List (DataW H)} {before:List MemPlace}
  (hval:∀ (j:Nat) t v,Tryz.f5.params[j]?=some t→args[j]?=some v→Value.okWide Tryz.prog W .any base t v)
  (hW:DataW.Whole enc Tryz.prog Tryz.f5.params.toList Rows.buildCountsSpec.vars false W args.toList ds gs before) (hgl:Cad.BN Cad.TX W Cad.U0):
  Calls Tryz.prog 5 args W fun e W'=>∃ v,e=.returned v∧Rows.buildCountsSpec.post enc Tryz.prog Tryz.f5 false true false false W args v W':=
 Cad.To (s:=Rows.buildCountsSpec) Cad.zoL (by kernel_rfl) pars5 (by kernel_rfl) rfl (fun H ds hl=>by
  match ds,hl with
  | [_,_],_=>rfl) (fun x hx=>Cad.On x hx) hval hW hgl

set_option maxRecDepth 100000 in
theorem lifted5 (os:Os) (started:os.Started) (H:Type) (enc:TypeId×Value→H) (F:Stop.Interp):
  ReturnsInHanded {} Tryz.checked os 5 .any ((OpenSpec.ofChange Rows.buildCountsSpec).preRow enc Tryz.prog Tryz.f5 Rows.buildCountsRow.domain false Rows.buildCountsRow.laid) (((OpenSpec.ofChange Rows.buildCountsSpec).at F).post enc Tryz.prog Tryz.f5 false true false false):=by
 obtain ⟨places,hx⟩:=reads5 os enc
 refine returnsInHanded_of_row (C:=Tryz.checked) (s:=OpenSpec.ofChange Rows.buildCountsSpec) own0 started (by kernel_rfl) Tryz.func5
  (witness_row_atRef (enc:=enc) (C:=Tryz.checked) false (laidWorld os) args5 rfl (by kernel_rfl) (by kernel_rfl) (by kernel_rfl)
   (OpenSpec.preRow_of_cond 8 hx (by kernel_rfl) (fun k hk=>by cases hk) (by kernel_rfl) (laid_met os _))) ?_
 intro W base args ds gs before hval hW _ _ _ hL hS _
 exact con5 hval hW (Cad.zcG (Cad.IW (by kernel_rfl) hL) hS m0 m5)

theorem said5:Rows.BuildCountsSaid:=
 OpenClaim.holds_of_cond 5 Tryz.f5 rfl rfl rfl rfl rfl rfl rfl ⟨rfl,rfl,rfl,rfl,rfl⟩ rfl rfl rfl rfl rfl (by kernel_rfl) Tryz.func5 facts5
  (of_decide_eq_true (by kernel_rfl)) (by unfold Func.isWrapper; first | (rw [if_pos (by decide +kernel)]; kernel_rfl) | (rw [if_neg (by decide +kernel)]; exact ⟨rfl,rfl⟩))
  (fun os started H enc _ F=>by rw [OpenClaim.pre_eq_preRow]; exact lifted5 os started H enc F)

theorem plain5 (f:FuncId) (fn:Func) (hf:Tryz.pinned.checked.prog.funcNamed "caddis/caddislaw12.BuildCounts" = some f) (hfn:Tryz.pinned.checked.prog.funcs[f]?=some fn):
  false=Tryz.pinned.checked.prog.looks []∧∀ (j:Nat) t,fn.params[j]?=some t→Tryz.pinned.checked.prog.wantsStandIn t=false:=by
 obtain rfl:f=5:=Option.some.inj ((show Tryz.prog.funcNamed "caddis/caddislaw12.BuildCounts" = some 5 by kernel_rfl).symm.trans hf) |>.symm
 obtain rfl:fn=Tryz.f5:=(Option.some.inj (Tryz.func5.symm.trans hfn)).symm
 refine ⟨by kernel_rfl,fun j t ht=>?_⟩
 have hpar:Tryz.f5.params = #[42,49]:=by kernel_rfl
 rw [hpar] at ht
 have hm:t=42∨t=49:=by simpa using Array.mem_of_getElem? ht
 rcases hm with rfl | rfl
 ·exact (show Tryz.prog.wantsStandIn 42=false by kernel_rfl)
 ·exact (show Tryz.prog.wantsStandIn 49=false by kernel_rfl)

end Go.Proofs.YtjdjldbhjmgmkaaGreatDoor
