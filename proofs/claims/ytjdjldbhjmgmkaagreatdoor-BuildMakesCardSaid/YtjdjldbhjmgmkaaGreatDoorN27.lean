/- The law's statement and card. -/
import Derived.Test.YtjdjldbhjmgmkaaGreatDoorN26
import Derived.Deep.DeepWitnessRowRef
namespace Go.Proofs.YtjdjldbhjmgmkaaGreatDoor
open Go.ChangeShapes Go.WideShapes Go.ChangeAt Go.RowKit

theorem fa6:(Rows.buildMakesRow.inPlace==Tryz.pinned.checked.prog.inPlace 6)=true:=by kernel_rfl
theorem fb6:(Rows.buildMakesRow.unfollowed==Tryz.pinned.checked.prog.unfollowed 6)=true:=by kernel_rfl
theorem fc6:(Rows.buildMakesRow.recurses==Tryz.pinned.checked.prog.recurses 6)=true:=by kernel_rfl
theorem fd6:(Rows.buildMakesRow.named==Tryz.pinned.checked.prog.varsNamed 6)=true:=by kernel_rfl
theorem facts6:joinedFacts Tryz.pinned.checked.prog 6 Tryz.f6 (OpenSpec.ofChange Rows.buildMakesSpec).bare Rows.buildMakesRow=true:=by
 unfold joinedFacts
 rw [fa6,fb6,fc6,fd6]
 kernel_rfl

def args6:Array Value := #[.slice none 0 0,.agg ([.string ⟨#[]⟩,.string ⟨#[]⟩,.string ⟨#[]⟩,.slice none 0 0,.slice none 0 0,.string ⟨#[]⟩,.slice none 0 0,.slice none 0 0,.string ⟨#[]⟩,.int .i64 0,.int .i64 0,.string ⟨#[]⟩,.string ⟨#[]⟩,.slice none 0 0,.slice none 0 0,.slice none 0 0,.string ⟨#[]⟩,.int .i64 0,.int .i64 0,.string ⟨#[]⟩,.string ⟨#[]⟩,.slice none 0 0,.string ⟨#[]⟩]:List Value).toArray,.slice none 0 0]
def dE {H:Type}:DataW H:=.agg [.lit (.string []),.agg [.lit (.int .i64 0),.lit (.int .i64 0),.lit (.string [])],.lit (.string []),.nil]
def dS {H:Type}:DataW H:=.agg [.lit (.string []),.lit (.string []),.lit (.string []),.nil,.nil,.lit (.string []),.nil,.nil,dE,.nil,.nil,dE,.lit (.string [])]
theorem reads6 (os:Os) {H:Type} (enc:TypeId×Value→H):∃ places,DataW.whole enc Tryz.prog ((laidWorld os).forCall (fun _ _=>0) ⟨#[],args6,[]⟩).memory Tryz.f6.params.toList Rows.buildMakesSpec.vars false args6.toList 8=some ([.nil,dS,.nil],[],places):=
 ⟨[],by kernel_rfl⟩

theorem m0:("caddis/stmt.types",Rows.laid_caddis_stmt_types)∈Rows.buildMakesRow.laid:=by simp [Rows.buildMakesRow]
theorem m5:("internal/strconv.uint64pow10",Rows.laid_internal_strconv_uint64pow10)∈Rows.buildMakesRow.laid:=by simp [Rows.buildMakesRow]
set_option maxRecDepth 100000 in
theorem pars6:Cad.QI [42,49,39] ([(.sl Cad.zl),Cad.aB,(.sl Cad.ze)]:List Cad.Sh):=.cons (Cad.Cv.slice (e:=38) (n:=9) (by kernel_rfl) (by kernel_rfl) (by kernel_rfl) (of_decide_eq_true (by kernel_rfl))) <| .cons (Cad.Cv.struct (n:=9) (by kernel_rfl) rfl (by kernel_rfl) (by kernel_rfl) (of_decide_eq_true (by kernel_rfl))) <| .cons (Cad.Cv.slice (e:=30) (n:=9) (by kernel_rfl) (by kernel_rfl) (by kernel_rfl) (of_decide_eq_true (by kernel_rfl))) <| .nil
set_option maxRecDepth 100000 in
theorem con6 {H:Type} {enc:TypeId×Value→H} {W:World} {base:Nat} {args:Array Value} {ds gs:List (DataW H)} {before:List MemPlace}
  (hval:∀ (j:Nat) t v,Tryz.f6.params[j]?=some t→args[j]?=some v→Value.okWide Tryz.prog W .any base t v)
  (hW:DataW.Whole enc Tryz.prog Tryz.f6.params.toList Rows.buildMakesSpec.vars false W args.toList ds gs before) (hgl:Cad.DP Cad.Wu W Cad.U0):
  Calls Tryz.prog 6 args W fun e W'=>∃ v,e=.returned v∧Rows.buildMakesSpec.post enc Tryz.prog Tryz.f6 false true false false W args v W':=
 Cad.V0 (s:=Rows.buildMakesSpec) Cad.zr7 (by kernel_rfl) pars6 (by kernel_rfl) rfl (fun H ds hl=>by
  match ds,hl with
  | [_,_,_],_=>rfl) (fun x hx=>Cad.QX x hx) hval hW hgl

set_option maxRecDepth 100000 in
theorem lifted6 (os:Os) (started:os.Started) (H:Type) (enc:TypeId×Value→H) (F:Stop.Interp):
  ReturnsInHanded {} Tryz.checked os 6 .any ((OpenSpec.ofChange Rows.buildMakesSpec).preRow enc Tryz.prog Tryz.f6 Rows.buildMakesRow.domain false Rows.buildMakesRow.laid) (((OpenSpec.ofChange Rows.buildMakesSpec).at F).post enc Tryz.prog Tryz.f6 false true false false):=by
 obtain ⟨places,hx⟩:=reads6 os enc
 refine returnsInHanded_of_row (C:=Tryz.checked) (s:=OpenSpec.ofChange Rows.buildMakesSpec) own0 started (by kernel_rfl) Tryz.func6
  (witness_row_atRef (enc:=enc) (C:=Tryz.checked) false (laidWorld os) args6 rfl (by kernel_rfl) (by kernel_rfl) (by kernel_rfl)
   (OpenSpec.preRow_of_cond 8 hx (by kernel_rfl) (fun k hk=>by cases hk) (by kernel_rfl) (laid_met os _))) ?_
 intro W base args ds gs before hval hW _ _ _ hL hS _
 exact con6 hval hW (Cad.ze3 (Cad.Li (by kernel_rfl) hL) hS m0 m5)

theorem said6:Rows.BuildMakesSaid:=
 OpenClaim.holds_of_cond 6 Tryz.f6 rfl rfl rfl rfl rfl rfl rfl ⟨rfl,rfl,rfl,rfl,rfl⟩ rfl rfl rfl rfl rfl (by kernel_rfl) Tryz.func6 facts6
  (of_decide_eq_true (by kernel_rfl)) (by unfold Func.isWrapper; first | (rw [if_pos (by decide +kernel)]; kernel_rfl) | (rw [if_neg (by decide +kernel)]; exact ⟨rfl,rfl⟩))
  (fun os started H enc _ F=>by rw [OpenClaim.pre_eq_preRow]; exact lifted6 os started H enc F)

theorem plain6 (f:FuncId) (fn:Func) (hf:Tryz.pinned.checked.prog.funcNamed "caddis/caddislaw12.BuildMakes" = some f) (hfn:Tryz.pinned.checked.prog.funcs[f]?=some fn):
  false=Tryz.pinned.checked.prog.looks []∧∀ (j:Nat) t,fn.params[j]?=some t→Tryz.pinned.checked.prog.wantsStandIn t=false:=by
 obtain rfl:f=6:=Option.some.inj ((show Tryz.prog.funcNamed "caddis/caddislaw12.BuildMakes" = some 6 by kernel_rfl).symm.trans hf) |>.symm
 obtain rfl:fn=Tryz.f6:=(Option.some.inj (Tryz.func6.symm.trans hfn)).symm
 refine ⟨by kernel_rfl,fun j t ht=>?_⟩
 have hpar:Tryz.f6.params = #[42,49,39]:=by kernel_rfl
 rw [hpar] at ht
 have hm:t=42∨t=49∨t=39:=by simpa using Array.mem_of_getElem? ht
 rcases hm with rfl | rfl | rfl
 ·exact (show Tryz.prog.wantsStandIn 42=false by kernel_rfl)
 ·exact (show Tryz.prog.wantsStandIn 49=false by kernel_rfl)
 ·exact (show Tryz.prog.wantsStandIn 39=false by kernel_rfl)

end Go.Proofs.YtjdjldbhjmgmkaaGreatDoor
