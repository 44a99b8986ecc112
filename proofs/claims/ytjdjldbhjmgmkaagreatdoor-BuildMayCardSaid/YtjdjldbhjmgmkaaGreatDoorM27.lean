/- The law's statement and card. -/
import Derived.Test.YtjdjldbhjmgmkaaGreatDoorM26
import Derived.Deep.DeepWitnessRowRef
namespace Go.Proofs.YtjdjldbhjmgmkaaGreatDoor
open Go.ChangeShapes Go.WideShapes Go.ChangeAt Go.RowKit

theorem fa7:(Rows.buildMayRow.inPlace==Tryz.pinned.checked.prog.inPlace 7)=true:=by kernel_rfl
theorem fb7:(Rows.buildMayRow.unfollowed==Tryz.pinned.checked.prog.unfollowed 7)=true:=by kernel_rfl
theorem fc7:(Rows.buildMayRow.recurses==Tryz.pinned.checked.prog.recurses 7)=true:=by kernel_rfl
theorem fd7:(Rows.buildMayRow.named==Tryz.pinned.checked.prog.varsNamed 7)=true:=by kernel_rfl
theorem facts7:joinedFacts Tryz.pinned.checked.prog 7 Tryz.f7 (OpenSpec.ofChange Rows.buildMaySpec).bare Rows.buildMayRow=true:=by
 unfold joinedFacts
 rw [fa7,fb7,fc7,fd7]
 kernel_rfl

def args7:Array Value := #[.slice none 0 0,.agg ([.string ⟨#[]⟩,.string ⟨#[]⟩,.string ⟨#[]⟩,.slice none 0 0,.slice none 0 0,.string ⟨#[]⟩,.slice none 0 0,.slice none 0 0,.string ⟨#[]⟩,.int .i64 0,.int .i64 0,.string ⟨#[]⟩,.string ⟨#[]⟩,.slice none 0 0,.slice none 0 0,.slice none 0 0,.string ⟨#[]⟩,.int .i64 0,.int .i64 0,.string ⟨#[]⟩,.string ⟨#[]⟩,.slice none 0 0,.string ⟨#[]⟩]:List Value).toArray,.int .u8 0]
def dE {H:Type}:DataW H:=.agg [.lit (.string []),.agg [.lit (.int .i64 0),.lit (.int .i64 0),.lit (.string [])],.lit (.string []),.nil]
def dS {H:Type}:DataW H:=.agg [.lit (.string []),.lit (.string []),.lit (.string []),.nil,.nil,.lit (.string []),.nil,.nil,dE,.nil,.nil,dE,.lit (.string [])]
theorem reads7 (os:Os) {H:Type} (enc:TypeId×Value→H):∃ places,DataW.whole enc Tryz.prog ((laidWorld os).forCall (fun _ _=>0) ⟨#[],args7,[]⟩).memory Tryz.f7.params.toList Rows.buildMaySpec.vars false args7.toList 8=some ([.nil,dS,.lit (.int .u8 0)],[],places):=
 ⟨[],by kernel_rfl⟩

theorem m0:("caddis/stmt.types",Rows.laid_caddis_stmt_types)∈Rows.buildMayRow.laid:=by simp [Rows.buildMayRow]
theorem m5:("internal/strconv.uint64pow10",Rows.laid_internal_strconv_uint64pow10)∈Rows.buildMayRow.laid:=by simp [Rows.buildMayRow]
set_option maxRecDepth 100000 in
theorem pars7:Cad.PY [42,49,5] ([(.sl Cad.zl),Cad.aB,(.int .u8)]:List Cad.Sh):=.cons (Cad.B8.slice (e:=38) (n:=9) (by kernel_rfl) (by kernel_rfl) (by kernel_rfl) (of_decide_eq_true (by kernel_rfl))) <| .cons (Cad.B8.struct (n:=9) (by kernel_rfl) rfl (by kernel_rfl) (by kernel_rfl) (of_decide_eq_true (by kernel_rfl))) <| .cons (Cad.B8.int (n:=9) (by kernel_rfl) (by kernel_rfl) (by kernel_rfl) (of_decide_eq_true (by kernel_rfl))) <| .nil
set_option maxRecDepth 100000 in
theorem con7 {H:Type} {enc:TypeId×Value→H} {W:World} {base:Nat} {args:Array Value} {ds gs:List (DataW H)} {before:List MemPlace}
  (hval:∀ (j:Nat) t v,Tryz.f7.params[j]?=some t→args[j]?=some v→Value.okWide Tryz.prog W .any base t v)
  (hW:DataW.Whole enc Tryz.prog Tryz.f7.params.toList Rows.buildMaySpec.vars false W args.toList ds gs before) (hgl:Cad.Dr Cad.V5 W Cad.U0):
  Calls Tryz.prog 7 args W fun e W'=>∃ v,e=.returned v∧Rows.buildMaySpec.post enc Tryz.prog Tryz.f7 false true false false W args v W':=
 Cad.VA (s:=Rows.buildMaySpec) Cad.zrS (by kernel_rfl) pars7 (by kernel_rfl) rfl (fun H ds hl=>by
  match ds,hl with
  | [_,_,_],_=>rfl) (fun x hx=>Cad.X9 x hx) hval hW hgl

set_option maxRecDepth 100000 in
theorem lifted7 (os:Os) (started:os.Started) (H:Type) (enc:TypeId×Value→H) (F:Stop.Interp):
  ReturnsInHanded {} Tryz.checked os 7 .any ((OpenSpec.ofChange Rows.buildMaySpec).preRow enc Tryz.prog Tryz.f7 Rows.buildMayRow.domain false Rows.buildMayRow.laid) (((OpenSpec.ofChange Rows.buildMaySpec).at F).post enc Tryz.prog Tryz.f7 false true false false):=by
 obtain ⟨places,hx⟩:=reads7 os enc
 refine returnsInHanded_of_row (C:=Tryz.checked) (s:=OpenSpec.ofChange Rows.buildMaySpec) own0 started (by kernel_rfl) Tryz.func7
  (witness_row_atRef (enc:=enc) (C:=Tryz.checked) false (laidWorld os) args7 rfl (by kernel_rfl) (by kernel_rfl) (by kernel_rfl)
   (OpenSpec.preRow_of_cond 8 hx (by kernel_rfl) (fun k hk=>by cases hk) (by kernel_rfl) (laid_met os _))) ?_
 intro W base args ds gs before hval hW _ _ _ hL hS _
 exact con7 hval hW (Cad.zeE (Cad.KL (by kernel_rfl) hL) hS m0 m5)

theorem said7:Rows.BuildMaySaid:=
 OpenClaim.holds_of_cond 7 Tryz.f7 rfl rfl rfl rfl rfl rfl rfl ⟨rfl,rfl,rfl,rfl,rfl⟩ rfl rfl rfl rfl rfl (by kernel_rfl) Tryz.func7 facts7
  (of_decide_eq_true (by kernel_rfl)) (by unfold Func.isWrapper; first | (rw [if_pos (by decide +kernel)]; kernel_rfl) | (rw [if_neg (by decide +kernel)]; exact ⟨rfl,rfl⟩))
  (fun os started H enc _ F=>by rw [OpenClaim.pre_eq_preRow]; exact lifted7 os started H enc F)

theorem plain7 (f:FuncId) (fn:Func) (hf:Tryz.pinned.checked.prog.funcNamed "caddis/caddislaw12.BuildMay" = some f) (hfn:Tryz.pinned.checked.prog.funcs[f]?=some fn):
  false=Tryz.pinned.checked.prog.looks []∧∀ (j:Nat) t,fn.params[j]?=some t→Tryz.pinned.checked.prog.wantsStandIn t=false:=by
 obtain rfl:f=7:=Option.some.inj ((show Tryz.prog.funcNamed "caddis/caddislaw12.BuildMay" = some 7 by kernel_rfl).symm.trans hf) |>.symm
 obtain rfl:fn=Tryz.f7:=(Option.some.inj (Tryz.func7.symm.trans hfn)).symm
 refine ⟨by kernel_rfl,fun j t ht=>?_⟩
 have hpar:Tryz.f7.params = #[42,49,5]:=by kernel_rfl
 rw [hpar] at ht
 have hm:t=42∨t=49∨t=5:=by simpa using Array.mem_of_getElem? ht
 rcases hm with rfl | rfl | rfl
 ·exact (show Tryz.prog.wantsStandIn 42=false by kernel_rfl)
 ·exact (show Tryz.prog.wantsStandIn 49=false by kernel_rfl)
 ·exact (show Tryz.prog.wantsStandIn 5=false by kernel_rfl)

end Go.Proofs.YtjdjldbhjmgmkaaGreatDoor
