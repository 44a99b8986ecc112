/- The law's statement and card. -/
import Derived.Test.YtjdjldbhjmgmkaaGreatDoorP26
import Derived.Deep.DeepWitnessRowRef
namespace Go.Proofs.YtjdjldbhjmgmkaaGreatDoor
open Go.ChangeShapes Go.WideShapes Go.ChangeAt Go.RowKit

theorem fa4:(Rows.buildPartsRow.inPlace==Tryz.pinned.checked.prog.inPlace 4)=true:=by kernel_rfl
theorem fb4:(Rows.buildPartsRow.unfollowed==Tryz.pinned.checked.prog.unfollowed 4)=true:=by kernel_rfl
theorem fc4:(Rows.buildPartsRow.recurses==Tryz.pinned.checked.prog.recurses 4)=true:=by kernel_rfl
theorem fd4:(Rows.buildPartsRow.named==Tryz.pinned.checked.prog.varsNamed 4)=true:=by kernel_rfl
theorem facts4:joinedFacts Tryz.pinned.checked.prog 4 Tryz.f4 (OpenSpec.ofChange Rows.buildPartsSpec).bare Rows.buildPartsRow=true:=by
 unfold joinedFacts
 rw [fa4,fb4,fc4,fd4]
 kernel_rfl

def args4:Array Value := #[.slice none 0 0,.agg ([.string ⟨#[]⟩,.string ⟨#[]⟩,.string ⟨#[]⟩,.slice none 0 0,.slice none 0 0,.string ⟨#[]⟩,.slice none 0 0,.slice none 0 0,.string ⟨#[]⟩,.int .i64 0,.int .i64 0,.string ⟨#[]⟩,.string ⟨#[]⟩,.slice none 0 0,.slice none 0 0,.slice none 0 0,.string ⟨#[]⟩,.int .i64 0,.int .i64 0,.string ⟨#[]⟩,.string ⟨#[]⟩,.slice none 0 0,.string ⟨#[]⟩]:List Value).toArray,.int .u32 0]
def dE {H:Type}:DataW H:=.agg [.lit (.string []),.agg [.lit (.int .i64 0),.lit (.int .i64 0),.lit (.string [])],.lit (.string []),.nil]
def dS {H:Type}:DataW H:=.agg [.lit (.string []),.lit (.string []),.lit (.string []),.nil,.nil,.lit (.string []),.nil,.nil,dE,.nil,.nil,dE,.lit (.string [])]
theorem reads4 (os:Os) {H:Type} (enc:TypeId×Value→H):∃ places,DataW.whole enc Tryz.prog ((laidWorld os).forCall (fun _ _=>0) ⟨#[],args4,[]⟩).memory Tryz.f4.params.toList Rows.buildPartsSpec.vars false args4.toList 8=some ([.nil,dS,.lit (.int .u32 0)],[],places):=
 ⟨[],by kernel_rfl⟩

theorem m0:("caddis/stmt.types",Rows.laid_caddis_stmt_types)∈Rows.buildPartsRow.laid:=by simp [Rows.buildPartsRow]
theorem m5:("internal/strconv.uint64pow10",Rows.laid_internal_strconv_uint64pow10)∈Rows.buildPartsRow.laid:=by simp [Rows.buildPartsRow]
set_option maxRecDepth 100000 in
theorem pars4:Cad.PZ [42,49,56] ([(.sl Cad.zl),Cad.ay,(.int .u32)]:List Cad.Sh):=.cons (Cad.B9.slice (e:=38) (n:=9) (by kernel_rfl) (by kernel_rfl) (by kernel_rfl) (of_decide_eq_true (by kernel_rfl))) <| .cons (Cad.B9.struct (n:=9) (by kernel_rfl) rfl (by kernel_rfl) (by kernel_rfl) (of_decide_eq_true (by kernel_rfl))) <| .cons (Cad.B9.int (n:=9) (by kernel_rfl) (by kernel_rfl) (by kernel_rfl) (of_decide_eq_true (by kernel_rfl))) <| .nil
set_option maxRecDepth 100000 in
theorem con4 {H:Type} {enc:TypeId×Value→H} {W:World} {base:Nat} {args:Array Value} {ds gs:List (DataW H)} {before:List MemPlace}
  (hval:∀ (j:Nat) t v,Tryz.f4.params[j]?=some t→args[j]?=some v→Value.okWide Tryz.prog W .any base t v)
  (hW:DataW.Whole enc Tryz.prog Tryz.f4.params.toList Rows.buildPartsSpec.vars false W args.toList ds gs before) (hgl:Cad.Dt Cad.VV W Cad.U0):
  Calls Tryz.prog 4 args W fun e W'=>∃ v,e=.returned v∧Rows.buildPartsSpec.post enc Tryz.prog Tryz.f4 false true false false W args v W':=
 Cad.Vr (s:=Rows.buildPartsSpec) Cad.zq1 (by kernel_rfl) pars4 (by kernel_rfl) rfl (fun H ds hl=>by
  match ds,hl with
  | [_,_,_],_=>rfl) (fun x hx=>Cad.Qn x hx) hval hW hgl

set_option maxRecDepth 100000 in
theorem lifted4 (os:Os) (started:os.Started) (H:Type) (enc:TypeId×Value→H) (F:Stop.Interp):
  ReturnsInHanded {} Tryz.checked os 4 .any ((OpenSpec.ofChange Rows.buildPartsSpec).preRow enc Tryz.prog Tryz.f4 Rows.buildPartsRow.domain false Rows.buildPartsRow.laid) (((OpenSpec.ofChange Rows.buildPartsSpec).at F).post enc Tryz.prog Tryz.f4 false true false false):=by
 obtain ⟨places,hx⟩:=reads4 os enc
 refine returnsInHanded_of_row (C:=Tryz.checked) (s:=OpenSpec.ofChange Rows.buildPartsSpec) own0 started (by kernel_rfl) Tryz.func4
  (witness_row_atRef (enc:=enc) (C:=Tryz.checked) false (laidWorld os) args4 rfl (by kernel_rfl) (by kernel_rfl) (by kernel_rfl)
   (OpenSpec.preRow_of_cond 8 hx (by kernel_rfl) (fun k hk=>by cases hk) (by kernel_rfl) (laid_met os _))) ?_
 intro W base args ds gs before hval hW _ _ _ hL hS _
 exact con4 hval hW (Cad.zes (Cad.KK (by kernel_rfl) hL) hS m0 m5)

theorem said4:Rows.BuildPartsSaid:=
 OpenClaim.holds_of_cond 4 Tryz.f4 rfl rfl rfl rfl rfl rfl rfl ⟨rfl,rfl,rfl,rfl,rfl⟩ rfl rfl rfl rfl rfl (by kernel_rfl) Tryz.func4 facts4
  (of_decide_eq_true (by kernel_rfl)) (by unfold Func.isWrapper; first | (rw [if_pos (by decide +kernel)]; kernel_rfl) | (rw [if_neg (by decide +kernel)]; exact ⟨rfl,rfl⟩))
  (fun os started H enc _ F=>by rw [OpenClaim.pre_eq_preRow]; exact lifted4 os started H enc F)

theorem plain4 (f:FuncId) (fn:Func) (hf:Tryz.pinned.checked.prog.funcNamed "caddis/caddislaw12.BuildParts" = some f) (hfn:Tryz.pinned.checked.prog.funcs[f]?=some fn):
  false=Tryz.pinned.checked.prog.looks []∧∀ (j:Nat) t,fn.params[j]?=some t→Tryz.pinned.checked.prog.wantsStandIn t=false:=by
 obtain rfl:f=4:=Option.some.inj ((show Tryz.prog.funcNamed "caddis/caddislaw12.BuildParts" = some 4 by kernel_rfl).symm.trans hf) |>.symm
 obtain rfl:fn=Tryz.f4:=(Option.some.inj (Tryz.func4.symm.trans hfn)).symm
 refine ⟨by kernel_rfl,fun j t ht=>?_⟩
 have hpar:Tryz.f4.params = #[42,49,56]:=by kernel_rfl
 rw [hpar] at ht
 have hm:t=42∨t=49∨t=56:=by simpa using Array.mem_of_getElem? ht
 rcases hm with rfl | rfl | rfl
 ·exact (show Tryz.prog.wantsStandIn 42=false by kernel_rfl)
 ·exact (show Tryz.prog.wantsStandIn 49=false by kernel_rfl)
 ·exact (show Tryz.prog.wantsStandIn 56=false by kernel_rfl)

end Go.Proofs.YtjdjldbhjmgmkaaGreatDoor
