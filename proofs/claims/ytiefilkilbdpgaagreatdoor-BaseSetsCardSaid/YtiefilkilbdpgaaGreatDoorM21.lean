/- The law's statement and card. -/
import Derived.Test.YtiefilkilbdpgaaGreatDoorM19
import Derived.Test.YtiefilkilbdpgaaGreatDoorM20
import Derived.Deep.DeepWitnessRowRef
namespace Go.Proofs.YtiefilkilbdpgaaGreatDoor
open Go.ChangeShapes Go.WideShapes Go.ChangeAt Go.RowKit

theorem fa8:(Rows.baseSetsRow.inPlace==Tryz.pinned.checked.prog.inPlace 8)=true:=by kernel_rfl
theorem fb8:(Rows.baseSetsRow.unfollowed==Tryz.pinned.checked.prog.unfollowed 8)=true:=by kernel_rfl
theorem fc8:(Rows.baseSetsRow.recurses==Tryz.pinned.checked.prog.recurses 8)=true:=by kernel_rfl
theorem fd8:(Rows.baseSetsRow.named==Tryz.pinned.checked.prog.varsNamed 8)=true:=by kernel_rfl
theorem facts8:joinedFacts Tryz.pinned.checked.prog 8 Tryz.f8 (OpenSpec.ofChange Rows.baseSetsSpec).bare Rows.baseSetsRow=true:=by
 unfold joinedFacts
 rw [fa8,fb8,fc8,fd8]
 kernel_rfl

def args8:Array Value := #[.slice none 0 0,.agg ([.string ⟨#[]⟩,.int .i64 0,.int .i64 0,.string ⟨#[]⟩,.string ⟨#[]⟩,.slice none 0 0]:List Value).toArray,.int .u16 0]
def dE {H:Type}:DataW H:=.agg [.lit (.string []),.agg [.lit (.int .i64 0),.lit (.int .i64 0),.lit (.string [])],.lit (.string []),.nil]
theorem reads8 (os:Os) {H:Type} (enc:TypeId×Value→H):∃ places,DataW.whole enc Tryz.prog ((laidWorld os).forCall (fun _ _=>0) ⟨#[],args8,[]⟩).memory Tryz.f8.params.toList Rows.baseSetsSpec.vars false args8.toList 8=some ([.nil,dE,.lit (.int .u16 0)],[],places):=
 ⟨[],by kernel_rfl⟩

theorem m0:("caddis/stmt.types",Rows.laid_caddis_stmt_types)∈Rows.baseSetsRow.laid:=by simp [Rows.baseSetsRow]
theorem m5:("internal/strconv.uint64pow10",Rows.laid_internal_strconv_uint64pow10)∈Rows.baseSetsRow.laid:=by simp [Rows.baseSetsRow]
set_option maxRecDepth 100000 in
theorem pars8:Cad.Fs [23,37,62] ([(.sl Cad.zh),.expr,(.int .u16)]:List Cad.Sh):=.cons (Cad.sD.slice (e:=54) (n:=9) (by kernel_rfl) (by kernel_rfl) (by kernel_rfl) (of_decide_eq_true (by kernel_rfl))) <| .cons (Cad.sD.struct (n:=9) (by kernel_rfl) rfl (by kernel_rfl) (by kernel_rfl) (of_decide_eq_true (by kernel_rfl))) <| .cons (Cad.sD.int (n:=9) (by kernel_rfl) (by kernel_rfl) (by kernel_rfl) (of_decide_eq_true (by kernel_rfl))) <| .nil
set_option maxRecDepth 100000 in
theorem con8 {H:Type} {enc:TypeId×Value→H} {W:World} {base:Nat} {args:Array Value} {ds gs:List (DataW H)} {before:List MemPlace}
  (hval:∀ (j:Nat) t v,Tryz.f8.params[j]?=some t→args[j]?=some v→Value.okWide Tryz.prog W .any base t v)
  (hW:DataW.Whole enc Tryz.prog Tryz.f8.params.toList Rows.baseSetsSpec.vars false W args.toList ds gs before) (hgl:Cad.xG Cad.JX W Cad.U0):
  Calls Tryz.prog 8 args W fun e W'=>∃ v,e=.returned v∧Rows.baseSetsSpec.post enc Tryz.prog Tryz.f8 false true false false W args v W':=
 Cad.JB (s:=Rows.baseSetsSpec) Cad.zcs (by kernel_rfl) pars8 (by kernel_rfl) rfl (fun H ds hl=>by
  match ds,hl with
  | [_,_,_],_=>rfl) (fun x hx=>Cad.OT x hx) hval hW hgl

set_option maxRecDepth 100000 in
theorem lifted8 (os:Os) (started:os.Started) (H:Type) (enc:TypeId×Value→H) (F:Stop.Interp):
  ReturnsInHanded {} Tryz.checked os 8 .any ((OpenSpec.ofChange Rows.baseSetsSpec).preRow enc Tryz.prog Tryz.f8 Rows.baseSetsRow.domain false Rows.baseSetsRow.laid) (((OpenSpec.ofChange Rows.baseSetsSpec).at F).post enc Tryz.prog Tryz.f8 false true false false):=by
 obtain ⟨places,hx⟩:=reads8 os enc
 refine returnsInHanded_of_row (C:=Tryz.checked) (s:=OpenSpec.ofChange Rows.baseSetsSpec) own0 started (by kernel_rfl) Tryz.func8
  (witness_row_atRef (enc:=enc) (C:=Tryz.checked) false (laidWorld os) args8 rfl (by kernel_rfl) (by kernel_rfl) (by kernel_rfl)
   (OpenSpec.preRow_of_cond 8 hx (by kernel_rfl) (fun k hk=>by cases hk) (by kernel_rfl) (laid_met os _))) ?_
 intro W base args ds gs before hval hW _ _ _ hL hS _
 exact con8 hval hW (Cad.Ra (Cad.BU (by kernel_rfl) hL) hS m0 m5)

theorem said8:Rows.BaseSetsSaid:=
 OpenClaim.holds_of_cond 8 Tryz.f8 rfl rfl rfl rfl rfl rfl rfl ⟨rfl,rfl,rfl,rfl,rfl⟩ rfl rfl rfl rfl rfl (by kernel_rfl) Tryz.func8 facts8
  (of_decide_eq_true (by kernel_rfl)) (by unfold Func.isWrapper; first | (rw [if_pos (by decide +kernel)]; kernel_rfl) | (rw [if_neg (by decide +kernel)]; exact ⟨rfl,rfl⟩))
  (fun os started H enc _ F=>by rw [OpenClaim.pre_eq_preRow]; exact lifted8 os started H enc F)

theorem plain8 (f:FuncId) (fn:Func) (hf:Tryz.pinned.checked.prog.funcNamed "caddis/caddislaw08.BaseSets" = some f) (hfn:Tryz.pinned.checked.prog.funcs[f]?=some fn):
  false=Tryz.pinned.checked.prog.looks []∧∀ (j:Nat) t,fn.params[j]?=some t→Tryz.pinned.checked.prog.wantsStandIn t=false:=by
 obtain rfl:f=8:=Option.some.inj ((show Tryz.prog.funcNamed "caddis/caddislaw08.BaseSets" = some 8 by kernel_rfl).symm.trans hf) |>.symm
 obtain rfl:fn=Tryz.f8:=(Option.some.inj (Tryz.func8.symm.trans hfn)).symm
 refine ⟨by kernel_rfl,fun j t ht=>?_⟩
 have hpar:Tryz.f8.params = #[23,37,62]:=by kernel_rfl
 rw [hpar] at ht
 have hm:t=23∨t=37∨t=62:=by simpa using Array.mem_of_getElem? ht
 rcases hm with rfl | rfl | rfl
 ·exact (show Tryz.prog.wantsStandIn 23=false by kernel_rfl)
 ·exact (show Tryz.prog.wantsStandIn 37=false by kernel_rfl)
 ·exact (show Tryz.prog.wantsStandIn 62=false by kernel_rfl)

theorem card8:Rows.BaseSetsCardSaid:=
 Claim7.holds_tied_plain_at .later [] _ _ _ _ said8 (fun _ h=>by cases h) (by kernel_rfl) (fun _ h=>by cases h) baseSets_row_tie rfl ⟨rfl,rfl⟩ (by kernel_rfl) rfl plain8 (by kernel_rfl)
end Go.Proofs.YtiefilkilbdpgaaGreatDoor
