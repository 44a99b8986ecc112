/- The law's statement. -/
import Derived.Test.YtgcekmmgphhofaaGreatDoorR47
import Derived.Test.YtgcekmmgphhofaaGreatDoorR48
import Derived.Deep.DeepWitnessRowRef
namespace Go.Proofs.YtgcekmmgphhofaaGreatDoor
open Go.ChangeShapes Go.WideShapes Go.ChangeAt Go.RowKit

def args3:Array Value := #[.agg #[.slice none 0 0,.slice none 0 0,.slice none 0 0],.agg #[.slice none 0 0,.slice none 0 0,.slice none 0 0]]
theorem reads3 (os:Os) {H:Type} (enc:TypeId×Value→H):∃ places,DataW.whole enc Tryz.prog ((laidWorld os).forCall (fun _ _=>0) ⟨#[],args3,[]⟩).memory Tryz.f3.params.toList Rows.shelfSameSpec.vars false args3.toList 8=some ([.agg [.nil,.nil,.nil],.agg [.nil,.nil,.nil]],[],places):=
 ⟨[],by kernel_rfl⟩

theorem m0:("caddis/stmt.types",Rows.laid_caddis_stmt_types)∈Rows.shelfSameUptoRow.laid:=by simp [Rows.shelfSameUptoRow]
theorem m5:("internal/strconv.uint64pow10",Rows.laid_internal_strconv_uint64pow10)∈Rows.shelfSameUptoRow.laid:=by simp [Rows.shelfSameUptoRow]
theorem m1:("strconv.ErrSyntax",Rows.laid_strconv_ErrSyntax)∈Rows.shelfSameUptoRow.laid:=by simp [Rows.shelfSameUptoRow]
theorem m2:("strconv.ErrRange",Rows.laid_strconv_ErrRange)∈Rows.shelfSameUptoRow.laid:=by simp [Rows.shelfSameUptoRow]
set_option maxRecDepth 100000 in
theorem par26:Cad.Ao 26 Cad.bL:=Cad.Ao.struct (n:=12) (by kernel_rfl) rfl (by kernel_rfl) (by kernel_rfl) (of_decide_eq_true (by kernel_rfl))
set_option maxRecDepth 100000 in
theorem con3 {H:Type} {enc:TypeId×Value→H} {W:World} {base:Nat} {args:Array Value} {ds gs:List (DataW H)} {before:List MemPlace}
  (hval:∀ (j:Nat) t v,Tryz.f3.params[j]?=some t→args[j]?=some v→Value.okWide Tryz.prog W .any base t v)
  (hW:DataW.Whole enc Tryz.prog Tryz.f3.params.toList Rows.shelfSameSpec.vars false W args.toList ds gs before) (hk:Rows.uptoSmall H (ds++gs)=true) (hgl:Cad.lR Cad.MV W Cad.U0):
  Calls Tryz.prog 3 args W fun e W'=>∃ v,e=.returned v∧Rows.shelfSameSpec.post enc Tryz.prog Tryz.f3 false true false false W args v W':=by
 have hk:Cad.sL (ds++gs)≤1048576:=of_decide_eq_true hk
 rw [Cad.oZ,List.map_append,List.sum_append,← Cad.oZ,← Cad.oZ] at hk
 exact Cad.Rn (s:=Rows.shelfSameSpec) Cad.zls (by kernel_rfl) (.cons par26 <| .cons par26 .nil) (by kernel_rfl) rfl (fun H ds hl=>by
  match ds,hl with
  | [_,_],_=>rfl) (fun x hx hb=>Cad.XS x hx (Nat.le_trans hb (by omega))) hval hW hgl

set_option maxRecDepth 100000 in
theorem lifted3 (os:Os) (started:os.Started) (H:Type) (enc:TypeId×Value→H) (F:Stop.Interp):
  ReturnsInHanded {} Tryz.checked os 3 .any ((Rows.OpenSpec.upto Rows.shelfSameSpec).preRow enc Tryz.prog Tryz.f3 Rows.shelfSameUptoRow.domain false Rows.shelfSameUptoRow.laid) (((Rows.OpenSpec.upto Rows.shelfSameSpec).at F).post enc Tryz.prog Tryz.f3 false true false false):=by
 obtain ⟨places,hx⟩:=reads3 os enc
 refine returnsInHanded_of_row (C:=Tryz.checked) (s:=Rows.OpenSpec.upto Rows.shelfSameSpec) own0 started (by kernel_rfl) Tryz.func3
  (witness_row_atRef (enc:=enc) (C:=Tryz.checked) false (laidWorld os) args3 rfl (by kernel_rfl) (by kernel_rfl) (by kernel_rfl)
   (OpenSpec.preRow_of_cond 8 hx (by kernel_rfl) (fun k hk=>by cases hk; kernel_rfl) (by kernel_rfl) (laid_met os _))) ?_
 intro W base args ds gs before hval hW _ hcond _ hL hS _
 exact con3 hval hW (hcond _ rfl) (Cad.Z4 (Cad.GR (by kernel_rfl) hL) hS m0 m5 m1 m2)

theorem said3:Rows.ShelfSameUptoSaid:=
 OpenClaim.holds_of_cond 3 Tryz.f3 rfl rfl rfl rfl rfl rfl rfl ⟨rfl,rfl,rfl,rfl,rfl⟩ rfl rfl rfl rfl rfl (by kernel_rfl) Tryz.func3 facts3
  (of_decide_eq_true (by kernel_rfl)) (by unfold Func.isWrapper; first | (rw [if_pos (by decide +kernel)]; kernel_rfl) | (rw [if_neg (by decide +kernel)]; exact ⟨rfl,rfl⟩))
  (fun os started H enc _ F=>by rw [OpenClaim.pre_eq_preRow]; exact lifted3 os started H enc F)

theorem plain3 (f:FuncId) (fn:Func) (hf:Tryz.pinned.checked.prog.funcNamed "caddis/caddislaw22.ShelfSame" = some f) (hfn:Tryz.pinned.checked.prog.funcs[f]?=some fn):
  true=Tryz.pinned.checked.prog.looks []∧∀ (j:Nat) t,fn.params[j]?=some t→Tryz.pinned.checked.prog.wantsStandIn t=false:=by
 obtain rfl:f=3:=Option.some.inj ((show Tryz.prog.funcNamed "caddis/caddislaw22.ShelfSame" = some 3 by kernel_rfl).symm.trans hf) |>.symm
 obtain rfl:fn=Tryz.f3:=(Option.some.inj (Tryz.func3.symm.trans hfn)).symm
 refine ⟨by kernel_rfl,fun j t ht=>?_⟩
 have hpar:Tryz.f3.params = #[26,26]:=by kernel_rfl
 rw [hpar] at ht
 obtain rfl:t=26:=by simpa using Array.mem_of_getElem? ht
 exact (show Tryz.prog.wantsStandIn 26=false by kernel_rfl)

end Go.Proofs.YtgcekmmgphhofaaGreatDoor
