/- The library's functions. Values: what may be. Values: what they say. Loops; values in order. Values: order, equal, sums. Values: less; bounded ones. -/
import Derived.Test.YtgbhkblomgiclaaGreatDoorG06
import Derived.Test.YtgbhkblomgiclaaGreatDoorG07
import Derived.Test.YtgbhkblomgiclaaGreatDoorG05
namespace Cad
open Go Go.Proofs Go.RowKit Go.Lib

theorem Ext.below {w w' : World} (h : Below w.heap.size w w') : Ext w w' :=
  ⟨h.size, h.os, h.output, h.tape, fun a ha => World.frozen?_of_block (h.block a.block ha)⟩

/-- A call that leaves all as it was, and answers a number, a text or a Bool. -/
theorem post_below {E : Env} {C : Ctx} {w w' : World} {U : Nat → Prop} {r : AV} {v : Value} {h0 : List AO} {ρ : Nat → Option Value} (hH : HpOk C w U ρ (fun j => h0.getD j .dead)) (hnew : ∀ id, h0.length ≤ id → ρ id = none)
    (hr0 : ∀ id v, C.ρ0 id = some v → ρ id = some v) (hW : Wd E.gl C w U) (hb : Below w.heap.size w w') (hr : Rv w' U ρ r v) : Post E C (fun r' h => (r', h) = (r, h0)) (.returned v) w' := by
  have hk : ∀ b, b < w.heap.size → w'.heap[b]? = w.heap[b]? := hb.block
  refine ⟨v, r, h0, U, ρ, rfl, rfl, hr, ⟨fun id => ?_, hH.inj, hH.blk⟩, hnew, hr0, ⟨hW.ext.trans (Ext.below hb), fun b hb' hn => ?_, fun b hu => Nat.lt_of_lt_of_le (hW.ub b hu) hb.size, hW.u1, hW.u2, fun g => ?_⟩⟩
  · exact (hH.ob id).mono hb.size (fun b hb' _ => hk b hb') (fun _ _ h => h) (fun _ _ h => h) (fun b ho => ⟨hk b ((hH.ob id).inU ho).2, ((hH.ob id).inU ho).1⟩)
  · rw [hk b (Nat.lt_of_lt_of_le hb' hW.ext.sz)]; exact hW.same b hb' hn
  · exact (hW.gl g).mono hb.size (fun b hb' _ => hk b hb') (fun _ _ h => h) (fun _ _ h => h)

noncomputable def env9 : Env := env8.aut 35 Tryz.f35 1
theorem ok35 : fnChk env8.P 35 Tryz.f35 1 := by refine ⟨?_, ?_, ?_, ?_⟩ <;> kernel_rfl
theorem env9_all : EnvAll env9 := aut_all env8_all mixed0 ok35

/-- An octet, or a rune, that no text may have. -/
def oddC (c : Int) : Bool := bif decide (c < 32) then true else decide (c > 126)

theorem go35 (c : Int) : ((liftF (List.replicate 1 none) (autoG env8 Tryz.f35 (List.replicate 1 none))) [.int .i32 c] (fun _ => .dead) 0).val = some { val := .bool (oddC c) } := by kernel_rfl

theorem pred35 (w : World) (U : Nat → Prop) (hgl : GlOk env8.gl w U) (hub : ∀ b, U b → b < w.heap.size) : PredGrows Tryz.prog 35 #[] (fun r => oddC r) w := by
  intro W x hx hB
  have hF : FOk env8.P env8.gl 35 (liftF (List.replicate 1 none) (autoG env8 Tryz.f35 (List.replicate 1 none))) := FOk_auto _ env8_all mixed0 ok35
  have hr : RvL W U (fun _ => none) [.int .i32 (x : Int)] [.int .i32 (x : Int)] := by
    refine ⟨rfl, fun j c v hc hv => ?_⟩
    cases j with
    | zero =>
      simp at hc hv; subst hc; subst hv
      refine .int _ _ ⟨?_, ?_⟩
      · show (-2147483648 : Int) ≤ x; omega
      · show (x : Int) ≤ 2147483647; omega
    | succ j => simp at hc
  have := (hF.calls W U (fun _ => none) (fun _ => .dead) 0 [.int .i32 (x : Int)] [.int .i32 (x : Int)] _ [] (go35 x) hr (fun b hb => Nat.lt_of_lt_of_le (hub b hb) hB.size) (fun g => (hgl g).mono hB.size (fun b hb _ => hB.block b hb) (fun _ _ h => h) (fun _ _ h => h)) ⟨by simp, by simp⟩ (by simp [AV.idsL, AV.ids]) (by simp) (by simp)).1
  refine this.mono ?_
  rintro e w' ⟨v, U', ρ', rfl, hef⟩
  have hv := hef.val
  cases hv
  exact ⟨rfl, ⟨hef.ext.os, hef.ext.tape, hef.ext.out, hef.ext.sz, fun b hb => hef.same b hb (by simp)⟩⟩

/-- The place of the first odd sign of a text, or -1. -/
def oddAt (s : Str) : Int := Lib.idxFunc (fun r => oddC r) true ⟨s.toArray⟩

def G36 : GSem [some .str, none] := fun x h => match x, h with
  | (s, .clo (.func 35) [] [], _), [] => .ok (.int .i64 (oddAt s), [])
  | _, _ => .err

theorem eg35 : Go.Proofs.Enters Tryz.prog 35 := by
  cases hb : Tryz.f35.body with
  | none => have : Tryz.f35.body.isNone = false := by kernel_rfl
            rw [hb] at this; cases this
  | some c => exact Go.Proofs.enters_of (fn := Tryz.f35) (by kernel_rfl) (by kernel_rfl) hb

theorem FOk36 : FOk env9.P env9.gl 36 (liftF [some .str, none] G36) := by
  refine FOk_calls ⟨Tryz.f36, by kernel_rfl, by kernel_rfl, by kernel_rfl⟩ fun x h0 res hx => ?_
  unfold G36 at hx
  split at hx
  · rename_i s u
    simp only [Tr.val_ok, Option.some.injEq] at hx
    subst hx
    intro C w U ρ vals _ hr hH hnew hr0 hW
    have hl := hr.len
    match vals, hl, hr with
    | [v1, v2], _, hr =>
      have h1 := hr.rv 0 (.str s) v1 rfl rfl
      have h2 := hr.rv 1 (.clo (.func 35) [] []) v2 rfl rfl
      cases h1 with
      | str _ hs =>
      cases h2 with
      | clo _ _ _ vf vc hf hc _ _ =>
      have hf' : vf = [] := List.eq_nil_of_length_eq_zero hf.symm
      have hc' : vc = [] := List.eq_nil_of_length_eq_zero hc.symm
      subst hf'; subst hc'
      have := Tryz.strings_IndexFunc_grows 35 #[] eg35 (fun r => oddC r) ⟨s.toArray⟩ w (pred35 w U hW.gl hW.ub)
      refine this.mono ?_
      rintro e w' ⟨rfl, hb⟩
      refine post_below hH hnew hr0 hW hb (.int _ _ ?_)
      have hrg := Lib.idxFunc_range (fun r => oddC r) true ⟨s.toArray⟩
      have hsz : (⟨s.toArray⟩ : ByteArray).size = s.length := by simp [ByteArray.size]
      have hm : maxStr = 9223372036854775807 := rfl
      rw [hsz] at hrg
      change oddAt s = -1 ∨ (0 ≤ oddAt s ∧ oddAt s < s.length) at hrg
      refine ⟨?_, ?_⟩
      · show (-9223372036854775808 : Int) ≤ _; omega
      · show _ ≤ (9223372036854775807 : Int); omega
  · simp at hx

noncomputable def env10 : Env := env9.add 36 (liftF [some .str, none] G36)
theorem env10_all : EnvAll env10 := env9_all.add FOk36
theorem env10_mix : env10.P.follows .mixedOrders = true := mixed0
end Cad

namespace Cad
open Go Go.Proofs

abbrev V := Sem shVal

def vMay (x0 : Sem shVal) : Sem Sh.bool :=
  if (x0.fst == 0) = true then if (x0.snd.fst != 0) = true then false else x0.snd.snd == []
else
  if (x0.fst == 1) = true then x0.snd.snd == []
  else
    if (x0.fst == 2) = true then
      bif x0.snd.fst == 0 then bif decide ((↑(List.length x0.snd.snd) : Int) ≤ 40) then decide (oddAt x0.snd.snd < 0) else false else false
    else if (x0.fst == 3) = true then bif x0.snd.fst == 0 then x0.snd.snd == [] else bif x0.snd.fst == 1 then x0.snd.snd == [] else false else false
theorem ok21 : fnChk env10.P 21 Tryz.f21 1 := by refine ⟨?_, ?_, ?_, ?_⟩ <;> kernel_rfl
theorem go21 (x0 : Sem shVal) : run env10 0 (fun _ => { }) (Func.results Tryz.f21).toList 400 (bodyOf Tryz.f21) (initSt (Func.ntmps Tryz.f21) [datum shVal x0] []) =
  Tr.br (x0.fst == 0) (Tr.br (x0.snd.fst != 0) (Tr.ok (Leaf.ret (AV.kb false) [])) (Tr.ok (Leaf.ret (AV.bool (x0.snd.snd == [])) [])))
  (Tr.br (x0.fst == 1) (Tr.ok (Leaf.ret (AV.bool (x0.snd.snd == [])) []))
    (Tr.br (x0.fst == 2)
      (Tr.ok
        (Leaf.ret
          (AV.bool (bif x0.snd.fst == 0 then bif decide ((↑(List.length x0.snd.snd) : Int) ≤ 40) then decide (oddAt x0.snd.snd < 0) else false else false)) []))
      (Tr.br (x0.fst == 3) (Tr.ok (Leaf.ret (AV.bool (bif x0.snd.fst == 0 then x0.snd.snd == [] else bif x0.snd.fst == 1 then x0.snd.snd == [] else false)) []))
        (Tr.ok (Leaf.ret (AV.kb false) []))))) := by kernel_rfl
def F21 : FSem := plainT [shVal] [Sh.bool] fun x => (vMay x.1, ())
theorem FOk21 : FOk env10.P env10.gl 21 F21 := by
  refine FOk_plainT ok21 fun x C hC => ?_
  refine reach_res env10_all env10_mix ok21 (fun id _ => hC id) (go21 x.1) ?_
  simp only [Tr.val, vMay]
  repeat' split
  all_goals rfl

def vTruth (x0 : Sem shInt) : Sem shVal :=
  if (x0 == 0) = true then (0, 0, []) else (3, IntKind.i64.wrap (x0 - 1), [])
theorem ok57 : fnChk env10.P 57 Tryz.f57 1 := by refine ⟨?_, ?_, ?_, ?_⟩ <;> kernel_rfl
theorem go57 (x0 : Sem shInt) : run env10 0 (fun _ => { }) (Func.results Tryz.f57).toList 400 (bodyOf Tryz.f57) (initSt (Func.ntmps Tryz.f57) [datum shInt x0] []) =
  Tr.br (x0 == 0) (Tr.ok (Leaf.ret (AV.agg [AV.int IntKind.i64 0, AV.int IntKind.i64 0, AV.str []]) []))
  (Tr.ok (Leaf.ret (AV.agg [AV.int IntKind.i64 3, AV.int IntKind.i64 (IntKind.i64.wrap (x0 - 1)), AV.str []]) [])) := by kernel_rfl
def F57 : FSem := plainT [shInt] [shVal] fun x => (vTruth x.1, ())
theorem FOk57 : FOk env10.P env10.gl 57 F57 := by
  refine FOk_plainT ok57 fun x C hC => ?_
  refine reach_res env10_all env10_mix ok57 (fun id _ => hC id) (go57 x.1) ?_
  simp only [Tr.val, vTruth]
  repeat' split
  all_goals rfl

noncomputable def F100 : FSem := liftF (List.replicate 1 none) (autoG env10 Tryz.f100 (List.replicate 1 none))
theorem FOk100 : FOk env10.P env10.gl 100 F100 := FOk_auto _ env10_all env10_mix (by refine ⟨?_, ?_, ?_, ?_⟩ <;> kernel_rfl)

noncomputable def F101 : FSem := liftF (List.replicate 1 none) (autoG env10 Tryz.f101 (List.replicate 1 none))
theorem FOk101 : FOk env10.P env10.gl 101 F101 := FOk_auto _ env10_all env10_mix (by refine ⟨?_, ?_, ?_, ?_⟩ <;> kernel_rfl)

noncomputable def F102 : FSem := liftF (List.replicate 1 none) (autoG env10 Tryz.f102 (List.replicate 1 none))
theorem FOk102 : FOk env10.P env10.gl 102 F102 := FOk_auto _ env10_all env10_mix (by refine ⟨?_, ?_, ?_, ?_⟩ <;> kernel_rfl)

noncomputable def env11 : Env := (((((env10.add 21 F21).add 57 F57).add 100 F100).add 101 F101).add 102 F102)
theorem env11_all : EnvAll env11 := (EnvAll.addS (EnvAll.addS (EnvAll.addS (EnvAll.addS (EnvAll.addS env10_all (SameE.refl env10) FOk21) ((SameE.refl env10).add _ _) FOk57) (((SameE.refl env10).add _ _).add _ _) FOk100) ((((SameE.refl env10).add _ _).add _ _).add _ _) FOk101) (((((SameE.refl env10).add _ _).add _ _).add _ _).add _ _) FOk102)
theorem env11_mix : env11.P.follows .mixedOrders = true := (mix_add (mix_add (mix_add (mix_add (mix_add env10_mix _ _) _ _) _ _) _ _) _ _)
end Cad

namespace Cad
open Go Go.Proofs

def vKnown (x0 : Sem shVal) : Sem shVal :=
  if (!vMay x0) = true then (0, 0, []) else x0
theorem ok61 : fnChk env11.P 61 Tryz.f61 1 := by refine ⟨?_, ?_, ?_, ?_⟩ <;> kernel_rfl
theorem go61 (x0 : Sem shVal) : run env11 0 (fun _ => { }) (Func.results Tryz.f61).toList 400 (bodyOf Tryz.f61) (initSt (Func.ntmps Tryz.f61) [datum shVal x0] []) =
  Tr.br (!vMay x0) (Tr.ok (Leaf.ret (AV.agg [AV.int IntKind.i64 0, AV.int IntKind.i64 0, AV.str []]) []))
  (Tr.ok (Leaf.ret (AV.agg [AV.int IntKind.i64 x0.fst, AV.int IntKind.i64 x0.snd.fst, AV.str x0.snd.snd]) [])) := by kernel_rfl
def F61 : FSem := plainT [shVal] [shVal] fun x => (vKnown x.1, ())
theorem FOk61 : FOk env11.P env11.gl 61 F61 := by
  refine FOk_plainT ok61 fun x C hC => ?_
  refine reach_res env11_all env11_mix ok61 (fun id _ => hC id) (go61 x.1) ?_
  simp only [Tr.val, vKnown]
  repeat' split
  all_goals rfl

def vSays (x0 : Sem shVal) : Sem shInt :=
  if (bif x0.fst != 3 then true else !vMay x0) = true then 0 else IntKind.i64.wrap (1 + x0.snd.fst)
theorem ok56 : fnChk env11.P 56 Tryz.f56 1 := by refine ⟨?_, ?_, ?_, ?_⟩ <;> kernel_rfl
theorem go56 (x0 : Sem shVal) : run env11 0 (fun _ => { }) (Func.results Tryz.f56).toList 400 (bodyOf Tryz.f56) (initSt (Func.ntmps Tryz.f56) [datum shVal x0] []) =
  Tr.br (bif x0.fst != 3 then true else !vMay x0) (Tr.ok (Leaf.ret (AV.int IntKind.i64 0) []))
  (Tr.ok (Leaf.ret (AV.int IntKind.i64 (IntKind.i64.wrap (1 + x0.snd.fst))) [])) := by kernel_rfl
def F56 : FSem := plainT [shVal] [shInt] fun x => (vSays x.1, ())
theorem FOk56 : FOk env11.P env11.gl 56 F56 := by
  refine FOk_plainT ok56 fun x C hC => ?_
  refine reach_res env11_all env11_mix ok56 (fun id _ => hC id) (go56 x.1) ?_
  simp only [Tr.val, vSays]
  repeat' split
  all_goals rfl

def vWhether (x0 : Sem Sh.bool) : Sem shVal :=
  if x0 = true then vTruth 2 else vTruth 1
theorem ok59 : fnChk env11.P 59 Tryz.f59 1 := by refine ⟨?_, ?_, ?_, ?_⟩ <;> kernel_rfl
theorem go59 (x0 : Sem Sh.bool) : run env11 0 (fun _ => { }) (Func.results Tryz.f59).toList 400 (bodyOf Tryz.f59) (initSt (Func.ntmps Tryz.f59) [datum Sh.bool x0] []) =
  Tr.br x0 (Tr.ok (Leaf.ret (AV.agg [AV.int IntKind.i64 (vTruth 2).fst, AV.int IntKind.i64 (vTruth 2).snd.fst, AV.str (vTruth 2).snd.snd]) []))
  (Tr.ok (Leaf.ret (AV.agg [AV.int IntKind.i64 (vTruth 1).fst, AV.int IntKind.i64 (vTruth 1).snd.fst, AV.str (vTruth 1).snd.snd]) [])) := by kernel_rfl
def F59 : FSem := plainT [Sh.bool] [shVal] fun x => (vWhether x.1, ())
theorem FOk59 : FOk env11.P env11.gl 59 F59 := by
  refine FOk_plainT ok59 fun x C hC => ?_
  refine reach_res env11_all env11_mix ok59 (fun id _ => hC id) (go59 x.1) ?_
  simp only [Tr.val, vWhether]
  repeat' split
  all_goals rfl

def cmpI (x0 : Sem shInt) (x1 : Sem shInt) : Sem shInt :=
  if (x0 != x0) = true then if (x1 != x1) = true then 0 else -1
else if (x1 != x1) = true then 1 else if decide (x0 < x1) = true then -1 else if decide (x0 > x1) = true then 1 else 0
theorem ok71 : fnChk env11.P 71 Tryz.f71 2 := by refine ⟨?_, ?_, ?_, ?_⟩ <;> kernel_rfl
theorem go71 (x0 : Sem shInt) (x1 : Sem shInt) : run env11 0 (fun _ => { }) (Func.results Tryz.f71).toList 400 (bodyOf Tryz.f71) (initSt (Func.ntmps Tryz.f71) [datum shInt x0, datum shInt x1] []) =
  Tr.br (x0 != x0) (Tr.br (x1 != x1) (Tr.ok (Leaf.ret (AV.int IntKind.i64 0) [])) (Tr.ok (Leaf.ret (AV.int IntKind.i64 (-1)) [])))
  (Tr.br (x1 != x1) (Tr.ok (Leaf.ret (AV.int IntKind.i64 1) []))
    (Tr.br (decide (x0 < x1)) (Tr.ok (Leaf.ret (AV.int IntKind.i64 (-1)) []))
      (Tr.br (decide (x0 > x1)) (Tr.ok (Leaf.ret (AV.int IntKind.i64 1) [])) (Tr.ok (Leaf.ret (AV.int IntKind.i64 0) []))))) := by kernel_rfl
def F71 : FSem := plainT [shInt, shInt] [shInt] fun x => (cmpI x.1 x.2.1, ())
theorem FOk71 : FOk env11.P env11.gl 71 F71 := by
  refine FOk_plainT ok71 fun x C hC => ?_
  refine reach_res env11_all env11_mix ok71 (fun id _ => hC id) (go71 x.1 x.2.1) ?_
  simp only [Tr.val, cmpI]
  repeat' split
  all_goals rfl

def cmpI2 (x0 : Sem shInt) (x1 : Sem shInt) : Sem shInt :=
  if (x0 != x0) = true then if (x1 != x1) = true then 0 else -1
else if (x1 != x1) = true then 1 else if decide (x0 < x1) = true then -1 else if decide (x0 > x1) = true then 1 else 0
theorem ok72 : fnChk env11.P 72 Tryz.f72 2 := by refine ⟨?_, ?_, ?_, ?_⟩ <;> kernel_rfl
theorem go72 (x0 : Sem shInt) (x1 : Sem shInt) : run env11 0 (fun _ => { }) (Func.results Tryz.f72).toList 400 (bodyOf Tryz.f72) (initSt (Func.ntmps Tryz.f72) [datum shInt x0, datum shInt x1] []) =
  Tr.br (x0 != x0) (Tr.br (x1 != x1) (Tr.ok (Leaf.ret (AV.int IntKind.i64 0) [])) (Tr.ok (Leaf.ret (AV.int IntKind.i64 (-1)) [])))
  (Tr.br (x1 != x1) (Tr.ok (Leaf.ret (AV.int IntKind.i64 1) []))
    (Tr.br (decide (x0 < x1)) (Tr.ok (Leaf.ret (AV.int IntKind.i64 (-1)) []))
      (Tr.br (decide (x0 > x1)) (Tr.ok (Leaf.ret (AV.int IntKind.i64 1) [])) (Tr.ok (Leaf.ret (AV.int IntKind.i64 0) []))))) := by kernel_rfl
def F72 : FSem := plainT [shInt, shInt] [shInt] fun x => (cmpI2 x.1 x.2.1, ())
theorem FOk72 : FOk env11.P env11.gl 72 F72 := by
  refine FOk_plainT ok72 fun x C hC => ?_
  refine reach_res env11_all env11_mix ok72 (fun id _ => hC id) (go72 x.1 x.2.1) ?_
  simp only [Tr.val, cmpI2]
  repeat' split
  all_goals rfl

def cmpS (x0 : Sem Sh.str) (x1 : Sem Sh.str) : Sem shInt :=
  if (!x0 == x0) = true then if (!x1 == x1) = true then 0 else -1
else if (!x1 == x1) = true then 1 else if Op.bytesLess x0 x1 = true then -1 else if (!(Op.bytesLess x0 x1 || x0 == x1)) = true then 1 else 0
theorem ok73 : fnChk env11.P 73 Tryz.f73 2 := by refine ⟨?_, ?_, ?_, ?_⟩ <;> kernel_rfl
theorem go73 (x0 : Sem Sh.str) (x1 : Sem Sh.str) : run env11 0 (fun _ => { }) (Func.results Tryz.f73).toList 400 (bodyOf Tryz.f73) (initSt (Func.ntmps Tryz.f73) [datum Sh.str x0, datum Sh.str x1] []) =
  Tr.br (!x0 == x0) (Tr.br (!x1 == x1) (Tr.ok (Leaf.ret (AV.int IntKind.i64 0) [])) (Tr.ok (Leaf.ret (AV.int IntKind.i64 (-1)) [])))
  (Tr.br (!x1 == x1) (Tr.ok (Leaf.ret (AV.int IntKind.i64 1) []))
    (Tr.br (Op.bytesLess x0 x1) (Tr.ok (Leaf.ret (AV.int IntKind.i64 (-1)) []))
      (Tr.br (!(Op.bytesLess x0 x1 || x0 == x1)) (Tr.ok (Leaf.ret (AV.int IntKind.i64 1) [])) (Tr.ok (Leaf.ret (AV.int IntKind.i64 0) []))))) := by kernel_rfl
def F73 : FSem := plainT [Sh.str, Sh.str] [shInt] fun x => (cmpS x.1 x.2.1, ())
theorem FOk73 : FOk env11.P env11.gl 73 F73 := by
  refine FOk_plainT ok73 fun x C hC => ?_
  refine reach_res env11_all env11_mix ok73 (fun id _ => hC id) (go73 x.1 x.2.1) ?_
  simp only [Tr.val, cmpS]
  repeat' split
  all_goals rfl

noncomputable def env12 : Env := ((((((env11.add 61 F61).add 56 F56).add 59 F59).add 71 F71).add 72 F72).add 73 F73)
theorem env12_all : EnvAll env12 := (EnvAll.addS (EnvAll.addS (EnvAll.addS (EnvAll.addS (EnvAll.addS (EnvAll.addS env11_all (SameE.refl env11) FOk61) ((SameE.refl env11).add _ _) FOk56) (((SameE.refl env11).add _ _).add _ _) FOk59) ((((SameE.refl env11).add _ _).add _ _).add _ _) FOk71) (((((SameE.refl env11).add _ _).add _ _).add _ _).add _ _) FOk72) ((((((SameE.refl env11).add _ _).add _ _).add _ _).add _ _).add _ _) FOk73)
theorem env12_mix : env12.P.follows .mixedOrders = true := (mix_add (mix_add (mix_add (mix_add (mix_add (mix_add env11_mix _ _) _ _) _ _) _ _) _ _) _ _)
end Cad

namespace Cad
open Go Go.Proofs

theorem reach_leaf {E : Env} {C : Ctx} {k : FuncId} {f : Func} {Q : AV → List AO → Prop} {n n0 : Nat} (hE : EnvAll E) (hm : E.P.follows .mixedOrders = true) (hf : fnChk E.P k f n) (hC : ∀ id, n0 ≤ id → C.ρ0 id = none) {keep : Nat → Keep} {fuel : Nat}
    {todo : List Item} {st : St} {t : Tr Leaf} {l : Leaf} (ht : run E n0 keep f.results.toList fuel todo st = t) (h : t.val = some l) (hl : LeafOk E C k Q l) : Reach E C k todo st Q :=
  reach_run hE hm hf hC keep fuel (by rw [ht]; exact Tr.sat_of_val h hl)

def OptOk {α : Type} (Φ : α → Prop) : Option α → Prop
  | some a => Φ a
  | none => False

theorem reach_ok {E : Env} {C : Ctx} {k : FuncId} {f : Func} {Q : AV → List AO → Prop} {n n0 : Nat} (hE : EnvAll E) (hm : E.P.follows .mixedOrders = true) (hf : fnChk E.P k f n) (hC : ∀ id, n0 ≤ id → C.ρ0 id = none) {keep : Nat → Keep} {fuel : Nat}
    {todo : List Item} {st : St} {t : Tr Leaf} (ht : run E n0 keep f.results.toList fuel todo st = t) (h : OptOk (LeafOk E C k Q) t.val) : Reach E C k todo st Q := by
  cases hv : t.val with
  | none => rw [hv] at h; exact h.elim
  | some l => rw [hv] at h; exact reach_leaf hE hm hf hC ht hv h

/-- A fold that may end early. -/
def foldE {α β R : Type} (f : β → Nat → α → β ⊕ R) (fin : β → R) : List α → Nat → β → R
  | [], _, b => fin b
  | x :: r, i, b => match f b i x with
    | .inl b' => foldE f fin r (i + 1) b'
    | .inr y => y

/-- What one round does with the rest of a loop. -/
def RoundOk {E : Env} {C : Ctx} {k : FuncId} {K : List Item} {β R : Type} (st : β → Nat → St) (Q : R → AV → List AO → Prop) (b : β) (i : Nat) : β ⊕ R → Prop
  | .inl b' => ∀ q, Reach E C k K (st b' (i + 1)) q → Reach E C k K (st b i) q
  | .inr y => Reach E C k K (st b i) (Q y)

theorem reach_loop {E : Env} {C : Ctx} {k : FuncId} {K : List Item} {α β R : Type} (l : List α) (st : β → Nat → St) (f : β → Nat → α → β ⊕ R) (fin : β → R) (Q : R → AV → List AO → Prop) (I : β → Nat → Prop)
    (hstep : ∀ b i (hi : i < l.length), I b i → RoundOk (E := E) (C := C) (k := k) (K := K) st Q b i (f b i l[i]) ∧ ∀ b', f b i l[i] = .inl b' → I b' (i + 1))
    (hend : ∀ b, I b l.length → Reach E C k K (st b l.length) (Q (fin b))) : ∀ (m i : Nat) (b : β), l.length - i = m → i ≤ l.length → I b i → Reach E C k K (st b i) (Q (foldE f fin (l.drop i) i b))
  | 0, i, b, hm, hi, hI => by
    have : i = l.length := by omega
    subst this
    rw [List.drop_length]
    exact hend b hI
  | m + 1, i, b, hm, hi, hI => by
    have hlt : i < l.length := by omega
    rw [List.drop_eq_getElem_cons hlt]
    obtain ⟨h1, h2⟩ := hstep b i hlt hI
    simp only [foldE]
    cases hf : f b i l[i] with
    | inl b' =>
      rw [hf] at h1
      exact h1 _ (reach_loop l st f fin Q I hstep hend m (i + 1) b' (by omega) (by omega) (h2 b' hf))
    | inr y =>
      rw [hf] at h1
      exact h1

theorem lt_dec {i n : Nat} (h : i < n) : decide ((i : Int) < (n : Int)) = true := by simpa using h
theorem lt_dec' (n : Nat) : decide ((n : Int) < (n : Int)) = false := by simp
theorem inB_of {i n : Nat} (h : i < n) : inB (i : Int) n = true := by simp [inB, h]

def orI : List Int → Int
  | [] => 0
  | x :: r => if x != 0 then x else orI r

abbrev kp70 : Nat → Keep := fun j => if j = 3 then { slots := [3, 6, 7, 8] } else { }
abbrev s70_3 (i3 : Int) (l6 : List (Sem shInt)) (i7 : Int) (i8 : Int) : St := {
  tmps :=
    [AV.any, AV.any, AV.any, AV.int IntKind.i64 i3, AV.any, AV.any, AV.sl (Sh.int IntKind.i64) l6, AV.int IntKind.i64 i7, AV.int IntKind.i64 i8, AV.any, AV.any,
      AV.any, AV.any, AV.any, AV.any, AV.any, AV.any, AV.any],
  heap := [] }
theorem ok70 : fnChk env12.P 70 Tryz.f70 1 := by refine ⟨?_, ?_, ?_, ?_⟩ <;> kernel_rfl
theorem go70 (k : List (Sem shInt)) : run env12 0 kp70 (Func.results Tryz.f70).toList 400 (bodyOf Tryz.f70) (initSt (Func.ntmps Tryz.f70) [AV.sl shInt k] []) =
  Tr.ok (Leaf.head 3 (headK Tryz.f70 3) (s70_3 0 k (↑k.length) 0)) := by kernel_rfl
theorem on70_3 (i3 : Int) (l6 : List (Sem shInt)) (i7 : Int) (i8 : Int) : run env12 0 kp70 (Func.results Tryz.f70).toList 400 (headK Tryz.f70 3) (s70_3 i3 l6 i7 i8) =
  Tr.br (decide (i8 < i7))
  (Tr.chk (inB i8 l6.length)
    (Tr.br (l6.getD i8.toNat (dflt (Sh.int IntKind.i64)) != i3) (Tr.ok (Leaf.ret (AV.int IntKind.i64 (l6.getD i8.toNat (dflt (Sh.int IntKind.i64)))) []))
      (Tr.ok (Leaf.head 3 (headK Tryz.f70 3) (s70_3 i3 l6 i7 (IntKind.i64.wrap (i8 + 1)))))))
  (Tr.ok (Leaf.ret (AV.int IntKind.i64 i3) [])) := by kernel_rfl

def f70 : Unit → Nat → Int → Unit ⊕ Int := fun _ _ x => if x != 0 then .inr x else .inl ()
theorem fold70 : ∀ (l : List Int) (i : Nat), foldE f70 (fun _ => 0) l i () = orI l
  | [], _ => rfl
  | x :: r, i => by
    simp only [foldE, f70, orI]
    split
    · rename_i h; split at h <;> simp_all [fold70 r (i + 1)]
    · rename_i h; split at h <;> simp_all

def F70 : FSem := plainT [.sl shInt] [shInt] fun x => (orI x.1, ())
theorem FOk70 : FOk env12.P env12.gl 70 F70 := by
  refine FOk_plainT ok70 fun x C hC => ?_
  obtain ⟨l, u⟩ := x
  refine Reach.len 0 shInt l rfl fun hl => ?_
  refine reach_leaf env12_all env12_mix ok70 (fun id _ => hC id) (go70 l) rfl ?_
  have := reach_loop (E := env12) (C := C) (k := 70) (K := headK Tryz.f70 3) l (fun (_ : Unit) i => s70_3 0 l l.length i) f70 (fun _ => (0 : Int)) (fun y r h => resOf h [shInt] r = some (y, ())) (fun _ _ => True)
    (fun b i hi _ => ⟨by
      unfold f70
      split
      · rename_i h
        refine reach_ok env12_all env12_mix ok70 (fun id _ => hC id) (on70_3 _ _ _ _) ?_
        simp only [Tr.val, lt_dec hi, inB_of hi, getD_at l _ hi, h, if_true]
        rfl
      · rename_i h
        intro q hq
        refine reach_ok env12_all env12_mix ok70 (fun id _ => hC id) (on70_3 _ _ _ _) ?_
        simp only [Tr.val, lt_dec hi, inB_of hi, getD_at l _ hi, h, if_true, wrap_add i (by omega)]
        exact hq, fun _ _ => trivial⟩)
    (fun b _ => by
      refine reach_ok env12_all env12_mix ok70 (fun id _ => hC id) (on70_3 _ _ _ _) ?_
      simp only [Tr.val, lt_dec']
      rfl) _ 0 () rfl (by omega) trivial
  rw [fold70] at this
  exact this

def vAlike (x0 : Sem shVal) (x1 : Sem shVal) : Sem Sh.bool :=
  bif (vKnown x0).fst != 0 then (vKnown x0).fst == (vKnown x1).fst else false
theorem ok58 : fnChk env12.P 58 Tryz.f58 2 := by refine ⟨?_, ?_, ?_, ?_⟩ <;> kernel_rfl
theorem go58 (x0 : Sem shVal) (x1 : Sem shVal) : run env12 0 (fun _ => { }) (Func.results Tryz.f58).toList 400 (bodyOf Tryz.f58) (initSt (Func.ntmps Tryz.f58) [datum shVal x0, datum shVal x1] []) =
  Tr.ok (Leaf.ret (AV.bool (bif (vKnown x0).fst != 0 then (vKnown x0).fst == (vKnown x1).fst else false)) []) := by kernel_rfl
def F58 : FSem := plainT [shVal, shVal] [Sh.bool] fun x => (vAlike x.1 x.2.1, ())
theorem FOk58 : FOk env12.P env12.gl 58 F58 := by
  refine FOk_plainT ok58 fun x C hC => ?_
  refine reach_res env12_all env12_mix ok58 (fun id _ => hC id) (go58 x.1 x.2.1) ?_
  simp only [Tr.val, vAlike]
  repeat' split
  all_goals rfl

def vAnd (x0 : Sem shVal) (x1 : Sem shVal) : Sem shVal :=
  if (bif vSays x0 == 1 then true else vSays x1 == 1) = true then vTruth 1
else if (bif vSays x0 == 2 then vSays x1 == 2 else false) = true then vTruth 2 else vTruth 0
theorem ok38 : fnChk env12.P 38 Tryz.f38 2 := by refine ⟨?_, ?_, ?_, ?_⟩ <;> kernel_rfl
theorem go38 (x0 : Sem shVal) (x1 : Sem shVal) : run env12 0 (fun _ => { }) (Func.results Tryz.f38).toList 400 (bodyOf Tryz.f38) (initSt (Func.ntmps Tryz.f38) [datum shVal x0, datum shVal x1] []) =
  Tr.br (bif vSays x0 == 1 then true else vSays x1 == 1)
  (Tr.ok (Leaf.ret (AV.agg [AV.int IntKind.i64 (vTruth 1).fst, AV.int IntKind.i64 (vTruth 1).snd.fst, AV.str (vTruth 1).snd.snd]) []))
  (Tr.br (bif vSays x0 == 2 then vSays x1 == 2 else false)
    (Tr.ok (Leaf.ret (AV.agg [AV.int IntKind.i64 (vTruth 2).fst, AV.int IntKind.i64 (vTruth 2).snd.fst, AV.str (vTruth 2).snd.snd]) []))
    (Tr.ok (Leaf.ret (AV.agg [AV.int IntKind.i64 (vTruth 0).fst, AV.int IntKind.i64 (vTruth 0).snd.fst, AV.str (vTruth 0).snd.snd]) []))) := by kernel_rfl
def F38 : FSem := plainT [shVal, shVal] [shVal] fun x => (vAnd x.1 x.2.1, ())
theorem FOk38 : FOk env12.P env12.gl 38 F38 := by
  refine FOk_plainT ok38 fun x C hC => ?_
  refine reach_res env12_all env12_mix ok38 (fun id _ => hC id) (go38 x.1 x.2.1) ?_
  simp only [Tr.val, vAnd]
  repeat' split
  all_goals rfl

def vOr (x0 : Sem shVal) (x1 : Sem shVal) : Sem shVal :=
  if (bif vSays x0 == 2 then true else vSays x1 == 2) = true then vTruth 2
else if (bif vSays x0 == 1 then vSays x1 == 1 else false) = true then vTruth 1 else vTruth 0
theorem ok39 : fnChk env12.P 39 Tryz.f39 2 := by refine ⟨?_, ?_, ?_, ?_⟩ <;> kernel_rfl
theorem go39 (x0 : Sem shVal) (x1 : Sem shVal) : run env12 0 (fun _ => { }) (Func.results Tryz.f39).toList 400 (bodyOf Tryz.f39) (initSt (Func.ntmps Tryz.f39) [datum shVal x0, datum shVal x1] []) =
  Tr.br (bif vSays x0 == 2 then true else vSays x1 == 2)
  (Tr.ok (Leaf.ret (AV.agg [AV.int IntKind.i64 (vTruth 2).fst, AV.int IntKind.i64 (vTruth 2).snd.fst, AV.str (vTruth 2).snd.snd]) []))
  (Tr.br (bif vSays x0 == 1 then vSays x1 == 1 else false)
    (Tr.ok (Leaf.ret (AV.agg [AV.int IntKind.i64 (vTruth 1).fst, AV.int IntKind.i64 (vTruth 1).snd.fst, AV.str (vTruth 1).snd.snd]) []))
    (Tr.ok (Leaf.ret (AV.agg [AV.int IntKind.i64 (vTruth 0).fst, AV.int IntKind.i64 (vTruth 0).snd.fst, AV.str (vTruth 0).snd.snd]) []))) := by kernel_rfl
def F39 : FSem := plainT [shVal, shVal] [shVal] fun x => (vOr x.1 x.2.1, ())
theorem FOk39 : FOk env12.P env12.gl 39 F39 := by
  refine FOk_plainT ok39 fun x C hC => ?_
  refine reach_res env12_all env12_mix ok39 (fun id _ => hC id) (go39 x.1 x.2.1) ?_
  simp only [Tr.val, vOr]
  repeat' split
  all_goals rfl

def vNot (x0 : Sem shVal) : Sem shVal :=
  if (vSays x0 == 2) = true then vTruth 1 else if (vSays x0 == 1) = true then vTruth 2 else vTruth 0
theorem ok41 : fnChk env12.P 41 Tryz.f41 1 := by refine ⟨?_, ?_, ?_, ?_⟩ <;> kernel_rfl
theorem go41 (x0 : Sem shVal) : run env12 0 (fun _ => { }) (Func.results Tryz.f41).toList 400 (bodyOf Tryz.f41) (initSt (Func.ntmps Tryz.f41) [datum shVal x0] []) =
  Tr.br (vSays x0 == 2) (Tr.ok (Leaf.ret (AV.agg [AV.int IntKind.i64 (vTruth 1).fst, AV.int IntKind.i64 (vTruth 1).snd.fst, AV.str (vTruth 1).snd.snd]) []))
  (Tr.br (vSays x0 == 1) (Tr.ok (Leaf.ret (AV.agg [AV.int IntKind.i64 (vTruth 2).fst, AV.int IntKind.i64 (vTruth 2).snd.fst, AV.str (vTruth 2).snd.snd]) []))
    (Tr.ok (Leaf.ret (AV.agg [AV.int IntKind.i64 (vTruth 0).fst, AV.int IntKind.i64 (vTruth 0).snd.fst, AV.str (vTruth 0).snd.snd]) []))) := by kernel_rfl
def F41 : FSem := plainT [shVal] [shVal] fun x => (vNot x.1, ())
theorem FOk41 : FOk env12.P env12.gl 41 F41 := by
  refine FOk_plainT ok41 fun x C hC => ?_
  refine reach_res env12_all env12_mix ok41 (fun id _ => hC id) (go41 x.1) ?_
  simp only [Tr.val, vNot]
  repeat' split
  all_goals rfl

def vIsNull (x0 : Sem shVal) : Sem shVal :=
  vWhether ((vKnown x0).fst == 0)
theorem ok47 : fnChk env12.P 47 Tryz.f47 1 := by refine ⟨?_, ?_, ?_, ?_⟩ <;> kernel_rfl
theorem go47 (x0 : Sem shVal) : run env12 0 (fun _ => { }) (Func.results Tryz.f47).toList 400 (bodyOf Tryz.f47) (initSt (Func.ntmps Tryz.f47) [datum shVal x0] []) =
  Tr.ok
  (Leaf.ret
    (AV.agg
      [AV.int IntKind.i64 (vWhether ((vKnown x0).fst == 0)).fst, AV.int IntKind.i64 (vWhether ((vKnown x0).fst == 0)).snd.fst,
        AV.str (vWhether ((vKnown x0).fst == 0)).snd.snd])
    []) := by kernel_rfl
def F47 : FSem := plainT [shVal] [shVal] fun x => (vIsNull x.1, ())
theorem FOk47 : FOk env12.P env12.gl 47 F47 := by
  refine FOk_plainT ok47 fun x C hC => ?_
  refine reach_res env12_all env12_mix ok47 (fun id _ => hC id) (go47 x.1) ?_
  simp only [Tr.val, vIsNull]
  repeat' split
  all_goals rfl

noncomputable def env13 : Env := ((((((env12.add 70 F70).add 58 F58).add 38 F38).add 39 F39).add 41 F41).add 47 F47)
theorem env13_all : EnvAll env13 := (EnvAll.addS (EnvAll.addS (EnvAll.addS (EnvAll.addS (EnvAll.addS (EnvAll.addS env12_all (SameE.refl env12) FOk70) ((SameE.refl env12).add _ _) FOk58) (((SameE.refl env12).add _ _).add _ _) FOk38) ((((SameE.refl env12).add _ _).add _ _).add _ _) FOk39) (((((SameE.refl env12).add _ _).add _ _).add _ _).add _ _) FOk41) ((((((SameE.refl env12).add _ _).add _ _).add _ _).add _ _).add _ _) FOk47)
theorem env13_mix : env13.P.follows .mixedOrders = true := (mix_add (mix_add (mix_add (mix_add (mix_add (mix_add env12_mix _ _) _ _) _ _) _ _) _ _) _ _)
end Cad

namespace Cad
open Go Go.Proofs

def vOrder (x0 : Sem shVal) (x1 : Sem shVal) : Sem shInt :=
  orI [cmpI (vKnown x0).fst (vKnown x1).fst, cmpI2 (vKnown x0).snd.fst (vKnown x1).snd.fst, cmpS (vKnown x0).snd.snd (vKnown x1).snd.snd]
theorem ok60 : fnChk env13.P 60 Tryz.f60 2 := by refine ⟨?_, ?_, ?_, ?_⟩ <;> kernel_rfl
theorem go60 (x0 : Sem shVal) (x1 : Sem shVal) : run env13 0 (fun _ => { }) (Func.results Tryz.f60).toList 400 (bodyOf Tryz.f60) (initSt (Func.ntmps Tryz.f60) [datum shVal x0, datum shVal x1] []) =
  Tr.ok
  (Leaf.ret
    (AV.int IntKind.i64
      (orI [cmpI (vKnown x0).fst (vKnown x1).fst, cmpI2 (vKnown x0).snd.fst (vKnown x1).snd.fst, cmpS (vKnown x0).snd.snd (vKnown x1).snd.snd]))
    []) := by kernel_rfl
def F60 : FSem := plainT [shVal, shVal] [shInt] fun x => (vOrder x.1 x.2.1, ())
theorem FOk60 : FOk env13.P env13.gl 60 F60 := by
  refine FOk_plainT ok60 fun x C hC => ?_
  refine reach_res env13_all env13_mix ok60 (fun id _ => hC id) (go60 x.1 x.2.1) ?_
  simp only [Tr.val, vOrder]
  repeat' split
  all_goals rfl

def vEqual (x0 : Sem shVal) (x1 : Sem shVal) : Sem shVal :=
  if (!vAlike x0 x1) = true then (0, 0, []) else vWhether (x0.fst == x1.fst && (x0.snd.fst == x1.snd.fst && (x0.snd.snd == x1.snd.snd && true)))
theorem ok42 : fnChk env13.P 42 Tryz.f42 2 := by refine ⟨?_, ?_, ?_, ?_⟩ <;> kernel_rfl
theorem go42 (x0 : Sem shVal) (x1 : Sem shVal) : run env13 0 (fun _ => { }) (Func.results Tryz.f42).toList 400 (bodyOf Tryz.f42) (initSt (Func.ntmps Tryz.f42) [datum shVal x0, datum shVal x1] []) =
  Tr.br (!vAlike x0 x1) (Tr.ok (Leaf.ret (AV.agg [AV.int IntKind.i64 0, AV.int IntKind.i64 0, AV.str []]) []))
  (Tr.ok
    (Leaf.ret
      (AV.agg
        [AV.int IntKind.i64 (vWhether (x0.fst == x1.fst && (x0.snd.fst == x1.snd.fst && (x0.snd.snd == x1.snd.snd && true)))).fst,
          AV.int IntKind.i64 (vWhether (x0.fst == x1.fst && (x0.snd.fst == x1.snd.fst && (x0.snd.snd == x1.snd.snd && true)))).snd.fst,
          AV.str (vWhether (x0.fst == x1.fst && (x0.snd.fst == x1.snd.fst && (x0.snd.snd == x1.snd.snd && true)))).snd.snd])
      [])) := by kernel_rfl
def F42 : FSem := plainT [shVal, shVal] [shVal] fun x => (vEqual x.1 x.2.1, ())
theorem FOk42 : FOk env13.P env13.gl 42 F42 := by
  refine FOk_plainT ok42 fun x C hC => ?_
  refine reach_res env13_all env13_mix ok42 (fun id _ => hC id) (go42 x.1 x.2.1) ?_
  simp only [Tr.val, vEqual]
  repeat' split
  all_goals rfl

def vPlus (x0 : Sem shVal) (x1 : Sem shVal) : Sem shVal :=
  if (bif !vAlike x0 x1 then true else x0.fst != 1) = true then (0, 0, [])
else
  if
      (bif decide (x1.snd.fst > 0) then
          bif decide (IntKind.i64.wrap (x0.snd.fst + x1.snd.fst) < x0.snd.fst) then true
          else bif decide (x1.snd.fst < 0) then decide (IntKind.i64.wrap (x0.snd.fst + x1.snd.fst) > x0.snd.fst) else false
        else bif decide (x1.snd.fst < 0) then decide (IntKind.i64.wrap (x0.snd.fst + x1.snd.fst) > x0.snd.fst) else false) =
        true then
    (0, 0, [])
  else (1, IntKind.i64.wrap (x0.snd.fst + x1.snd.fst), [])
theorem ok44 : fnChk env13.P 44 Tryz.f44 2 := by refine ⟨?_, ?_, ?_, ?_⟩ <;> kernel_rfl
theorem go44 (x0 : Sem shVal) (x1 : Sem shVal) : run env13 0 (fun _ => { }) (Func.results Tryz.f44).toList 400 (bodyOf Tryz.f44) (initSt (Func.ntmps Tryz.f44) [datum shVal x0, datum shVal x1] []) =
  Tr.br (bif !vAlike x0 x1 then true else x0.fst != 1) (Tr.ok (Leaf.ret (AV.agg [AV.int IntKind.i64 0, AV.int IntKind.i64 0, AV.str []]) []))
  (Tr.br
    (bif decide (x1.snd.fst > 0) then
      bif decide (IntKind.i64.wrap (x0.snd.fst + x1.snd.fst) < x0.snd.fst) then true
      else bif decide (x1.snd.fst < 0) then decide (IntKind.i64.wrap (x0.snd.fst + x1.snd.fst) > x0.snd.fst) else false
    else bif decide (x1.snd.fst < 0) then decide (IntKind.i64.wrap (x0.snd.fst + x1.snd.fst) > x0.snd.fst) else false)
    (Tr.ok (Leaf.ret (AV.agg [AV.int IntKind.i64 0, AV.int IntKind.i64 0, AV.str []]) []))
    (Tr.ok (Leaf.ret (AV.agg [AV.int IntKind.i64 1, AV.int IntKind.i64 (IntKind.i64.wrap (x0.snd.fst + x1.snd.fst)), AV.str []]) []))) := by kernel_rfl
def F44 : FSem := plainT [shVal, shVal] [shVal] fun x => (vPlus x.1 x.2.1, ())
theorem FOk44 : FOk env13.P env13.gl 44 F44 := by
  refine FOk_plainT ok44 fun x C hC => ?_
  refine reach_res env13_all env13_mix ok44 (fun id _ => hC id) (go44 x.1 x.2.1) ?_
  simp only [Tr.val, vPlus]
  repeat' split
  all_goals rfl

def vMinus (x0 : Sem shVal) (x1 : Sem shVal) : Sem shVal :=
  if (bif !vAlike x0 x1 then true else x0.fst != 1) = true then (0, 0, [])
else
  if
      (bif decide (x1.snd.fst > 0) then
          bif decide (IntKind.i64.wrap (x0.snd.fst - x1.snd.fst) > x0.snd.fst) then true
          else bif decide (x1.snd.fst < 0) then decide (IntKind.i64.wrap (x0.snd.fst - x1.snd.fst) < x0.snd.fst) else false
        else bif decide (x1.snd.fst < 0) then decide (IntKind.i64.wrap (x0.snd.fst - x1.snd.fst) < x0.snd.fst) else false) =
        true then
    (0, 0, [])
  else (1, IntKind.i64.wrap (x0.snd.fst - x1.snd.fst), [])
theorem ok45 : fnChk env13.P 45 Tryz.f45 2 := by refine ⟨?_, ?_, ?_, ?_⟩ <;> kernel_rfl
theorem go45 (x0 : Sem shVal) (x1 : Sem shVal) : run env13 0 (fun _ => { }) (Func.results Tryz.f45).toList 400 (bodyOf Tryz.f45) (initSt (Func.ntmps Tryz.f45) [datum shVal x0, datum shVal x1] []) =
  Tr.br (bif !vAlike x0 x1 then true else x0.fst != 1) (Tr.ok (Leaf.ret (AV.agg [AV.int IntKind.i64 0, AV.int IntKind.i64 0, AV.str []]) []))
  (Tr.br
    (bif decide (x1.snd.fst > 0) then
      bif decide (IntKind.i64.wrap (x0.snd.fst - x1.snd.fst) > x0.snd.fst) then true
      else bif decide (x1.snd.fst < 0) then decide (IntKind.i64.wrap (x0.snd.fst - x1.snd.fst) < x0.snd.fst) else false
    else bif decide (x1.snd.fst < 0) then decide (IntKind.i64.wrap (x0.snd.fst - x1.snd.fst) < x0.snd.fst) else false)
    (Tr.ok (Leaf.ret (AV.agg [AV.int IntKind.i64 0, AV.int IntKind.i64 0, AV.str []]) []))
    (Tr.ok (Leaf.ret (AV.agg [AV.int IntKind.i64 1, AV.int IntKind.i64 (IntKind.i64.wrap (x0.snd.fst - x1.snd.fst)), AV.str []]) []))) := by kernel_rfl
def F45 : FSem := plainT [shVal, shVal] [shVal] fun x => (vMinus x.1 x.2.1, ())
theorem FOk45 : FOk env13.P env13.gl 45 F45 := by
  refine FOk_plainT ok45 fun x C hC => ?_
  refine reach_res env13_all env13_mix ok45 (fun id _ => hC id) (go45 x.1 x.2.1) ?_
  simp only [Tr.val, vMinus]
  repeat' split
  all_goals rfl

def vNot2 (x0 : Sem shVal) (x1 : Sem shVal) : Sem shVal :=
  vNot x0
theorem ok40 : fnChk env13.P 40 Tryz.f40 2 := by refine ⟨?_, ?_, ?_, ?_⟩ <;> kernel_rfl
theorem go40 (x0 : Sem shVal) (x1 : Sem shVal) : run env13 0 (fun _ => { }) (Func.results Tryz.f40).toList 400 (bodyOf Tryz.f40) (initSt (Func.ntmps Tryz.f40) [datum shVal x0, datum shVal x1] []) =
  Tr.ok (Leaf.ret (AV.agg [AV.int IntKind.i64 (vNot x0).fst, AV.int IntKind.i64 (vNot x0).snd.fst, AV.str (vNot x0).snd.snd]) []) := by kernel_rfl
def F40 : FSem := plainT [shVal, shVal] [shVal] fun x => (vNot2 x.1 x.2.1, ())
theorem FOk40 : FOk env13.P env13.gl 40 F40 := by
  refine FOk_plainT ok40 fun x C hC => ?_
  refine reach_res env13_all env13_mix ok40 (fun id _ => hC id) (go40 x.1 x.2.1) ?_
  simp only [Tr.val, vNot2]
  repeat' split
  all_goals rfl

def vNull2 (x0 : Sem shVal) (x1 : Sem shVal) : Sem shVal :=
  vIsNull x0
theorem ok46 : fnChk env13.P 46 Tryz.f46 2 := by refine ⟨?_, ?_, ?_, ?_⟩ <;> kernel_rfl
theorem go46 (x0 : Sem shVal) (x1 : Sem shVal) : run env13 0 (fun _ => { }) (Func.results Tryz.f46).toList 400 (bodyOf Tryz.f46) (initSt (Func.ntmps Tryz.f46) [datum shVal x0, datum shVal x1] []) =
  Tr.ok (Leaf.ret (AV.agg [AV.int IntKind.i64 (vIsNull x0).fst, AV.int IntKind.i64 (vIsNull x0).snd.fst, AV.str (vIsNull x0).snd.snd]) []) := by kernel_rfl
def F46 : FSem := plainT [shVal, shVal] [shVal] fun x => (vNull2 x.1 x.2.1, ())
theorem FOk46 : FOk env13.P env13.gl 46 F46 := by
  refine FOk_plainT ok46 fun x C hC => ?_
  refine reach_res env13_all env13_mix ok46 (fun id _ => hC id) (go46 x.1 x.2.1) ?_
  simp only [Tr.val, vNull2]
  repeat' split
  all_goals rfl

noncomputable def env14 : Env := ((((((env13.add 60 F60).add 42 F42).add 44 F44).add 45 F45).add 40 F40).add 46 F46)
theorem env14_all : EnvAll env14 := (EnvAll.addS (EnvAll.addS (EnvAll.addS (EnvAll.addS (EnvAll.addS (EnvAll.addS env13_all (SameE.refl env13) FOk60) ((SameE.refl env13).add _ _) FOk42) (((SameE.refl env13).add _ _).add _ _) FOk44) ((((SameE.refl env13).add _ _).add _ _).add _ _) FOk45) (((((SameE.refl env13).add _ _).add _ _).add _ _).add _ _) FOk40) ((((((SameE.refl env13).add _ _).add _ _).add _ _).add _ _).add _ _) FOk46)
theorem env14_mix : env14.P.follows .mixedOrders = true := (mix_add (mix_add (mix_add (mix_add (mix_add (mix_add env13_mix _ _) _ _) _ _) _ _) _ _) _ _)
end Cad

namespace Cad
open Go Go.Proofs

def vLess (x0 : Sem shVal) (x1 : Sem shVal) : Sem shVal :=
  if (!vAlike x0 x1) = true then (0, 0, []) else vWhether (decide (vOrder x0 x1 < 0))
theorem ok43 : fnChk env14.P 43 Tryz.f43 2 := by refine ⟨?_, ?_, ?_, ?_⟩ <;> kernel_rfl
theorem go43 (x0 : Sem shVal) (x1 : Sem shVal) : run env14 0 (fun _ => { }) (Func.results Tryz.f43).toList 400 (bodyOf Tryz.f43) (initSt (Func.ntmps Tryz.f43) [datum shVal x0, datum shVal x1] []) =
  Tr.br (!vAlike x0 x1) (Tr.ok (Leaf.ret (AV.agg [AV.int IntKind.i64 0, AV.int IntKind.i64 0, AV.str []]) []))
  (Tr.ok
    (Leaf.ret
      (AV.agg
        [AV.int IntKind.i64 (vWhether (decide (vOrder x0 x1 < 0))).fst, AV.int IntKind.i64 (vWhether (decide (vOrder x0 x1 < 0))).snd.fst,
          AV.str (vWhether (decide (vOrder x0 x1 < 0))).snd.snd])
      [])) := by kernel_rfl
def F43 : FSem := plainT [shVal, shVal] [shVal] fun x => (vLess x.1 x.2.1, ())
theorem FOk43 : FOk env14.P env14.gl 43 F43 := by
  refine FOk_plainT ok43 fun x C hC => ?_
  refine reach_res env14_all env14_mix ok43 (fun id _ => hC id) (go43 x.1 x.2.1) ?_
  simp only [Tr.val, vLess]
  repeat' split
  all_goals rfl

def vFew (x0 : Sem shVal) : Sem shVal :=
  if decide ((↑(List.length x0.snd.snd) : Int) > 60) = true then (x0.fst, x0.snd.fst, List.take (Int.toNat 60 - Int.toNat 0) (List.drop (Int.toNat 0) x0.snd.snd))
else x0
def vFewC (x0 : Sem shVal) : Bool :=
  bif decide ((↑(List.length x0.snd.snd) : Int) > 60) then decide (0 ≤ 0) && decide (0 ≤ 60) && decide (60 ≤ (↑(List.length x0.snd.snd) : Int)) else true
theorem ok14 : fnChk env14.P 14 Tryz.f14 1 := by refine ⟨?_, ?_, ?_, ?_⟩ <;> kernel_rfl
theorem go14 (x0 : Sem shVal) : run env14 0 (fun _ => { }) (Func.results Tryz.f14).toList 400 (bodyOf Tryz.f14) (initSt (Func.ntmps Tryz.f14) [datum shVal x0] []) =
  Tr.br (decide ((↑(List.length x0.snd.snd) : Int) > 60))
  (Tr.chk (decide (0 ≤ 0) && decide (0 ≤ 60) && decide (60 ≤ (↑(List.length x0.snd.snd) : Int)))
    (Tr.ok
      (Leaf.ret
        (AV.agg
          [AV.int IntKind.i64 x0.fst, AV.int IntKind.i64 x0.snd.fst, AV.str (List.take (Int.toNat 60 - Int.toNat 0) (List.drop (Int.toNat 0) x0.snd.snd))])
        [])))
  (Tr.ok (Leaf.ret (AV.agg [AV.int IntKind.i64 x0.fst, AV.int IntKind.i64 x0.snd.fst, AV.str x0.snd.snd]) [])) := by kernel_rfl
def F14 : FSem := plainC [shVal] [shVal] (fun x => vFewC x.1) fun x => (vFew x.1, ())
theorem FOk14 : FOk env14.P env14.gl 14 F14 := by
  refine FOk_plainC ok14 fun x hx C hC => ?_
  refine reach_res env14_all env14_mix ok14 (fun id _ => hC id) (go14 x.1) ?_
  simp only [vFewC, Bool.cond_eq_ite] at hx
  simp only [Tr.val, vFew]
  repeat' split
  all_goals first | rfl | simp_all

def sFew (x0 : Sem Sh.str) : Sem Sh.str :=
  if decide ((↑(List.length x0) : Int) > 20) = true then List.take (Int.toNat 20 - Int.toNat 0) (List.drop (Int.toNat 0) x0) else x0
def sFewC (x0 : Sem Sh.str) : Bool :=
  bif decide ((↑(List.length x0) : Int) > 20) then decide (0 ≤ 0) && decide (0 ≤ 20) && decide (20 ≤ (↑(List.length x0) : Int)) else true
theorem ok12 : fnChk env14.P 12 Tryz.f12 1 := by refine ⟨?_, ?_, ?_, ?_⟩ <;> kernel_rfl
theorem go12 (x0 : Sem Sh.str) : run env14 0 (fun _ => { }) (Func.results Tryz.f12).toList 400 (bodyOf Tryz.f12) (initSt (Func.ntmps Tryz.f12) [datum Sh.str x0] []) =
  Tr.br (decide ((↑(List.length x0) : Int) > 20))
  (Tr.chk (decide (0 ≤ 0) && decide (0 ≤ 20) && decide (20 ≤ (↑(List.length x0) : Int)))
    (Tr.ok (Leaf.ret (AV.str (List.take (Int.toNat 20 - Int.toNat 0) (List.drop (Int.toNat 0) x0))) [])))
  (Tr.ok (Leaf.ret (AV.str x0) [])) := by kernel_rfl
def F12 : FSem := plainC [Sh.str] [Sh.str] (fun x => sFewC x.1) fun x => (sFew x.1, ())
theorem FOk12 : FOk env14.P env14.gl 12 F12 := by
  refine FOk_plainC ok12 fun x hx C hC => ?_
  refine reach_res env14_all env14_mix ok12 (fun id _ => hC id) (go12 x.1) ?_
  simp only [sFewC, Bool.cond_eq_ite] at hx
  simp only [Tr.val, sFew]
  repeat' split
  all_goals first | rfl | simp_all

noncomputable def F79 : FSem := liftF (List.replicate 2 none) (autoG env14 Tryz.f79 (List.replicate 2 none))
theorem FOk79 : FOk env14.P env14.gl 79 F79 := FOk_auto _ env14_all env14_mix (by refine ⟨?_, ?_, ?_, ?_⟩ <;> kernel_rfl)

noncomputable def F18 : FSem := liftF (List.replicate 2 none) (autoG env14 Tryz.f18 (List.replicate 2 none))
theorem FOk18 : FOk env14.P env14.gl 18 F18 := FOk_auto _ env14_all env14_mix (by refine ⟨?_, ?_, ?_, ?_⟩ <;> kernel_rfl)

noncomputable def env15 : Env := (((((env14.add 43 F43).add 14 F14).add 12 F12).add 79 F79).add 18 F18)
theorem env15_all : EnvAll env15 := (EnvAll.addS (EnvAll.addS (EnvAll.addS (EnvAll.addS (EnvAll.addS env14_all (SameE.refl env14) FOk43) ((SameE.refl env14).add _ _) FOk14) (((SameE.refl env14).add _ _).add _ _) FOk12) ((((SameE.refl env14).add _ _).add _ _).add _ _) FOk79) (((((SameE.refl env14).add _ _).add _ _).add _ _).add _ _) FOk18)
theorem env15_mix : env15.P.follows .mixedOrders = true := (mix_add (mix_add (mix_add (mix_add (mix_add env14_mix _ _) _ _) _ _) _ _) _ _)
end Cad

