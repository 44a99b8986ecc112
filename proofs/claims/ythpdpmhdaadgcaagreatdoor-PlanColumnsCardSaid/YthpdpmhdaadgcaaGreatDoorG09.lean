/- The library's functions. Functions from plain data to plain data, where a guard holds; recursion. Values: what may be. Values: what they say. Loops; values in order. Values: order, equal, sums. Values: less; bounded ones. Bounded rows, bounded columns. What is total; lists of types. Names, places. Names, types. Expressions: their types. -/
import Derived.Test.YthpdpmhdaadgcaaGreatDoorG07
import Derived.Test.YthpdpmhdaadgcaaGreatDoorG08
import Derived.Test.YthpdpmhdaadgcaaGreatDoorG06
namespace Cad
open Go Go.Proofs Go.RowKit Go.Lib

theorem Ext.below {w w' : World} (h : Below w.heap.size w w') : Ext w w' :=
 ⟨h.size, h.os, h.output, h.tape, fun a ha => World.frozen?_of_block (h.block a.block ha)⟩

theorem post_below {E : Env} {C : Ctx} {w w' : World} {U : Nat → Prop} {r : AV} {v : Value} {h0 : List AO} {ρ : Nat → Option Value} (hH : HpOk C w U ρ (fun j => h0.getD j .dead)) (hnew : ∀ id, h0.length ≤ id → ρ id = none)
  (hr0 : ∀ id v, C.ρ0 id = some v → ρ id = some v) (hW : Wd E.gl C w U) (hb : Below w.heap.size w w') (hr : Rv w' U ρ r v) : Post E C (fun r' h => (r', h) = (r, h0)) (.returned v) w' := by
 have hk : ∀ b, b < w.heap.size → w'.heap[b]? = w.heap[b]? := hb.block
 refine ⟨v, r, h0, U, ρ, rfl, rfl, hr, ⟨fun id => ?_, hH.inj, hH.blk⟩, hnew, hr0, ⟨hW.ext.trans (Ext.below hb), fun b hb' hn => ?_, fun b hu => Nat.lt_of_lt_of_le (hW.ub b hu) hb.size, hW.u1, hW.u2, fun g => ?_⟩⟩
 ·exact (hH.ob id).mono hb.size (fun b hb' _ => hk b hb') (fun _ _ h => h) (fun _ _ h => h) (fun b ho => ⟨hk b ((hH.ob id).inU ho).2, ((hH.ob id).inU ho).1⟩)
 ·rw [hk b (Nat.lt_of_lt_of_le hb' hW.ext.sz)]; exact hW.same b hb' hn
 ·exact (hW.gl g).mono hb.size (fun b hb' _ => hk b hb') (fun _ _ h => h) (fun _ _ h => h)

noncomputable def env9 : Env := env8.aut 197 Tryz.f197 1
theorem ok35 : fnChk env8.P 197 Tryz.f197 1 := by refine ⟨?_, ?_, ?_, ?_⟩ <;> kernel_rfl
theorem env9_all : EnvAll env9 := aut_all env8_all mixed0 ok35

def oddC (c : Int) : Bool := bif decide (c < 32) then true else decide (c > 126)

theorem go35 (c : Int) : ((liftF (List.replicate 1 none) (autoG env8 Tryz.f197 (List.replicate 1 none))) [.int .i32 c] (fun _ => .dead) 0).val = some { val := .bool (oddC c) } := by kernel_rfl

theorem pred35 (w : World) (U : Nat → Prop) (hgl : GlOk env8.gl w U) (hub : ∀ b, U b → b < w.heap.size) : PredGrows Tryz.prog 197 #[] (fun r => oddC r) w := by
 intro W x hx hB
 have hF : FOk env8.P env8.gl 197 (liftF (List.replicate 1 none) (autoG env8 Tryz.f197 (List.replicate 1 none))) := FOk_auto _ env8_all mixed0 ok35
 have hr : RvL W U (fun _ => none) [.int .i32 (x : Int)] [.int .i32 (x : Int)] := by
  refine ⟨rfl, fun j c v hc hv => ?_⟩
  cases j with
  | zero =>
   simp at hc hv; subst hc; subst hv
   refine .int _ _ ⟨?_, ?_⟩
   ·show (-2147483648 : Int) ≤ x; omega
   ·show (x : Int) ≤ 2147483647; omega
  | succ j => simp at hc
 have := (hF.calls W U (fun _ => none) (fun _ => .dead) 0 [.int .i32 (x : Int)] [.int .i32 (x : Int)] _ [] (go35 x) hr (fun b hb => Nat.lt_of_lt_of_le (hub b hb) hB.size) (fun g => (hgl g).mono hB.size (fun b hb _ => hB.block b hb) (fun _ _ h => h) (fun _ _ h => h)) ⟨by simp, by simp⟩ (by simp [AV.idsL, AV.ids]) (by simp) (by simp)).1
 refine this.mono ?_
 rintro e w' ⟨v, U', ρ', rfl, hef⟩
 have hv := hef.val
 cases hv
 exact ⟨rfl, ⟨hef.ext.os, hef.ext.tape, hef.ext.out, hef.ext.sz, fun b hb => hef.same b hb (by simp)⟩⟩

def oddAt (s : Str) : Int := Lib.idxFunc (fun r => oddC r) true ⟨s.toArray⟩

def G36 : GSem [some .str, none] := fun x h => match x, h with
 | (s, .clo (.func 197) [] [], _), [] => .ok (.int .i64 (oddAt s), [])
 | _, _ => .err

theorem eg35 : Go.Proofs.Enters Tryz.prog 197 := by
  cases hb : Tryz.f197.body with
  | none => have : Tryz.f197.body.isNone = false := by kernel_rfl
            rw [hb] at this; cases this
  | some c => exact Go.Proofs.enters_of (fn := Tryz.f197) (by kernel_rfl) (by kernel_rfl) hb

theorem FOk36 : FOk env9.P env9.gl 198 (liftF [some .str, none] G36) := by
 refine FOk_calls ⟨Tryz.f198, by kernel_rfl, by kernel_rfl, by kernel_rfl⟩ fun x h0 res hx => ?_
 unfold G36 at hx
 split at hx
 ·rename_i s u
  simp only [Tr.val_ok, Option.some.injEq] at hx
  subst hx
  intro C w U ρ vals _ hr hH hnew hr0 hW
  have hl := hr.len
  match vals, hl, hr with
  | [v1, v2], _, hr =>
   have h1 := hr.rv 0 (.str s) v1 rfl rfl
   have h2 := hr.rv 1 (.clo (.func 197) [] []) v2 rfl rfl
   cases h1 with
   | str _ hs =>
   cases h2 with
   | clo _ _ _ vf vc hf hc _ _ =>
   have hf' : vf = [] := List.eq_nil_of_length_eq_zero hf.symm
   have hc' : vc = [] := List.eq_nil_of_length_eq_zero hc.symm
   subst hf'; subst hc'
   have := Tryz.strings_IndexFunc_grows 197 #[] eg35 (fun r => oddC r) ⟨s.toArray⟩ w (pred35 w U hW.gl hW.ub)
   refine this.mono ?_
   rintro e w' ⟨rfl, hb⟩
   refine post_below hH hnew hr0 hW hb (.int _ _ ?_)
   have hrg := Lib.idxFunc_range (fun r => oddC r) true ⟨s.toArray⟩
   have hsz : (⟨s.toArray⟩ : ByteArray).size = s.length := by simp [ByteArray.size]
   have hm : maxStr = 9223372036854775807 := rfl
   rw [hsz] at hrg
   change oddAt s = -1 ∨ (0 ≤ oddAt s ∧ oddAt s < s.length) at hrg
   refine ⟨?_, ?_⟩
   ·show (-9223372036854775808 : Int) ≤ _; omega
   ·show _ ≤ (9223372036854775807 : Int); omega
 ·simp at hx

noncomputable def env10 : Env := env9.add 198 (liftF [some .str, none] G36)
theorem env10_all : EnvAll env10 := env9_all.add FOk36
theorem env10_mix : env10.P.follows .mixedOrders = true := mixed0
open Go

def plainCG (ks outs : List Sh) (c : HArgs (ks.map some) → Bool) (g : HArgs (ks.map some) → HArgs (outs.map some)) : GSem (ks.map some) := fun x h => match h with
 | [] => .chk (c x) (.ok (resAV outs (g x), []))
 | _ => .err

def plainC (ks outs : List Sh) (c : HArgs (ks.map some) → Bool) (g : HArgs (ks.map some) → HArgs (outs.map some)) : FSem := liftF (ks.map some) (plainCG ks outs c g)

theorem FOk_plainC {E : Env} {k : FuncId} {f : Func} {ks outs : List Sh} {c : HArgs (ks.map some) → Bool} {g : HArgs (ks.map some) → HArgs (outs.map some)} (hf : fnChk E.P k f ks.length)
  (h : ∀ x, c x = true → ∀ C : Ctx, (∀ id, C.ρ0 id = none) → Reach E C k (bodyOf f) (initSt f.ntmps (avs (ks.map some) x) []) (fun r h => resOf h outs r = some (g x))) : FOk E.P E.gl k (plainC ks outs c g) := by
 refine FOk_of (by simpa using hf) fun x h0 res hx C hC => ?_
 unfold plainCG at hx
 split at hx
 ·simp only [Tr.val] at hx
  split at hx
  ·rename_i hc
   simp only [Option.some.injEq] at hx
   subst hx
   exact Reach.plain (fun id => hC id (by simp)) (h x hc C (fun id => hC id (by simp)))
  ·simp at hx
 ·simp at hx

theorem FOk_any {P : Program} {gl : Nat → AV} {k : FuncId} {kinds : List (Option Sh)} {ι : Type} [Nonempty ι] {G : GSem kinds} {Gs : ι → GSem kinds} (h : ∀ i, FOk P gl k (liftF kinds (Gs i)))
  (hg : ∀ x h0 res, (G x h0).val = some res → ∃ i, (Gs i x h0).val = some res) : FOk P gl k (liftF kinds G) := by
 refine ⟨(h (Classical.choice inferInstance)).fn, ?_⟩
 intro w U ρ hp n args vals f fp hv
 have : ∃ i, (liftF kinds (Gs i) args hp n).val = some f := by
  unfold liftF at hv ⊢
  split at hv
  ·rename_i ps hps
   simp only at hv ⊢
   split at hv
   ·rename_i hcond
    split at hv
    ·rename_i xs hxs
     simp only [Tr.val_bind, Option.bind_eq_some_iff] at hv
     obtain ⟨res, h1, h2⟩ := hv
     obtain ⟨i, hi⟩ := hg _ _ _ h1
     exact ⟨i, by simp only [hcond, if_true, Tr.val_bind, Option.bind_eq_some_iff]; exact ⟨res, hi, h2⟩⟩
    ·simp at hv
   ·simp at hv
  ·simp at hv
 obtain ⟨i, hi⟩ := this
 exact (h i).calls w U ρ hp n args vals f fp hi

def plainTG (ks outs : List Sh) (g : HArgs (ks.map some) → HArgs (outs.map some)) : GSem (ks.map some) := fun x h => match h with
 | [] => .ok (resAV outs (g x), [])
 | _ => .err

def plainT (ks outs : List Sh) (g : HArgs (ks.map some) → HArgs (outs.map some)) : FSem := liftF (ks.map some) (plainTG ks outs g)

theorem FOk_T {P : Program} {gl : Nat → AV} {k : FuncId} {ks outs : List Sh} {g : HArgs (ks.map some) → HArgs (outs.map some)} (h : FOk P gl k (plainC ks outs (fun _ => true) g)) : FOk P gl k (plainT ks outs g) := by
 refine FOk_any (ι := Unit) (Gs := fun _ => plainCG ks outs (fun _ => true) g) (fun _ => h) fun x h0 res hv => ⟨(), ?_⟩
 unfold plainTG at hv
 unfold plainCG
 split at hv
 ·simpa [Tr.val] using hv
 ·simp at hv

theorem FOk_plainT {E : Env} {k : FuncId} {f : Func} {ks outs : List Sh} {g : HArgs (ks.map some) → HArgs (outs.map some)} (hf : fnChk E.P k f ks.length)
  (h : ∀ x, ∀ C : Ctx, (∀ id, C.ρ0 id = none) → Reach E C k (bodyOf f) (initSt f.ntmps (avs (ks.map some) x) []) (fun r h => resOf h outs r = some (g x))) : FOk E.P E.gl k (plainT ks outs g) :=
 FOk_T (FOk_plainC hf fun x _ C hC => h x C hC)

def leafRes (outs : List Sh) : Leaf → Option (HArgs (outs.map some))
 | .ret v h => resOf h outs v
 | _ => none

theorem Tr.sat_of_res {E : Env} {C : Ctx} {fn : FuncId} {outs : List Sh} {y : HArgs (outs.map some)} {t : Tr Leaf} (h : t.val.bind (leafRes outs) = some y) : t.Sat (LeafOk E C fn (fun r h => resOf h outs r = some y)) := by
 rw [Option.bind_eq_some_iff] at h
 obtain ⟨l, h1, h2⟩ := h
 refine Tr.sat_of_val h1 ?_
 cases l with
 | ret v h => exact h2
 | head _ _ _ => cases h2
 | fork _ _ _ _ => cases h2

theorem reach_res {E : Env} {C : Ctx} {k : FuncId} {f : Func} {outs : List Sh} {y : HArgs (outs.map some)} {n n0 : Nat} (hE : EnvAll E) (hm : E.P.follows .mixedOrders = true) (hf : fnChk E.P k f n) (hC : ∀ id, n0 ≤ id → C.ρ0 id = none) {keep : Nat → Keep} {fuel : Nat}
  {todo : List Item} {st : St} {t : Tr Leaf} (ht : run E n0 keep f.results.toList fuel todo st = t) (h : t.val.bind (leafRes outs) = some y) : Reach E C k todo st (fun r h => resOf h outs r = some y) := by
 refine reach_run hE hm hf hC keep fuel ?_
 rw [ht]
 exact Tr.sat_of_res h

theorem ExprT.eta : ∀ e : ExprT, ExprT.mk e.op e.v e.s e.l = e
 | .mk _ _ _ _ => rfl

structure SameE (E E0 : Env) : Prop where
 p : E.P = E0.P
 g : E.gl = E0.gl

theorem SameE.refl (E : Env) : SameE E E := ⟨rfl, rfl⟩
theorem SameE.add {E E0 : Env} (h : SameE E E0) (k : FuncId) (F : FSem) : SameE (E.add k F) E0 := ⟨h.p, h.g⟩
theorem EnvAll.addS {E E0 : Env} {k : FuncId} {F : FSem} (h : EnvAll E) (s : SameE E E0) (hk : FOk E0.P E0.gl k F) : EnvAll (E.add k F) :=
 h.add (by rw [s.p, s.g]; exact hk)
theorem mix_add {E : Env} (h : E.P.follows .mixedOrders = true) (k : FuncId) (F : FSem) : (E.add k F).P.follows .mixedOrders = true := h

abbrev etaE (e : ExprT) : ExprT := .mk e.op e.v e.s e.l
theorem etaE_eq (e : ExprT) : etaE e = e := ExprT.eta e
open Go Go.Proofs
abbrev TS := Sem Sh.str
abbrev LX := List (Sem Sh.expr)
abbrev LC := List (Sem shCol)
abbrev LS := List (Sem Sh.str)
abbrev LV := List (Sem shVal)
abbrev LI := List (Sem shInt)
abbrev LF := List (Sem shFor)

abbrev V := Sem shVal

def vMay (x0 : Sem shVal) : Sem Sh.bool := if (x0.1 == 0) = true then if (x0.2.1 != 0) = true then false else x0.2.2 == [] else if (x0.1 == 1) = true then x0.2.2 == [] else if (x0.1 == 2) = true then bif x0.2.1 == 0 then bif decide ((↑(List.length x0.2.2) : Int) ≤ 40) then decide (oddAt x0.2.2 < 0) else false else false else if (x0.1 == 3) = true then bif x0.2.1 == 0 then x0.2.2 == [] else bif x0.2.1 == 1 then x0.2.2 == [] else false else false
theorem ok21 : fnChk env10.P 154 Tryz.f154 1 := by refine ⟨?_, ?_, ?_, ?_⟩ <;> kernel_rfl
theorem go21 (x0 : Sem shVal) : run env10 0 (fun _ => { }) (Func.results Tryz.f154).toList 400 (bodyOf Tryz.f154) (initSt (Func.ntmps Tryz.f154) [datum shVal x0] []) = Tr.br (x0.1 == 0) (Tr.br (x0.2.1 != 0) (Tr.ok (Leaf.ret (AV.kb false) [])) (Tr.ok (Leaf.ret (AV.bool (x0.2.2 == [])) []))) (Tr.br (x0.1 == 1) (Tr.ok (Leaf.ret (AV.bool (x0.2.2 == [])) [])) (Tr.br (x0.1 == 2) (Tr.ok (Leaf.ret (AV.bool (bif x0.2.1 == 0 then bif decide ((↑(List.length x0.2.2) : Int) ≤ 40) then decide (oddAt x0.2.2 < 0) else false else false)) [])) (Tr.br (x0.1 == 3) (Tr.ok (Leaf.ret (AV.bool (bif x0.2.1 == 0 then x0.2.2 == [] else bif x0.2.1 == 1 then x0.2.2 == [] else false)) [])) (Tr.ok (Leaf.ret (AV.kb false) []))))) := by kernel_rfl
def F21 : FSem := plainT [shVal] [Sh.bool] fun x => (vMay x.1, ())
theorem FOk21 : FOk env10.P env10.gl 154 F21 := by
 refine FOk_plainT ok21 fun x C hC => ?_
 refine reach_res env10_all env10_mix ok21 (fun id _ => hC id) (go21 x.1) ?_
 simp only [Tr.val, vMay]
 repeat' split
 all_goals rfl

def vTruth (x0 : Sem shInt) : Sem shVal := if (x0 == 0) = true then (0, 0, []) else (3, IntKind.i64.wrap (x0 - 1), [])
theorem ok57 : fnChk env10.P 277 Tryz.f277 1 := by refine ⟨?_, ?_, ?_, ?_⟩ <;> kernel_rfl
theorem go57 (x0 : Sem shInt) : run env10 0 (fun _ => { }) (Func.results Tryz.f277).toList 400 (bodyOf Tryz.f277) (initSt (Func.ntmps Tryz.f277) [datum shInt x0] []) = Tr.br (x0 == 0) (Tr.ok (Leaf.ret (AV.agg [ai 0, ai 0, AV.str []]) [])) (Tr.ok (Leaf.ret (AV.agg [ai 3, ai (IntKind.i64.wrap (x0 - 1)), AV.str []]) [])) := by kernel_rfl
def F57 : FSem := plainT [shInt] [shVal] fun x => (vTruth x.1, ())
theorem FOk57 : FOk env10.P env10.gl 277 F57 := by
 refine FOk_plainT ok57 fun x C hC => ?_
 refine reach_res env10_all env10_mix ok57 (fun id _ => hC id) (go57 x.1) ?_
 simp only [Tr.val, vTruth]
 repeat' split
 all_goals rfl

noncomputable def F100 : FSem := liftF (List.replicate 1 none) (autoG env10 Tryz.f220 (List.replicate 1 none))
theorem FOk100 : FOk env10.P env10.gl 220 F100 := FOk_auto _ env10_all env10_mix (by refine ⟨?_, ?_, ?_, ?_⟩ <;> kernel_rfl)

noncomputable def F101 : FSem := liftF (List.replicate 1 none) (autoG env10 Tryz.f221 (List.replicate 1 none))
theorem FOk101 : FOk env10.P env10.gl 221 F101 := FOk_auto _ env10_all env10_mix (by refine ⟨?_, ?_, ?_, ?_⟩ <;> kernel_rfl)

noncomputable def F102 : FSem := liftF (List.replicate 1 none) (autoG env10 Tryz.f222 (List.replicate 1 none))
theorem FOk102 : FOk env10.P env10.gl 222 F102 := FOk_auto _ env10_all env10_mix (by refine ⟨?_, ?_, ?_, ?_⟩ <;> kernel_rfl)

noncomputable def env11 : Env := (((((env10.add 154 F21).add 277 F57).add 220 F100).add 221 F101).add 222 F102)
theorem env11_all : EnvAll env11 := (EnvAll.addS (EnvAll.addS (EnvAll.addS (EnvAll.addS (EnvAll.addS env10_all (SameE.refl env10) FOk21) ((SameE.refl env10).add _ _) FOk57) (((SameE.refl env10).add _ _).add _ _) FOk100) ((((SameE.refl env10).add _ _).add _ _).add _ _) FOk101) (((((SameE.refl env10).add _ _).add _ _).add _ _).add _ _) FOk102)
theorem env11_mix : env11.P.follows .mixedOrders = true := (mix_add (mix_add (mix_add (mix_add (mix_add env10_mix _ _) _ _) _ _) _ _) _ _)
open Go Go.Proofs

def vKnown (x0 : Sem shVal) : Sem shVal := if (!vMay x0) = true then (0, 0, []) else x0
theorem ok61 : fnChk env11.P 173 Tryz.f173 1 := by refine ⟨?_, ?_, ?_, ?_⟩ <;> kernel_rfl
theorem go61 (x0 : Sem shVal) : run env11 0 (fun _ => { }) (Func.results Tryz.f173).toList 400 (bodyOf Tryz.f173) (initSt (Func.ntmps Tryz.f173) [datum shVal x0] []) = Tr.br (!vMay x0) (Tr.ok (Leaf.ret (AV.agg [ai 0, ai 0, AV.str []]) [])) (Tr.ok (Leaf.ret (AV.agg [ai x0.1, ai x0.2.1, AV.str x0.2.2]) [])) := by kernel_rfl
def F61 : FSem := plainT [shVal] [shVal] fun x => (vKnown x.1, ())
theorem FOk61 : FOk env11.P env11.gl 173 F61 := by
 refine FOk_plainT ok61 fun x C hC => ?_
 refine reach_res env11_all env11_mix ok61 (fun id _ => hC id) (go61 x.1) ?_
 simp only [Tr.val, vKnown]
 repeat' split
 all_goals rfl

def vSays (x0 : Sem shVal) : Sem shInt := if (bif x0.1 != 3 then true else !vMay x0) = true then 0 else IntKind.i64.wrap (1 + x0.2.1)
theorem ok56 : fnChk env11.P 215 Tryz.f215 1 := by refine ⟨?_, ?_, ?_, ?_⟩ <;> kernel_rfl
theorem go56 (x0 : Sem shVal) : run env11 0 (fun _ => { }) (Func.results Tryz.f215).toList 400 (bodyOf Tryz.f215) (initSt (Func.ntmps Tryz.f215) [datum shVal x0] []) = Tr.br (bif x0.1 != 3 then true else !vMay x0) (Tr.ok (Leaf.ret (ai 0) [])) (Tr.ok (Leaf.ret (ai (IntKind.i64.wrap (1 + x0.2.1))) [])) := by kernel_rfl
def F56 : FSem := plainT [shVal] [shInt] fun x => (vSays x.1, ())
theorem FOk56 : FOk env11.P env11.gl 215 F56 := by
 refine FOk_plainT ok56 fun x C hC => ?_
 refine reach_res env11_all env11_mix ok56 (fun id _ => hC id) (go56 x.1) ?_
 simp only [Tr.val, vSays]
 repeat' split
 all_goals rfl

def vWhether (x0 : Sem Sh.bool) : Sem shVal := if x0 = true then vTruth 2 else vTruth 1
theorem ok59 : fnChk env11.P 279 Tryz.f279 1 := by refine ⟨?_, ?_, ?_, ?_⟩ <;> kernel_rfl
theorem go59 (x0 : Sem Sh.bool) : run env11 0 (fun _ => { }) (Func.results Tryz.f279).toList 400 (bodyOf Tryz.f279) (initSt (Func.ntmps Tryz.f279) [datum Sh.bool x0] []) = Tr.br x0 (Tr.ok (Leaf.ret (AV.agg [ai (vTruth 2).1, ai (vTruth 2).2.1, AV.str (vTruth 2).2.2]) [])) (Tr.ok (Leaf.ret (AV.agg [ai (vTruth 1).1, ai (vTruth 1).2.1, AV.str (vTruth 1).2.2]) [])) := by kernel_rfl
def F59 : FSem := plainT [Sh.bool] [shVal] fun x => (vWhether x.1, ())
theorem FOk59 : FOk env11.P env11.gl 279 F59 := by
 refine FOk_plainT ok59 fun x C hC => ?_
 refine reach_res env11_all env11_mix ok59 (fun id _ => hC id) (go59 x.1) ?_
 simp only [Tr.val, vWhether]
 repeat' split
 all_goals rfl

def cmpI (x0 : Sem shInt) (x1 : Sem shInt) : Sem shInt := if (x0 != x0) = true then if (x1 != x1) = true then 0 else -1 else if (x1 != x1) = true then 1 else if decide (x0 < x1) = true then -1 else if decide (x0 > x1) = true then 1 else 0
theorem ok71 : fnChk env11.P 175 Tryz.f175 2 := by refine ⟨?_, ?_, ?_, ?_⟩ <;> kernel_rfl
theorem go71 (x0 : Sem shInt) (x1 : Sem shInt) : run env11 0 (fun _ => { }) (Func.results Tryz.f175).toList 400 (bodyOf Tryz.f175) (initSt (Func.ntmps Tryz.f175) [datum shInt x0, datum shInt x1] []) = Tr.br (x0 != x0) (Tr.br (x1 != x1) (Tr.ok (Leaf.ret (ai 0) [])) (Tr.ok (Leaf.ret (ai (-1)) []))) (Tr.br (x1 != x1) (Tr.ok (Leaf.ret (ai 1) [])) (Tr.br (decide (x0 < x1)) (Tr.ok (Leaf.ret (ai (-1)) [])) (Tr.br (decide (x0 > x1)) (Tr.ok (Leaf.ret (ai 1) [])) (Tr.ok (Leaf.ret (ai 0) []))))) := by kernel_rfl
def F71 : FSem := plainT [shInt, shInt] [shInt] fun x => (cmpI x.1 x.2.1, ())
theorem FOk71 : FOk env11.P env11.gl 175 F71 := by
 refine FOk_plainT ok71 fun x C hC => ?_
 refine reach_res env11_all env11_mix ok71 (fun id _ => hC id) (go71 x.1 x.2.1) ?_
 simp only [Tr.val, cmpI]
 repeat' split
 all_goals rfl

def cmpI2 (x0 : Sem shInt) (x1 : Sem shInt) : Sem shInt := if (x0 != x0) = true then if (x1 != x1) = true then 0 else -1 else if (x1 != x1) = true then 1 else if decide (x0 < x1) = true then -1 else if decide (x0 > x1) = true then 1 else 0
theorem ok72 : fnChk env11.P 176 Tryz.f176 2 := by refine ⟨?_, ?_, ?_, ?_⟩ <;> kernel_rfl
theorem go72 (x0 : Sem shInt) (x1 : Sem shInt) : run env11 0 (fun _ => { }) (Func.results Tryz.f176).toList 400 (bodyOf Tryz.f176) (initSt (Func.ntmps Tryz.f176) [datum shInt x0, datum shInt x1] []) = Tr.br (x0 != x0) (Tr.br (x1 != x1) (Tr.ok (Leaf.ret (ai 0) [])) (Tr.ok (Leaf.ret (ai (-1)) []))) (Tr.br (x1 != x1) (Tr.ok (Leaf.ret (ai 1) [])) (Tr.br (decide (x0 < x1)) (Tr.ok (Leaf.ret (ai (-1)) [])) (Tr.br (decide (x0 > x1)) (Tr.ok (Leaf.ret (ai 1) [])) (Tr.ok (Leaf.ret (ai 0) []))))) := by kernel_rfl
def F72 : FSem := plainT [shInt, shInt] [shInt] fun x => (cmpI2 x.1 x.2.1, ())
theorem FOk72 : FOk env11.P env11.gl 176 F72 := by
 refine FOk_plainT ok72 fun x C hC => ?_
 refine reach_res env11_all env11_mix ok72 (fun id _ => hC id) (go72 x.1 x.2.1) ?_
 simp only [Tr.val, cmpI2]
 repeat' split
 all_goals rfl

def cmpS (x0 : Sem Sh.str) (x1 : Sem Sh.str) : Sem shInt := if (!x0 == x0) = true then if (!x1 == x1) = true then 0 else -1 else if (!x1 == x1) = true then 1 else if Op.bytesLess x0 x1 = true then -1 else if (!(Op.bytesLess x0 x1 || x0 == x1)) = true then 1 else 0
theorem ok73 : fnChk env11.P 177 Tryz.f177 2 := by refine ⟨?_, ?_, ?_, ?_⟩ <;> kernel_rfl
theorem go73 (x0 : Sem Sh.str) (x1 : Sem Sh.str) : run env11 0 (fun _ => { }) (Func.results Tryz.f177).toList 400 (bodyOf Tryz.f177) (initSt (Func.ntmps Tryz.f177) [datum Sh.str x0, datum Sh.str x1] []) = Tr.br (!x0 == x0) (Tr.br (!x1 == x1) (Tr.ok (Leaf.ret (ai 0) [])) (Tr.ok (Leaf.ret (ai (-1)) []))) (Tr.br (!x1 == x1) (Tr.ok (Leaf.ret (ai 1) [])) (Tr.br (Op.bytesLess x0 x1) (Tr.ok (Leaf.ret (ai (-1)) [])) (Tr.br (!(Op.bytesLess x0 x1 || x0 == x1)) (Tr.ok (Leaf.ret (ai 1) [])) (Tr.ok (Leaf.ret (ai 0) []))))) := by kernel_rfl
def F73 : FSem := plainT [Sh.str, Sh.str] [shInt] fun x => (cmpS x.1 x.2.1, ())
theorem FOk73 : FOk env11.P env11.gl 177 F73 := by
 refine FOk_plainT ok73 fun x C hC => ?_
 refine reach_res env11_all env11_mix ok73 (fun id _ => hC id) (go73 x.1 x.2.1) ?_
 simp only [Tr.val, cmpS]
 repeat' split
 all_goals rfl

noncomputable def env12 : Env := ((((((env11.add 173 F61).add 215 F56).add 279 F59).add 175 F71).add 176 F72).add 177 F73)
theorem env12_all : EnvAll env12 := (EnvAll.addS (EnvAll.addS (EnvAll.addS (EnvAll.addS (EnvAll.addS (EnvAll.addS env11_all (SameE.refl env11) FOk61) ((SameE.refl env11).add _ _) FOk56) (((SameE.refl env11).add _ _).add _ _) FOk59) ((((SameE.refl env11).add _ _).add _ _).add _ _) FOk71) (((((SameE.refl env11).add _ _).add _ _).add _ _).add _ _) FOk72) ((((((SameE.refl env11).add _ _).add _ _).add _ _).add _ _).add _ _) FOk73)
theorem env12_mix : env12.P.follows .mixedOrders = true := (mix_add (mix_add (mix_add (mix_add (mix_add (mix_add env11_mix _ _) _ _) _ _) _ _) _ _) _ _)
open Go Go.Proofs

theorem reach_leaf {E : Env} {C : Ctx} {k : FuncId} {f : Func} {Q : AV → List AO → Prop} {n n0 : Nat} (hE : EnvAll E) (hm : E.P.follows .mixedOrders = true) (hf : fnChk E.P k f n) (hC : ∀ id, n0 ≤ id → C.ρ0 id = none) {keep : Nat → Keep} {fuel : Nat}
  {todo : List Item} {st : St} {t : Tr Leaf} {l : Leaf} (ht : run E n0 keep f.results.toList fuel todo st = t) (h : t.val = some l) (hl : LeafOk E C k Q l) : Reach E C k todo st Q :=
 reach_run hE hm hf hC keep fuel (by rw [ht]; exact Tr.sat_of_val h hl)

def OptOk {α : Type} (Φ : α → Prop) : Option α → Prop
 | some a => Φ a
 | none => False

theorem reach_ok {E : Env} {C : Ctx} {k : FuncId} {f : Func} {Q : AV → List AO → Prop} {n n0 : Nat} (hE : EnvAll E) (hm : E.P.follows .mixedOrders = true) (hf : fnChk E.P k f n) (hC : ∀ id, n0 ≤ id → C.ρ0 id = none) {keep : Nat → Keep} {fuel : Nat}
  {todo : List Item} {st : St} {t : Tr Leaf} (ht : run E n0 keep f.results.toList fuel todo st = t) (h : OptOk (LeafOk E C k Q) t.val) : Reach E C k todo st Q := by
 cases hv : t.val with
 | none => rw [hv] at h; exact h.elim
 | some l => rw [hv] at h; exact reach_leaf hE hm hf hC ht hv h

def foldE {α β R : Type} (f : β → Nat → α → β ⊕ R) (fin : β → R) : List α → Nat → β → R
 | [], _, b => fin b
 | x :: r, i, b => match f b i x with
  | .inl b' => foldE f fin r (i + 1) b'
  | .inr y => y

def RoundOk {E : Env} {C : Ctx} {k : FuncId} {K : List Item} {β R : Type} (st : β → Nat → St) (Q : R → AV → List AO → Prop) (b : β) (i : Nat) : β ⊕ R → Prop
 | .inl b' => ∀ q, Reach E C k K (st b' (i + 1)) q → Reach E C k K (st b i) q
 | .inr y => Reach E C k K (st b i) (Q y)

theorem reach_loop {E : Env} {C : Ctx} {k : FuncId} {K : List Item} {α β R : Type} (l : List α) (st : β → Nat → St) (f : β → Nat → α → β ⊕ R) (fin : β → R) (Q : R → AV → List AO → Prop) (I : β → Nat → Prop)
  (hstep : ∀ b i (hi : i < l.length), I b i → RoundOk (E := E) (C := C) (k := k) (K := K) st Q b i (f b i l[i]) ∧ ∀ b', f b i l[i] = .inl b' → I b' (i + 1))
  (hend : ∀ b, I b l.length → Reach E C k K (st b l.length) (Q (fin b))) : ∀ (m i : Nat) (b : β), l.length - i = m → i ≤ l.length → I b i → Reach E C k K (st b i) (Q (foldE f fin (l.drop i) i b))
 | 0, i, b, hm, hi, hI => by
  have : i = l.length := by omega
  subst this
  rw [List.drop_length]
  exact hend b hI
 | m + 1, i, b, hm, hi, hI => by
  have hlt : i < l.length := by omega
  rw [List.drop_eq_getElem_cons hlt]
  obtain ⟨h1, h2⟩ := hstep b i hlt hI
  simp only [foldE]
  cases hf : f b i l[i] with
  | inl b' =>
   rw [hf] at h1
   exact h1 _ (reach_loop l st f fin Q I hstep hend m (i + 1) b' (by omega) (by omega) (h2 b' hf))
  | inr y =>
   rw [hf] at h1
   exact h1

theorem lt_dec {i n : Nat} (h : i < n) : decide ((i : Int) < (n : Int)) = true := by simpa using h
theorem lt_dec' (n : Nat) : decide ((n : Int) < (n : Int)) = false := by simp
theorem inB_of {i n : Nat} (h : i < n) : inB (i : Int) n = true := by simp [inB, h]

def orI : List Int → Int
 | [] => 0
 | x :: r => if x != 0 then x else orI r

abbrev kp70 : Nat → Keep := fun j => if j = 3 then { slots := [3, 6, 7, 8] } else { }
abbrev s70_3 (i3 : Int) (l6 : List (Sem shInt)) (i7 : Int) (i8 : Int) : St := { tmps := [ny, ny, ny, ai i3, ny, ny, AV.sl (Sh.int IntKind.i64) l6, ai i7, ai i8, ny, ny, ny, ny, ny, ny, ny, ny, ny], heap := [] }
theorem ok70 : fnChk env12.P 174 Tryz.f174 1 := by refine ⟨?_, ?_, ?_, ?_⟩ <;> kernel_rfl
theorem go70 (k : List (Sem shInt)) : run env12 0 kp70 (Func.results Tryz.f174).toList 400 (bodyOf Tryz.f174) (initSt (Func.ntmps Tryz.f174) [AV.sl shInt k] []) = Tr.ok (Leaf.head 3 (headK Tryz.f174 3) (s70_3 0 k (↑k.length) 0)) := by kernel_rfl
theorem on70_3 (i3 : Int) (l6 : List (Sem shInt)) (i7 : Int) (i8 : Int) : run env12 0 kp70 (Func.results Tryz.f174).toList 400 (headK Tryz.f174 3) (s70_3 i3 l6 i7 i8) = Tr.br (decide (i8 < i7)) (Tr.chk (inB i8 l6.length) (Tr.br (l6.getD i8.toNat (dflt (Sh.int IntKind.i64)) != i3) (Tr.ok (Leaf.ret (ai (l6.getD i8.toNat (dflt (Sh.int IntKind.i64)))) [])) (Tr.ok (Leaf.head 3 (headK Tryz.f174 3) (s70_3 i3 l6 i7 (IntKind.i64.wrap (i8 + 1))))))) (Tr.ok (Leaf.ret (ai i3) [])) := by kernel_rfl

def f70 : Unit → Nat → Int → Unit ⊕ Int := fun _ _ x => if x != 0 then .inr x else .inl ()
theorem fold70 : ∀ (l : List Int) (i : Nat), foldE f70 (fun _ => 0) l i () = orI l
 | [], _ => rfl
 | x :: r, i => by
  simp only [foldE, f70, orI]
  split
  ·rename_i h; split at h <;> simp_all [fold70 r (i + 1)]
  ·rename_i h; split at h <;> simp_all

def F70 : FSem := plainT [.sl shInt] [shInt] fun x => (orI x.1, ())
theorem FOk70 : FOk env12.P env12.gl 174 F70 := by
 refine FOk_plainT ok70 fun x C hC => ?_
 obtain ⟨l, u⟩ := x
 refine Reach.len 0 shInt l rfl fun hl => ?_
 refine reach_leaf env12_all env12_mix ok70 (fun id _ => hC id) (go70 l) rfl ?_
 have := reach_loop (E := env12) (C := C) (k := 174) (K := headK Tryz.f174 3) l (fun (_ : Unit) i => s70_3 0 l l.length i) f70 (fun _ => (0 : Int)) (fun y r h => resOf h [shInt] r = some (y, ())) (fun _ _ => True)
  (fun b i hi _ => ⟨by
   unfold f70
   split
   ·rename_i h
    refine reach_ok env12_all env12_mix ok70 (fun id _ => hC id) (on70_3 _ _ _ _) ?_
    simp only [Tr.val, lt_dec hi, inB_of hi, getD_at l _ hi, h, if_true]
    rfl
   ·rename_i h
    intro q hq
    refine reach_ok env12_all env12_mix ok70 (fun id _ => hC id) (on70_3 _ _ _ _) ?_
    simp only [Tr.val, lt_dec hi, inB_of hi, getD_at l _ hi, h, if_true, wrap_add i (by omega)]
    exact hq, fun _ _ => trivial⟩)
  (fun b _ => by
   refine reach_ok env12_all env12_mix ok70 (fun id _ => hC id) (on70_3 _ _ _ _) ?_
   simp only [Tr.val, lt_dec']
   rfl) _ 0 () rfl (by omega) trivial
 rw [fold70] at this
 exact this

def vAlike (x0 : Sem shVal) (x1 : Sem shVal) : Sem Sh.bool := bif (vKnown x0).1 != 0 then (vKnown x0).1 == (vKnown x1).1 else false
theorem ok58 : fnChk env12.P 278 Tryz.f278 2 := by refine ⟨?_, ?_, ?_, ?_⟩ <;> kernel_rfl
theorem go58 (x0 : Sem shVal) (x1 : Sem shVal) : run env12 0 (fun _ => { }) (Func.results Tryz.f278).toList 400 (bodyOf Tryz.f278) (initSt (Func.ntmps Tryz.f278) [datum shVal x0, datum shVal x1] []) = Tr.ok (Leaf.ret (AV.bool (bif (vKnown x0).1 != 0 then (vKnown x0).1 == (vKnown x1).1 else false)) []) := by kernel_rfl
def F58 : FSem := plainT [shVal, shVal] [Sh.bool] fun x => (vAlike x.1 x.2.1, ())
theorem FOk58 : FOk env12.P env12.gl 278 F58 := by
 refine FOk_plainT ok58 fun x C hC => ?_
 refine reach_res env12_all env12_mix ok58 (fun id _ => hC id) (go58 x.1 x.2.1) ?_
 simp only [Tr.val, vAlike]
 repeat' split
 all_goals rfl

def vAnd (x0 : Sem shVal) (x1 : Sem shVal) : Sem shVal := if (bif vSays x0 == 1 then true else vSays x1 == 1) = true then vTruth 1 else if (bif vSays x0 == 2 then vSays x1 == 2 else false) = true then vTruth 2 else vTruth 0
theorem ok38 : fnChk env12.P 252 Tryz.f252 2 := by refine ⟨?_, ?_, ?_, ?_⟩ <;> kernel_rfl
theorem go38 (x0 : Sem shVal) (x1 : Sem shVal) : run env12 0 (fun _ => { }) (Func.results Tryz.f252).toList 400 (bodyOf Tryz.f252) (initSt (Func.ntmps Tryz.f252) [datum shVal x0, datum shVal x1] []) = Tr.br (bif vSays x0 == 1 then true else vSays x1 == 1) (Tr.ok (Leaf.ret (AV.agg [ai (vTruth 1).1, ai (vTruth 1).2.1, AV.str (vTruth 1).2.2]) [])) (Tr.br (bif vSays x0 == 2 then vSays x1 == 2 else false) (Tr.ok (Leaf.ret (AV.agg [ai (vTruth 2).1, ai (vTruth 2).2.1, AV.str (vTruth 2).2.2]) [])) (Tr.ok (Leaf.ret (AV.agg [ai (vTruth 0).1, ai (vTruth 0).2.1, AV.str (vTruth 0).2.2]) []))) := by kernel_rfl
def F38 : FSem := plainT [shVal, shVal] [shVal] fun x => (vAnd x.1 x.2.1, ())
theorem FOk38 : FOk env12.P env12.gl 252 F38 := by
 refine FOk_plainT ok38 fun x C hC => ?_
 refine reach_res env12_all env12_mix ok38 (fun id _ => hC id) (go38 x.1 x.2.1) ?_
 simp only [Tr.val, vAnd]
 repeat' split
 all_goals rfl

def vOr (x0 : Sem shVal) (x1 : Sem shVal) : Sem shVal := if (bif vSays x0 == 2 then true else vSays x1 == 2) = true then vTruth 2 else if (bif vSays x0 == 1 then vSays x1 == 1 else false) = true then vTruth 1 else vTruth 0
theorem ok39 : fnChk env12.P 253 Tryz.f253 2 := by refine ⟨?_, ?_, ?_, ?_⟩ <;> kernel_rfl
theorem go39 (x0 : Sem shVal) (x1 : Sem shVal) : run env12 0 (fun _ => { }) (Func.results Tryz.f253).toList 400 (bodyOf Tryz.f253) (initSt (Func.ntmps Tryz.f253) [datum shVal x0, datum shVal x1] []) = Tr.br (bif vSays x0 == 2 then true else vSays x1 == 2) (Tr.ok (Leaf.ret (AV.agg [ai (vTruth 2).1, ai (vTruth 2).2.1, AV.str (vTruth 2).2.2]) [])) (Tr.br (bif vSays x0 == 1 then vSays x1 == 1 else false) (Tr.ok (Leaf.ret (AV.agg [ai (vTruth 1).1, ai (vTruth 1).2.1, AV.str (vTruth 1).2.2]) [])) (Tr.ok (Leaf.ret (AV.agg [ai (vTruth 0).1, ai (vTruth 0).2.1, AV.str (vTruth 0).2.2]) []))) := by kernel_rfl
def F39 : FSem := plainT [shVal, shVal] [shVal] fun x => (vOr x.1 x.2.1, ())
theorem FOk39 : FOk env12.P env12.gl 253 F39 := by
 refine FOk_plainT ok39 fun x C hC => ?_
 refine reach_res env12_all env12_mix ok39 (fun id _ => hC id) (go39 x.1 x.2.1) ?_
 simp only [Tr.val, vOr]
 repeat' split
 all_goals rfl

def vNot (x0 : Sem shVal) : Sem shVal := if (vSays x0 == 2) = true then vTruth 1 else if (vSays x0 == 1) = true then vTruth 2 else vTruth 0
theorem ok41 : fnChk env12.P 255 Tryz.f255 1 := by refine ⟨?_, ?_, ?_, ?_⟩ <;> kernel_rfl
theorem go41 (x0 : Sem shVal) : run env12 0 (fun _ => { }) (Func.results Tryz.f255).toList 400 (bodyOf Tryz.f255) (initSt (Func.ntmps Tryz.f255) [datum shVal x0] []) = Tr.br (vSays x0 == 2) (Tr.ok (Leaf.ret (AV.agg [ai (vTruth 1).1, ai (vTruth 1).2.1, AV.str (vTruth 1).2.2]) [])) (Tr.br (vSays x0 == 1) (Tr.ok (Leaf.ret (AV.agg [ai (vTruth 2).1, ai (vTruth 2).2.1, AV.str (vTruth 2).2.2]) [])) (Tr.ok (Leaf.ret (AV.agg [ai (vTruth 0).1, ai (vTruth 0).2.1, AV.str (vTruth 0).2.2]) []))) := by kernel_rfl
def F41 : FSem := plainT [shVal] [shVal] fun x => (vNot x.1, ())
theorem FOk41 : FOk env12.P env12.gl 255 F41 := by
 refine FOk_plainT ok41 fun x C hC => ?_
 refine reach_res env12_all env12_mix ok41 (fun id _ => hC id) (go41 x.1) ?_
 simp only [Tr.val, vNot]
 repeat' split
 all_goals rfl

def vIsNull (x0 : Sem shVal) : Sem shVal := vWhether ((vKnown x0).1 == 0)
theorem ok47 : fnChk env12.P 261 Tryz.f261 1 := by refine ⟨?_, ?_, ?_, ?_⟩ <;> kernel_rfl
theorem go47 (x0 : Sem shVal) : run env12 0 (fun _ => { }) (Func.results Tryz.f261).toList 400 (bodyOf Tryz.f261) (initSt (Func.ntmps Tryz.f261) [datum shVal x0] []) = Tr.ok (Leaf.ret (AV.agg [ai (vWhether ((vKnown x0).1 == 0)).1, ai (vWhether ((vKnown x0).1 == 0)).2.1, AV.str (vWhether ((vKnown x0).1 == 0)).2.2]) []) := by kernel_rfl
def F47 : FSem := plainT [shVal] [shVal] fun x => (vIsNull x.1, ())
theorem FOk47 : FOk env12.P env12.gl 261 F47 := by
 refine FOk_plainT ok47 fun x C hC => ?_
 refine reach_res env12_all env12_mix ok47 (fun id _ => hC id) (go47 x.1) ?_
 simp only [Tr.val, vIsNull]
 repeat' split
 all_goals rfl

noncomputable def env13 : Env := ((((((env12.add 174 F70).add 278 F58).add 252 F38).add 253 F39).add 255 F41).add 261 F47)
theorem env13_all : EnvAll env13 := (EnvAll.addS (EnvAll.addS (EnvAll.addS (EnvAll.addS (EnvAll.addS (EnvAll.addS env12_all (SameE.refl env12) FOk70) ((SameE.refl env12).add _ _) FOk58) (((SameE.refl env12).add _ _).add _ _) FOk38) ((((SameE.refl env12).add _ _).add _ _).add _ _) FOk39) (((((SameE.refl env12).add _ _).add _ _).add _ _).add _ _) FOk41) ((((((SameE.refl env12).add _ _).add _ _).add _ _).add _ _).add _ _) FOk47)
theorem env13_mix : env13.P.follows .mixedOrders = true := (mix_add (mix_add (mix_add (mix_add (mix_add (mix_add env12_mix _ _) _ _) _ _) _ _) _ _) _ _)
open Go Go.Proofs

def vOrder (x0 : Sem shVal) (x1 : Sem shVal) : Sem shInt := orI [cmpI (vKnown x0).1 (vKnown x1).1, cmpI2 (vKnown x0).2.1 (vKnown x1).2.1, cmpS (vKnown x0).2.2 (vKnown x1).2.2]
theorem ok60 : fnChk env13.P 123 Tryz.f123 2 := by refine ⟨?_, ?_, ?_, ?_⟩ <;> kernel_rfl
theorem go60 (x0 : Sem shVal) (x1 : Sem shVal) : run env13 0 (fun _ => { }) (Func.results Tryz.f123).toList 400 (bodyOf Tryz.f123) (initSt (Func.ntmps Tryz.f123) [datum shVal x0, datum shVal x1] []) = Tr.ok (Leaf.ret (AV.int IntKind.i64 (orI [cmpI (vKnown x0).1 (vKnown x1).1, cmpI2 (vKnown x0).2.1 (vKnown x1).2.1, cmpS (vKnown x0).2.2 (vKnown x1).2.2])) []) := by kernel_rfl
def F60 : FSem := plainT [shVal, shVal] [shInt] fun x => (vOrder x.1 x.2.1, ())
theorem FOk60 : FOk env13.P env13.gl 123 F60 := by
 refine FOk_plainT ok60 fun x C hC => ?_
 refine reach_res env13_all env13_mix ok60 (fun id _ => hC id) (go60 x.1 x.2.1) ?_
 simp only [Tr.val, vOrder]
 repeat' split
 all_goals rfl

def vEqual (x0 : Sem shVal) (x1 : Sem shVal) : Sem shVal := if (!vAlike x0 x1) = true then (0, 0, []) else vWhether (x0.1 == x1.1 && (x0.2.1 == x1.2.1 && (x0.2.2 == x1.2.2 && true)))
theorem ok42 : fnChk env13.P 256 Tryz.f256 2 := by refine ⟨?_, ?_, ?_, ?_⟩ <;> kernel_rfl
theorem go42 (x0 : Sem shVal) (x1 : Sem shVal) : run env13 0 (fun _ => { }) (Func.results Tryz.f256).toList 400 (bodyOf Tryz.f256) (initSt (Func.ntmps Tryz.f256) [datum shVal x0, datum shVal x1] []) = Tr.br (!vAlike x0 x1) (Tr.ok (Leaf.ret (AV.agg [ai 0, ai 0, AV.str []]) [])) (Tr.ok (Leaf.ret (AV.agg [ai (vWhether (x0.1 == x1.1 && (x0.2.1 == x1.2.1 && (x0.2.2 == x1.2.2 && true)))).1, ai (vWhether (x0.1 == x1.1 && (x0.2.1 == x1.2.1 && (x0.2.2 == x1.2.2 && true)))).2.1, AV.str (vWhether (x0.1 == x1.1 && (x0.2.1 == x1.2.1 && (x0.2.2 == x1.2.2 && true)))).2.2]) [])) := by kernel_rfl
def F42 : FSem := plainT [shVal, shVal] [shVal] fun x => (vEqual x.1 x.2.1, ())
theorem FOk42 : FOk env13.P env13.gl 256 F42 := by
 refine FOk_plainT ok42 fun x C hC => ?_
 refine reach_res env13_all env13_mix ok42 (fun id _ => hC id) (go42 x.1 x.2.1) ?_
 simp only [Tr.val, vEqual]
 repeat' split
 all_goals rfl

def vPlus (x0 : Sem shVal) (x1 : Sem shVal) : Sem shVal := if (bif !vAlike x0 x1 then true else x0.1 != 1) = true then (0, 0, []) else if (bif decide (x1.2.1 > 0) then bif decide (IntKind.i64.wrap (x0.2.1 + x1.2.1) < x0.2.1) then true else bif decide (x1.2.1 < 0) then decide (IntKind.i64.wrap (x0.2.1 + x1.2.1) > x0.2.1) else false else bif decide (x1.2.1 < 0) then decide (IntKind.i64.wrap (x0.2.1 + x1.2.1) > x0.2.1) else false) = true then (0, 0, []) else (1, IntKind.i64.wrap (x0.2.1 + x1.2.1), [])
theorem ok44 : fnChk env13.P 258 Tryz.f258 2 := by refine ⟨?_, ?_, ?_, ?_⟩ <;> kernel_rfl
theorem go44 (x0 : Sem shVal) (x1 : Sem shVal) : run env13 0 (fun _ => { }) (Func.results Tryz.f258).toList 400 (bodyOf Tryz.f258) (initSt (Func.ntmps Tryz.f258) [datum shVal x0, datum shVal x1] []) = Tr.br (bif !vAlike x0 x1 then true else x0.1 != 1) (Tr.ok (Leaf.ret (AV.agg [ai 0, ai 0, AV.str []]) [])) (Tr.br (bif decide (x1.2.1 > 0) then bif decide (IntKind.i64.wrap (x0.2.1 + x1.2.1) < x0.2.1) then true else bif decide (x1.2.1 < 0) then decide (IntKind.i64.wrap (x0.2.1 + x1.2.1) > x0.2.1) else false else bif decide (x1.2.1 < 0) then decide (IntKind.i64.wrap (x0.2.1 + x1.2.1) > x0.2.1) else false) (Tr.ok (Leaf.ret (AV.agg [ai 0, ai 0, AV.str []]) [])) (Tr.ok (Leaf.ret (AV.agg [ai 1, ai (IntKind.i64.wrap (x0.2.1 + x1.2.1)), AV.str []]) []))) := by kernel_rfl
def F44 : FSem := plainT [shVal, shVal] [shVal] fun x => (vPlus x.1 x.2.1, ())
theorem FOk44 : FOk env13.P env13.gl 258 F44 := by
 refine FOk_plainT ok44 fun x C hC => ?_
 refine reach_res env13_all env13_mix ok44 (fun id _ => hC id) (go44 x.1 x.2.1) ?_
 simp only [Tr.val, vPlus]
 repeat' split
 all_goals rfl

def vMinus (x0 : Sem shVal) (x1 : Sem shVal) : Sem shVal := if (bif !vAlike x0 x1 then true else x0.1 != 1) = true then (0, 0, []) else if (bif decide (x1.2.1 > 0) then bif decide (IntKind.i64.wrap (x0.2.1 - x1.2.1) > x0.2.1) then true else bif decide (x1.2.1 < 0) then decide (IntKind.i64.wrap (x0.2.1 - x1.2.1) < x0.2.1) else false else bif decide (x1.2.1 < 0) then decide (IntKind.i64.wrap (x0.2.1 - x1.2.1) < x0.2.1) else false) = true then (0, 0, []) else (1, IntKind.i64.wrap (x0.2.1 - x1.2.1), [])
theorem ok45 : fnChk env13.P 259 Tryz.f259 2 := by refine ⟨?_, ?_, ?_, ?_⟩ <;> kernel_rfl
theorem go45 (x0 : Sem shVal) (x1 : Sem shVal) : run env13 0 (fun _ => { }) (Func.results Tryz.f259).toList 400 (bodyOf Tryz.f259) (initSt (Func.ntmps Tryz.f259) [datum shVal x0, datum shVal x1] []) = Tr.br (bif !vAlike x0 x1 then true else x0.1 != 1) (Tr.ok (Leaf.ret (AV.agg [ai 0, ai 0, AV.str []]) [])) (Tr.br (bif decide (x1.2.1 > 0) then bif decide (IntKind.i64.wrap (x0.2.1 - x1.2.1) > x0.2.1) then true else bif decide (x1.2.1 < 0) then decide (IntKind.i64.wrap (x0.2.1 - x1.2.1) < x0.2.1) else false else bif decide (x1.2.1 < 0) then decide (IntKind.i64.wrap (x0.2.1 - x1.2.1) < x0.2.1) else false) (Tr.ok (Leaf.ret (AV.agg [ai 0, ai 0, AV.str []]) [])) (Tr.ok (Leaf.ret (AV.agg [ai 1, ai (IntKind.i64.wrap (x0.2.1 - x1.2.1)), AV.str []]) []))) := by kernel_rfl
def F45 : FSem := plainT [shVal, shVal] [shVal] fun x => (vMinus x.1 x.2.1, ())
theorem FOk45 : FOk env13.P env13.gl 259 F45 := by
 refine FOk_plainT ok45 fun x C hC => ?_
 refine reach_res env13_all env13_mix ok45 (fun id _ => hC id) (go45 x.1 x.2.1) ?_
 simp only [Tr.val, vMinus]
 repeat' split
 all_goals rfl

def vNot2 (x0 : Sem shVal) (_ : Sem shVal) : Sem shVal := vNot x0
theorem ok40 : fnChk env13.P 254 Tryz.f254 2 := by refine ⟨?_, ?_, ?_, ?_⟩ <;> kernel_rfl
theorem go40 (x0 : Sem shVal) (x1 : Sem shVal) : run env13 0 (fun _ => { }) (Func.results Tryz.f254).toList 400 (bodyOf Tryz.f254) (initSt (Func.ntmps Tryz.f254) [datum shVal x0, datum shVal x1] []) = Tr.ok (Leaf.ret (AV.agg [ai (vNot x0).1, ai (vNot x0).2.1, AV.str (vNot x0).2.2]) []) := by kernel_rfl
def F40 : FSem := plainT [shVal, shVal] [shVal] fun x => (vNot2 x.1 x.2.1, ())
theorem FOk40 : FOk env13.P env13.gl 254 F40 := by
 refine FOk_plainT ok40 fun x C hC => ?_
 refine reach_res env13_all env13_mix ok40 (fun id _ => hC id) (go40 x.1 x.2.1) ?_
 simp only [Tr.val, vNot2]
 repeat' split
 all_goals rfl

def vNull2 (x0 : Sem shVal) (_ : Sem shVal) : Sem shVal := vIsNull x0
theorem ok46 : fnChk env13.P 260 Tryz.f260 2 := by refine ⟨?_, ?_, ?_, ?_⟩ <;> kernel_rfl
theorem go46 (x0 : Sem shVal) (x1 : Sem shVal) : run env13 0 (fun _ => { }) (Func.results Tryz.f260).toList 400 (bodyOf Tryz.f260) (initSt (Func.ntmps Tryz.f260) [datum shVal x0, datum shVal x1] []) = Tr.ok (Leaf.ret (AV.agg [ai (vIsNull x0).1, ai (vIsNull x0).2.1, AV.str (vIsNull x0).2.2]) []) := by kernel_rfl
def F46 : FSem := plainT [shVal, shVal] [shVal] fun x => (vNull2 x.1 x.2.1, ())
theorem FOk46 : FOk env13.P env13.gl 260 F46 := by
 refine FOk_plainT ok46 fun x C hC => ?_
 refine reach_res env13_all env13_mix ok46 (fun id _ => hC id) (go46 x.1 x.2.1) ?_
 simp only [Tr.val, vNull2]
 repeat' split
 all_goals rfl

noncomputable def env14 : Env := ((((((env13.add 123 F60).add 256 F42).add 258 F44).add 259 F45).add 254 F40).add 260 F46)
theorem env14_all : EnvAll env14 := (EnvAll.addS (EnvAll.addS (EnvAll.addS (EnvAll.addS (EnvAll.addS (EnvAll.addS env13_all (SameE.refl env13) FOk60) ((SameE.refl env13).add _ _) FOk42) (((SameE.refl env13).add _ _).add _ _) FOk44) ((((SameE.refl env13).add _ _).add _ _).add _ _) FOk45) (((((SameE.refl env13).add _ _).add _ _).add _ _).add _ _) FOk40) ((((((SameE.refl env13).add _ _).add _ _).add _ _).add _ _).add _ _) FOk46)
theorem env14_mix : env14.P.follows .mixedOrders = true := (mix_add (mix_add (mix_add (mix_add (mix_add (mix_add env13_mix _ _) _ _) _ _) _ _) _ _) _ _)
open Go Go.Proofs

def vLess (x0 : Sem shVal) (x1 : Sem shVal) : Sem shVal := if (!vAlike x0 x1) = true then (0, 0, []) else vWhether (decide (vOrder x0 x1 < 0))
theorem ok43 : fnChk env14.P 257 Tryz.f257 2 := by refine ⟨?_, ?_, ?_, ?_⟩ <;> kernel_rfl
theorem go43 (x0 : Sem shVal) (x1 : Sem shVal) : run env14 0 (fun _ => { }) (Func.results Tryz.f257).toList 400 (bodyOf Tryz.f257) (initSt (Func.ntmps Tryz.f257) [datum shVal x0, datum shVal x1] []) = Tr.br (!vAlike x0 x1) (Tr.ok (Leaf.ret (AV.agg [ai 0, ai 0, AV.str []]) [])) (Tr.ok (Leaf.ret (AV.agg [ai (vWhether (decide (vOrder x0 x1 < 0))).1, ai (vWhether (decide (vOrder x0 x1 < 0))).2.1, AV.str (vWhether (decide (vOrder x0 x1 < 0))).2.2]) [])) := by kernel_rfl
def F43 : FSem := plainT [shVal, shVal] [shVal] fun x => (vLess x.1 x.2.1, ())
theorem FOk43 : FOk env14.P env14.gl 257 F43 := by
 refine FOk_plainT ok43 fun x C hC => ?_
 refine reach_res env14_all env14_mix ok43 (fun id _ => hC id) (go43 x.1 x.2.1) ?_
 simp only [Tr.val, vLess]
 repeat' split
 all_goals rfl

def vFew (x0 : Sem shVal) : Sem shVal := if decide ((↑(List.length x0.2.2) : Int) > 60) = true then (x0.1, x0.2.1, List.take (Int.toNat 60 - Int.toNat 0) (List.drop (Int.toNat 0) x0.2.2)) else x0
def vFewC (x0 : Sem shVal) : Bool := bif decide ((↑(List.length x0.2.2) : Int) > 60) then decide (0 ≤ 0) && decide (0 ≤ 60) && decide (60 ≤ (↑(List.length x0.2.2) : Int)) else true
theorem ok14 : fnChk env14.P 58 Tryz.f58 1 := by refine ⟨?_, ?_, ?_, ?_⟩ <;> kernel_rfl
theorem go14 (x0 : Sem shVal) : run env14 0 (fun _ => { }) (Func.results Tryz.f58).toList 400 (bodyOf Tryz.f58) (initSt (Func.ntmps Tryz.f58) [datum shVal x0] []) = Tr.br (decide ((↑(List.length x0.2.2) : Int) > 60)) (Tr.chk (decide (0 ≤ 0) && decide (0 ≤ 60) && decide (60 ≤ (↑(List.length x0.2.2) : Int))) (Tr.ok (Leaf.ret (AV.agg [ai x0.1, ai x0.2.1, AV.str (List.take (Int.toNat 60 - Int.toNat 0) (List.drop (Int.toNat 0) x0.2.2))]) []))) (Tr.ok (Leaf.ret (AV.agg [ai x0.1, ai x0.2.1, AV.str x0.2.2]) [])) := by kernel_rfl
def F14 : FSem := plainC [shVal] [shVal] (fun x => vFewC x.1) fun x => (vFew x.1, ())
theorem FOk14 : FOk env14.P env14.gl 58 F14 := by
 refine FOk_plainC ok14 fun x hx C hC => ?_
 refine reach_res env14_all env14_mix ok14 (fun id _ => hC id) (go14 x.1) ?_
 simp only [vFewC, Bool.cond_eq_ite] at hx
 simp only [Tr.val, vFew]
 repeat' split
 all_goals first | rfl | simp_all

def sFew (x0 : Sem Sh.str) : Sem Sh.str := if decide ((↑(List.length x0) : Int) > 20) = true then List.take (Int.toNat 20 - Int.toNat 0) (List.drop (Int.toNat 0) x0) else x0
def sFewC (x0 : Sem Sh.str) : Bool := bif decide ((↑(List.length x0) : Int) > 20) then decide (0 ≤ 0) && decide (0 ≤ 20) && decide (20 ≤ (↑(List.length x0) : Int)) else true
theorem ok12 : fnChk env14.P 99 Tryz.f99 1 := by refine ⟨?_, ?_, ?_, ?_⟩ <;> kernel_rfl
theorem go12 (x0 : Sem Sh.str) : run env14 0 (fun _ => { }) (Func.results Tryz.f99).toList 400 (bodyOf Tryz.f99) (initSt (Func.ntmps Tryz.f99) [datum Sh.str x0] []) = Tr.br (decide ((↑(List.length x0) : Int) > 20)) (Tr.chk (decide (0 ≤ 0) && decide (0 ≤ 20) && decide (20 ≤ (↑(List.length x0) : Int))) (Tr.ok (Leaf.ret (AV.str (List.take (Int.toNat 20 - Int.toNat 0) (List.drop (Int.toNat 0) x0))) []))) (Tr.ok (Leaf.ret (AV.str x0) [])) := by kernel_rfl
def F12 : FSem := plainC [Sh.str] [Sh.str] (fun x => sFewC x.1) fun x => (sFew x.1, ())
theorem FOk12 : FOk env14.P env14.gl 99 F12 := by
 refine FOk_plainC ok12 fun x hx C hC => ?_
 refine reach_res env14_all env14_mix ok12 (fun id _ => hC id) (go12 x.1) ?_
 simp only [sFewC, Bool.cond_eq_ite] at hx
 simp only [Tr.val, sFew]
 repeat' split
 all_goals first | rfl | simp_all

noncomputable def F79 : FSem := liftF (List.replicate 2 none) (autoG env14 Tryz.f227 (List.replicate 2 none))
theorem FOk79 : FOk env14.P env14.gl 227 F79 := FOk_auto _ env14_all env14_mix (by refine ⟨?_, ?_, ?_, ?_⟩ <;> kernel_rfl)

noncomputable def F18 : FSem := liftF (List.replicate 2 none) (autoG env14 Tryz.f47 (List.replicate 2 none))
theorem FOk18 : FOk env14.P env14.gl 47 F18 := FOk_auto _ env14_all env14_mix (by refine ⟨?_, ?_, ?_, ?_⟩ <;> kernel_rfl)

noncomputable def env15 : Env := (((((env14.add 257 F43).add 58 F14).add 99 F12).add 227 F79).add 47 F18)
theorem env15_all : EnvAll env15 := (EnvAll.addS (EnvAll.addS (EnvAll.addS (EnvAll.addS (EnvAll.addS env14_all (SameE.refl env14) FOk43) ((SameE.refl env14).add _ _) FOk14) (((SameE.refl env14).add _ _).add _ _) FOk12) ((((SameE.refl env14).add _ _).add _ _).add _ _) FOk79) (((((SameE.refl env14).add _ _).add _ _).add _ _).add _ _) FOk18)
theorem env15_mix : env15.P.follows .mixedOrders = true := (mix_add (mix_add (mix_add (mix_add (mix_add env14_mix _ _) _ _) _ _) _ _) _ _)
open Go Go.Proofs

theorem Reach.lenB {E : Env} {C : Ctx} {fn : FuncId} {todo : List Item} {st : St} {Q : AV → List AO → Prop} (id c : Nat) (e : Sh) (l : List (Sem e)) {cs : List AV} (h1 : st.heap[id]? = some (.box cs)) (h2 : cs[c]? = some (.sl e l)) (h : l.length ≤ maxStr → Reach E C fn todo st Q) : Reach E C fn todo st Q := by
 intro b cs' a w U ρ q1 q2 hc hW
 refine h ?_ b cs' a w U ρ q1 q2 hc hW
 have ho := hc.hp.ob id
 rw [show st.hp id = .box cs by simp [St.hp, List.getD_eq_getElem?_getD, h1]] at ho
 obtain ⟨bk, T, vals, _, _, _, hr, _⟩ := ho
 have hlt : c < vals.toList.length := by rw [← hr.len]; exact (List.getElem?_eq_some_iff.1 h2).1
 have := hr.rv c _ _ h2 (List.getElem?_eq_getElem hlt)
 generalize vals.toList[c] = v at this
 cases this with
 | sl0 => simp
 | sl _ _ _ _ _ _ _ hm => exact hm

abbrev kp6 : Nat → Keep := fun j => if j = 3 then { slots := [0, 3, 4], prom := [(3, none, shVal)] } else { }
abbrev s6_3 (l0 : List (Sem shVal)) (i4 : Int) (lh_0 : List (Sem shVal)) : St := { tmps := [AV.sl shVal l0, ny, ny, AV.vec 0, ai i4, ny, ny, ny, ny, ny, ny, ny, ny, ny, ny, ny, ny, ny, ny, ny, ny, ny, ny, ny], heap := [AO.vec shVal lh_0] }
theorem ok6 : fnChk env15.P 26 Tryz.f26 1 := by refine ⟨?_, ?_, ?_, ?_⟩ <;> kernel_rfl
theorem go6 (x0 : Sem shVal.sl) : run env15 0 kp6 (Func.results Tryz.f26).toList 400 (bodyOf Tryz.f26) (initSt (Func.ntmps Tryz.f26) [datum shVal.sl x0] []) = Tr.ok (Leaf.head 3 (headK Tryz.f26 3) (s6_3 x0 0 [])) := by kernel_rfl
theorem on6_3 (l0 : List (Sem shVal)) (i4 : Int) (lh_0 : List (Sem shVal)) : run env15 0 kp6 (Func.results Tryz.f26).toList 400 (headK Tryz.f26 3) (s6_3 l0 i4 lh_0) = Tr.br (bif decide (i4 < (↑l0.length : Int)) then decide (i4 < 14) else false) (Tr.chk (inB i4 l0.length) (Tr.chk (vFewC (l0.getD i4.toNat (dflt shVal))) (Tr.chk (decide (lh_0.length + [vFew (l0.getD i4.toNat (dflt shVal))].length ≤ 1073741824)) (Tr.ok (Leaf.head 3 (headK Tryz.f26 3) (s6_3 l0 (IntKind.i64.wrap (i4 + 1)) (lh_0 ++ [vFew (l0.getD i4.toNat (dflt shVal))]))))))) (Tr.ok (Leaf.ret (AV.vec 0) [AO.vec shVal lh_0])) := by kernel_rfl
def lFew2_3 : List (Sem shVal) → Int → List (Sem shVal) → Sem shVal.sl
 | [], _, lh_0 => lh_0
 | x :: r, i4, lh_0 => if decide (i4 < 14) = true then lFew2_3 r (i4 + 1) (lh_0 ++ [vFew x]) else lh_0
def lFew2C_3 : List (Sem shVal) → Int → List (Sem shVal) → Bool
 | [], _, _ => true
 | x :: r, i4, lh_0 => if decide (i4 < 14) = true then vFewC x && (decide (lh_0.length + [vFew x].length ≤ 1073741824) && lFew2C_3 r (i4 + 1) (lh_0 ++ [vFew x])) else true
theorem at6_3 {C : Ctx} (hC : ∀ id, C.ρ0 id = none) (l0 : List (Sem shVal)) (hl : l0.length ≤ maxStr) : ∀ (m i : Nat) (lh_0 : List (Sem shVal)), l0.length - i = m → i ≤ l0.length → lFew2C_3 (l0.drop i) i lh_0 = true →
  Reach env15 C 26 (headK Tryz.f26 3) (s6_3 l0 (i : Int) lh_0) (fun r h => resOf h [shVal.sl] r = some (lFew2_3 (l0.drop i) i lh_0, ())) := by
 intro m
 induction m with
 | zero =>
  intro i lh_0 hm hi hc
  obtain rfl : i = l0.length := by omega
  rw [List.drop_length] at hc ⊢
  refine reach_ok env15_all env15_mix ok6 (fun id _ => hC id) (on6_3 _ _ _) ?_
  simp only [lFew2C_3] at hc
  simp only [Tr.val, lt_dec', cond_false, lFew2_3]
  repeat' split
  all_goals first | rfl | simp_all
 | succ m IH =>
  intro i lh_0 hm hi hc
  have hlt : i < l0.length := by omega
  have IH := IH (i + 1)
  have hcast : ((i : Int) + 1) = ((i + 1 : Nat) : Int) := by omega
  have hwr := wrap_add i (by omega)
  rw [List.drop_eq_getElem_cons hlt] at hc ⊢
  refine reach_ok env15_all env15_mix ok6 (fun id _ => hC id) (on6_3 _ _ _) ?_
  simp only [lFew2C_3] at hc
  simp only [Tr.val, lt_dec hlt, inB_of hlt, getD_at l0 _ hlt, hwr, cond_true, if_true, lFew2_3]
  clear hwr
  (try simp only [hcast] at hc ⊢)
  repeat' split
  all_goals first | (change Reach _ _ _ _ _ _; apply IH <;> first | omega | assumption | (clear IH; simp_all)) | rfl | (clear IH; simp_all)
theorem at6_3s {C : Ctx} (hC : ∀ id, C.ρ0 id = none) (l0 : List (Sem shVal)) (lh_0 : List (Sem shVal)) (hc : lFew2C_3 l0 0 lh_0 = true) :
  Reach env15 C 26 (headK Tryz.f26 3) (s6_3 l0 0 lh_0) (fun r h => resOf h [shVal.sl] r = some (lFew2_3 l0 0 lh_0, ())) :=
 Reach.len 0 (shVal) l0 rfl fun hl => at6_3 hC l0 hl _ 0 lh_0 rfl (Nat.zero_le _) hc
def lFew2 (x0 : Sem shVal.sl) : Sem shVal.sl := lFew2_3 x0 0 []
def lFew2C (x0 : Sem shVal.sl) : Bool := lFew2C_3 x0 0 []
def F6 : FSem := plainC [shVal.sl] [shVal.sl] (fun x => lFew2C x.1) fun x => (lFew2 x.1, ())
theorem FOk6 : FOk env15.P env15.gl 26 F6 := by
 refine FOk_plainC ok6 fun x hx C hC => ?_
 simp only [lFew2C] at hx
 refine reach_ok env15_all env15_mix ok6 (fun id _ => hC id) (go6 x.1) ?_
 simp only [Tr.val, lFew2]
 repeat' split
 all_goals first | (change Reach _ _ _ _ _ _; apply at6_3s hC <;> first | assumption | simp_all) | rfl | simp_all

abbrev kp13 : Nat → Keep := fun j => if j = 3 then { slots := [0, 3, 4], prom := [(3, none, shCol)] } else { }
abbrev s13_3 (l0 : List (Sem shCol)) (i4 : Int) (lh_0 : List (Sem shCol)) : St := { tmps := [AV.sl shCol l0, ny, ny, AV.vec 0, ai i4, ny, ny, ny, ny, ny, ny, ny, ny, ny, ny, ny, ny, ny, ny, ny, ny, ny, ny, ny, ny, ny, ny, ny, ny, ny, ny, ny, ny], heap := [AO.vec shCol lh_0] }
theorem ok13 : fnChk env15.P 24 Tryz.f24 1 := by refine ⟨?_, ?_, ?_, ?_⟩ <;> kernel_rfl
theorem go13 (x0 : Sem shCol.sl) : run env15 0 kp13 (Func.results Tryz.f24).toList 400 (bodyOf Tryz.f24) (initSt (Func.ntmps Tryz.f24) [datum shCol.sl x0] []) = Tr.ok (Leaf.head 3 (headK Tryz.f24 3) (s13_3 x0 0 [])) := by kernel_rfl
theorem on13_3 (l0 : List (Sem shCol)) (i4 : Int) (lh_0 : List (Sem shCol)) : run env15 0 kp13 (Func.results Tryz.f24).toList 400 (headK Tryz.f24 3) (s13_3 l0 i4 lh_0) = Tr.br (bif decide (i4 < (↑l0.length : Int)) then decide (i4 < 9) else false) (Tr.chk (inB i4 l0.length) (Tr.br (decide ((↑(List.length (l0.getD i4.toNat (dflt shCol)).1) : Int) > 20)) (Tr.chk (decide (0 ≤ 0) && decide (0 ≤ 20) && decide (20 ≤ (↑(List.length (l0.getD i4.toNat (dflt shCol)).1) : Int))) (Tr.chk (decide (lh_0.length + [(List.take (Int.toNat 20 - Int.toNat 0) (List.drop (Int.toNat 0) (l0.getD i4.toNat (dflt shCol)).1), (l0.getD i4.toNat (dflt shCol)).2)].length ≤ 1073741824)) (Tr.ok (Leaf.head 3 (headK Tryz.f24 3) (s13_3 l0 (IntKind.i64.wrap (i4 + 1)) (lh_0 ++ [(List.take (Int.toNat 20 - Int.toNat 0) (List.drop (Int.toNat 0) (l0.getD i4.toNat (dflt shCol)).1), (l0.getD i4.toNat (dflt shCol)).2)])))))) (Tr.chk (decide (lh_0.length + [l0.getD i4.toNat (dflt shCol)].length ≤ 1073741824)) (Tr.ok (Leaf.head 3 (headK Tryz.f24 3) (s13_3 l0 (IntKind.i64.wrap (i4 + 1)) (lh_0 ++ [l0.getD i4.toNat (dflt shCol)]))))))) (Tr.ok (Leaf.ret (AV.vec 0) [AO.vec shCol lh_0])) := by kernel_rfl
def lCols_3 : List (Sem shCol) → Int → List (Sem shCol) → Sem shCol.sl
 | [], _, lh_0 => lh_0
 | x :: r, i4, lh_0 => if decide (i4 < 9) = true then
 if decide ((↑(List.length x.1) : Int) > 20) = true then
  lCols_3 r (i4 + 1) (lh_0 ++ [(List.take (Int.toNat 20 - Int.toNat 0) (List.drop (Int.toNat 0) x.1), x.2)])
 else lCols_3 r (i4 + 1) (lh_0 ++ [x])
else lh_0
def lColsC_3 : List (Sem shCol) → Int → List (Sem shCol) → Bool
 | [], _, _ => true
 | x :: r, i4, lh_0 => if decide (i4 < 9) = true then
 if decide ((↑(List.length x.1) : Int) > 20) = true then
  decide (0 ≤ 0) && decide (0 ≤ 20) && decide (20 ≤ (↑(List.length x.1) : Int)) &&
   (decide (lh_0.length + [(List.take (Int.toNat 20 - Int.toNat 0) (List.drop (Int.toNat 0) x.1), x.2)].length ≤ 1073741824) &&
    lColsC_3 r (i4 + 1) (lh_0 ++ [(List.take (Int.toNat 20 - Int.toNat 0) (List.drop (Int.toNat 0) x.1), x.2)]))
 else decide (lh_0.length + [x].length ≤ 1073741824) && lColsC_3 r (i4 + 1) (lh_0 ++ [x])
else true
theorem at13_3 {C : Ctx} (hC : ∀ id, C.ρ0 id = none) (l0 : List (Sem shCol)) (hl : l0.length ≤ maxStr) : ∀ (m i : Nat) (lh_0 : List (Sem shCol)), l0.length - i = m → i ≤ l0.length → lColsC_3 (l0.drop i) i lh_0 = true →
  Reach env15 C 24 (headK Tryz.f24 3) (s13_3 l0 (i : Int) lh_0) (fun r h => resOf h [shCol.sl] r = some (lCols_3 (l0.drop i) i lh_0, ())) := by
 intro m
 induction m with
 | zero =>
  intro i lh_0 hm hi hc
  obtain rfl : i = l0.length := by omega
  rw [List.drop_length] at hc ⊢
  refine reach_ok env15_all env15_mix ok13 (fun id _ => hC id) (on13_3 _ _ _) ?_
  simp only [lColsC_3] at hc
  simp only [Tr.val, lt_dec', cond_false, lCols_3]
  repeat' split
  all_goals first | rfl | simp_all
 | succ m IH =>
  intro i lh_0 hm hi hc
  have hlt : i < l0.length := by omega
  have IH := IH (i + 1)
  have hcast : ((i : Int) + 1) = ((i + 1 : Nat) : Int) := by omega
  have hwr := wrap_add i (by omega)
  rw [List.drop_eq_getElem_cons hlt] at hc ⊢
  refine reach_ok env15_all env15_mix ok13 (fun id _ => hC id) (on13_3 _ _ _) ?_
  simp only [lColsC_3] at hc
  simp only [Tr.val, lt_dec hlt, inB_of hlt, getD_at l0 _ hlt, hwr, cond_true, if_true, lCols_3]
  clear hwr
  (try simp only [hcast] at hc ⊢)
  repeat' split
  all_goals first | (change Reach _ _ _ _ _ _; apply IH <;> first | omega | assumption | (clear IH; simp_all)) | rfl | (clear IH; simp_all)
theorem at13_3s {C : Ctx} (hC : ∀ id, C.ρ0 id = none) (l0 : List (Sem shCol)) (lh_0 : List (Sem shCol)) (hc : lColsC_3 l0 0 lh_0 = true) :
  Reach env15 C 24 (headK Tryz.f24 3) (s13_3 l0 0 lh_0) (fun r h => resOf h [shCol.sl] r = some (lCols_3 l0 0 lh_0, ())) :=
 Reach.len 0 (shCol) l0 rfl fun hl => at13_3 hC l0 hl _ 0 lh_0 rfl (Nat.zero_le _) hc
def lCols (x0 : Sem shCol.sl) : Sem shCol.sl := lCols_3 x0 0 []
def lColsC (x0 : Sem shCol.sl) : Bool := lColsC_3 x0 0 []
def F13 : FSem := plainC [shCol.sl] [shCol.sl] (fun x => lColsC x.1) fun x => (lCols x.1, ())
theorem FOk13 : FOk env15.P env15.gl 24 F13 := by
 refine FOk_plainC ok13 fun x hx C hC => ?_
 simp only [lColsC] at hx
 refine reach_ok env15_all env15_mix ok13 (fun id _ => hC id) (go13 x.1) ?_
 simp only [Tr.val, lCols]
 repeat' split
 all_goals first | (change Reach _ _ _ _ _ _; apply at13_3s hC <;> first | assumption | simp_all) | rfl | simp_all

noncomputable def env16 : Env := ((env15.add 26 F6).add 24 F13)
theorem env16_all : EnvAll env16 := (EnvAll.addS (EnvAll.addS env15_all (SameE.refl env15) FOk6) ((SameE.refl env15).add _ _) FOk13)
theorem env16_mix : env16.P.follows .mixedOrders = true := (mix_add (mix_add env15_mix _ _) _ _)
open Go Go.Proofs

theorem FOk_tot {P : Program} {gl : Nat → AV} {k : FuncId} {ks outs : List Sh} {c : HArgs (ks.map some) → Bool} {g : HArgs (ks.map some) → HArgs (outs.map some)} (h : FOk P gl k (plainC ks outs c g)) (hc : ∀ x, c x = true) : FOk P gl k (plainT ks outs g) :=
 FOk_T (by rwa [show c = fun _ => true from funext hc] at h)

theorem vFewC_true (v : V) : vFewC v = true := by
 unfold vFewC
 cases h : decide ((↑(List.length v.2.2) : Int) > 60)
 ·rfl
 ·simp only [decide_eq_true_eq] at h
  simp only [cond_true, Bool.and_eq_true, decide_eq_true_eq]
  omega
theorem sFewC_true (s : Str) : sFewC s = true := by
 unfold sFewC
 cases h : decide ((↑(List.length s) : Int) > 20)
 ·rfl
 ·simp only [decide_eq_true_eq] at h
  simp only [cond_true, Bool.and_eq_true, decide_eq_true_eq]
  omega
theorem lFew2C_3_true : ∀ (l : List (Sem shVal)) (i : Int) (a : List (Sem shVal)), (a.length : Int) ≤ i → lFew2C_3 l i a = true
 | [], _, _, _ => rfl
 | x :: r, i, a, h => by
  simp only [lFew2C_3, vFewC_true]
  split
  ·rename_i hi
   simp only [decide_eq_true_eq] at hi
   rw [lFew2C_3_true r (i + 1) _ (by simp; omega)]
   simp; omega
  ·rfl
theorem lColsC_3_true : ∀ (l : List (Sem shCol)) (i : Int) (a : List (Sem shCol)), (a.length : Int) ≤ i → lColsC_3 l i a = true
 | [], _, _, _ => rfl
 | x :: r, i, a, h => by
  simp only [lColsC_3]
  split
  ·rename_i hi
   simp only [decide_eq_true_eq] at hi
   split
   ·rename_i hx
    simp only [decide_eq_true_eq] at hx
    rw [lColsC_3_true r (i + 1) _ (by simp; omega)]
    simp; omega
   ·rw [lColsC_3_true r (i + 1) _ (by simp; omega)]
    simp; omega
  ·rfl
def F14t : FSem := plainT [shVal] [shVal] fun x => (vFew x.1, ())
theorem FOk14t : FOk env16.P env16.gl 58 F14t := FOk_tot FOk14 fun x => vFewC_true x.1
def F12t : FSem := plainT [Sh.str] [Sh.str] fun x => (sFew x.1, ())
theorem FOk12t : FOk env16.P env16.gl 99 F12t := FOk_tot FOk12 fun x => sFewC_true x.1
def F6t : FSem := plainT [shVal.sl] [shVal.sl] fun x => (lFew2 x.1, ())
theorem FOk6t : FOk env16.P env16.gl 26 F6t := FOk_tot FOk6 fun x => lFew2C_3_true x.1 0 [] (by simp)
def F13t : FSem := plainT [shCol.sl] [shCol.sl] fun x => (lCols x.1, ())
theorem FOk13t : FOk env16.P env16.gl 24 F13t := FOk_tot FOk13 fun x => lColsC_3_true x.1 0 [] (by simp)

abbrev kpIx : Nat → Keep := fun _ => { slots := [0, 1, 7, 8] }
def ixTree {K : List Item} {e : Sh} (l : List (Sem e)) (p : Sem e → Bool) (st : Int → St) (h0 : List AO) (i : Int) : Tr Leaf := .br (decide (i < (l.length : Int))) (.chk (inB i l.length) (.br (p (l.getD i.toNat (dflt e))) (.ok (.ret (.int .i64 i) h0)) (.ok (.head 2 K (st (IntKind.i64.wrap (i + 1))))))) (.ok (.ret (.int .i64 (-1)) h0))

theorem reach_ixf {E : Env} {C : Ctx} {k : FuncId} {f : Func} {n n0 : Nat} {keep : Nat → Keep} {fuel : Nat} {K : List Item} {e : Sh} (l : List (Sem e)) (p : Sem e → Bool) (st : Int → St) {h0 : List AO}
  (hE : EnvAll E) (hm : E.P.follows .mixedOrders = true) (hf : fnChk E.P k f n) (hC : ∀ id, n0 ≤ id → C.ρ0 id = none)
  (hon : ∀ i, run E n0 keep f.results.toList fuel K (st i) = ixTree (K := K) l p st h0 i) (hl : l.length ≤ maxStr) : ∀ (m i : Nat), l.length - i = m → i ≤ l.length →
  Reach E C k K (st i) (fun r h => (r, h) = (.int .i64 (ixFrom p (l.drop i) i), h0)) := by
 intro m
 induction m with
 | zero =>
  intro i hm' hi
  obtain rfl : i = l.length := by omega
  refine reach_ok hE hm hf hC (hon _) ?_
  simp only [ixTree, Tr.val, lt_dec', List.drop_length]
  rfl
 | succ m IH =>
  intro i hm' hi
  have hlt : i < l.length := by omega
  refine reach_ok hE hm hf hC (hon _) ?_
  rw [List.drop_eq_getElem_cons hlt]
  simp only [ixTree, Tr.val, lt_dec hlt, inB_of hlt, getD_at l _ hlt, wrap_add i (by omega), if_true, ixFrom]
  split
  ·rfl
  ·exact IH (i + 1) (by omega) (by omega)

abbrev s104_79 (t : Int) (l : List (Sem shInt)) (i : Int) : St := { tmps := [.sl shInt l, .clo (.func 227) [] [.ptr 0 0], .any, .any, .any, .any, .any, .int .i64 l.length, .int .i64 i, .any, .any, .any, .any, .any, .any, .any, .any, .any, .any], heap := [.box [.int .i64 t]] }
theorem go104_79 (t : Int) (l : List (Sem shInt)) : run env16 1 kpIx Tryz.f262.results.toList 300 (bodyOf Tryz.f262) (initSt Tryz.f262.ntmps [.sl shInt l, .clo (.func 227) [] [.ptr 0 0]] [.box [.int .i64 t]]) = .ok (.head 2 (headK Tryz.f262 2) (s104_79 t l 0)) := by kernel_rfl
theorem on104_79 (t : Int) (l : List (Sem shInt)) (i : Int) : run env16 1 kpIx Tryz.f262.results.toList 300 (headK Tryz.f262 2) (s104_79 t l i) = ixTree (K := headK Tryz.f262 2) (e := shInt) l (fun x => bif x != t then x != 0 else false) (s104_79 t l) [.box [.int .i64 t]] i := by kernel_rfl

theorem ok104 : fnChk env16.P 262 Tryz.f262 2 := by refine ⟨?_, ?_, ?_, ?_⟩ <;> kernel_rfl
def G104 : GSem [some (.sl shInt), none] := fun x h => match x, h with
 | (l, .clo (.func 227) [] [.ptr 0 0], _), [.box [.int .i64 t]] => .ok (.int .i64 (ixFrom (fun x => bif x != t then x != 0 else false) l 0), [.box [.int .i64 t]])
 | _, _ => .err
def F104 : FSem := liftF [some (.sl shInt), none] G104
theorem FOk104 : FOk env16.P env16.gl 262 F104 := by
 refine FOk_of ok104 fun x h0 res hx C hC => ?_
 unfold G104 at hx
 split at hx
 ·rename_i l u t
  simp only [Tr.val_ok, Option.some.injEq] at hx
  subst hx
  refine Reach.len 0 shInt l rfl fun hl => ?_
  refine reach_ok (n0 := 1) env16_all env16_mix ok104 hC (go104_79 t l) ?_
  exact reach_ixf l (fun x => bif x != t then x != 0 else false) (s104_79 t l) env16_all env16_mix ok104 hC (on104_79 t l) hl _ 0 rfl (Nat.zero_le _)
 ·simp at hx

noncomputable def env17 : Env := (((((env16.add 58 F14t).add 99 F12t).add 26 F6t).add 24 F13t).add 262 F104)
theorem env17_all : EnvAll env17 := (EnvAll.addS (EnvAll.addS (EnvAll.addS (EnvAll.addS (EnvAll.addS env16_all (SameE.refl env16) FOk14t) ((SameE.refl env16).add _ _) FOk12t) (((SameE.refl env16).add _ _).add _ _) FOk6t) ((((SameE.refl env16).add _ _).add _ _).add _ _) FOk13t) (((((SameE.refl env16).add _ _).add _ _).add _ _).add _ _) FOk104)
theorem env17_mix : env17.P.follows .mixedOrders = true := (mix_add (mix_add (mix_add (mix_add (mix_add env16_mix _ _) _ _) _ _) _ _) _ _)
open Go Go.Proofs

noncomputable def F78 : FSem := liftF [some (.sl shInt), none] (autoG env17 Tryz.f226 [some (.sl shInt), none])
theorem FOk78 : FOk env17.P env17.gl 226 F78 := FOk_auto _ env17_all env17_mix (by refine ⟨?_, ?_, ?_, ?_⟩ <;> kernel_rfl)

def wName (x0 : Sem Sh.str) : Sem Sh.bool := wordOk x0
theorem ok25 : fnChk env17.P 88 Tryz.f88 1 := by refine ⟨?_, ?_, ?_, ?_⟩ <;> kernel_rfl
theorem go25 (x0 : Sem Sh.str) : run env17 0 (fun _ => { }) (Func.results Tryz.f88).toList 400 (bodyOf Tryz.f88) (initSt (Func.ntmps Tryz.f88) [datum Sh.str x0] []) = Tr.ok (Leaf.ret (AV.bool (wordOk x0)) []) := by kernel_rfl
def F25 : FSem := plainT [Sh.str] [Sh.bool] fun x => (wName x.1, ())
theorem FOk25 : FOk env17.P env17.gl 88 F25 := by
 refine FOk_plainT ok25 fun x C hC => ?_
 refine reach_res env17_all env17_mix ok25 (fun id _ => hC id) (go25 x.1) ?_
 simp only [Tr.val, wName]
 repeat' split
 all_goals rfl

def tPlace (x0 : Sem shTable) (x1 : Sem Sh.str) : Sem shInt := ixFrom (fun c => c.1 == x1) x0.2.1 0
theorem ok17 : fnChk env17.P 20 Tryz.f20 2 := by refine ⟨?_, ?_, ?_, ?_⟩ <;> kernel_rfl
theorem go17 (x0 : Sem shTable) (x1 : Sem Sh.str) : run env17 0 (fun _ => { }) (Func.results Tryz.f20).toList 400 (bodyOf Tryz.f20) (initSt (Func.ntmps Tryz.f20) [datum shTable x0, datum Sh.str x1] []) = Tr.ok (Leaf.ret (ai (ixFrom (fun c => c.1 == x1) x0.2.1 0)) []) := by kernel_rfl
def F17 : FSem := plainT [shTable, Sh.str] [shInt] fun x => (tPlace x.1 x.2.1, ())
theorem FOk17 : FOk env17.P env17.gl 20 F17 := by
 refine FOk_plainT ok17 fun x C hC => ?_
 refine reach_res env17_all env17_mix ok17 (fun id _ => hC id) (go17 x.1 x.2.1) ?_
 simp only [Tr.val, tPlace]
 repeat' split
 all_goals rfl

def cPlace (x0 : Sem shCol.sl) (x1 : Sem Sh.str) : Sem shInt := ixFrom (fun c => c.1 == x1) x0 0
theorem ok48 : fnChk env17.P 182 Tryz.f182 2 := by refine ⟨?_, ?_, ?_, ?_⟩ <;> kernel_rfl
theorem go48 (x0 : Sem shCol.sl) (x1 : Sem Sh.str) : run env17 0 (fun _ => { }) (Func.results Tryz.f182).toList 400 (bodyOf Tryz.f182) (initSt (Func.ntmps Tryz.f182) [datum shCol.sl x0, datum Sh.str x1] []) = Tr.ok (Leaf.ret (ai (ixFrom (fun c => c.1 == x1) x0 0)) []) := by kernel_rfl
def F48 : FSem := plainT [shCol.sl, Sh.str] [shInt] fun x => (cPlace x.1 x.2.1, ())
theorem FOk48 : FOk env17.P env17.gl 182 F48 := by
 refine FOk_plainT ok48 fun x C hC => ?_
 refine reach_res env17_all env17_mix ok48 (fun id _ => hC id) (go48 x.1 x.2.1) ?_
 simp only [Tr.val, cPlace]
 repeat' split
 all_goals rfl

noncomputable def env18 : Env := ((((env17.add 226 F78).add 88 F25).add 20 F17).add 182 F48)
theorem env18_all : EnvAll env18 := (EnvAll.addS (EnvAll.addS (EnvAll.addS (EnvAll.addS env17_all (SameE.refl env17) FOk78) ((SameE.refl env17).add _ _) FOk25) (((SameE.refl env17).add _ _).add _ _) FOk17) ((((SameE.refl env17).add _ _).add _ _).add _ _) FOk48)
theorem env18_mix : env18.P.follows .mixedOrders = true := (mix_add (mix_add (mix_add (mix_add env17_mix _ _) _ _) _ _) _ _)
open Go Go.Proofs

def allT (x0 : Sem shInt.sl) (x1 : Sem shInt) : Sem Sh.bool := !decide (ixFrom (fun x => bif x != x1 then x != 0 else false) x0 0 ≥ 0)
theorem ok66 : fnChk env18.P 183 Tryz.f183 2 := by refine ⟨?_, ?_, ?_, ?_⟩ <;> kernel_rfl
theorem go66 (x0 : Sem shInt.sl) (x1 : Sem shInt) : run env18 0 (fun _ => { }) (Func.results Tryz.f183).toList 400 (bodyOf Tryz.f183) (initSt (Func.ntmps Tryz.f183) [datum shInt.sl x0, datum shInt x1] []) = Tr.ok (Leaf.ret (AV.bool !decide (ixFrom (fun x => bif x != x1 then x != 0 else false) x0 0 ≥ 0)) []) := by kernel_rfl
def F66 : FSem := plainT [shInt.sl, shInt] [Sh.bool] fun x => (allT x.1 x.2.1, ())
theorem FOk66 : FOk env18.P env18.gl 183 F66 := by
 refine FOk_plainT ok66 fun x C hC => ?_
 refine reach_res env18_all env18_mix ok66 (fun id _ => hC id) (go66 x.1 x.2.1) ?_
 simp only [Tr.val, allT]
 repeat' split
 all_goals rfl

def nameOk (x0 : Sem Sh.str) : Sem Sh.bool := bif wName x0 then !resv x0 else false
theorem ok16 : fnChk env18.P 46 Tryz.f46 1 := by refine ⟨?_, ?_, ?_, ?_⟩ <;> kernel_rfl
theorem go16 (x0 : Sem Sh.str) : run env18 0 (fun _ => { }) (Func.results Tryz.f46).toList 400 (bodyOf Tryz.f46) (initSt (Func.ntmps Tryz.f46) [datum Sh.str x0] []) = Tr.ok (Leaf.ret (AV.bool (bif wName x0 then !resv x0 else false)) []) := by kernel_rfl
def F16 : FSem := plainT [Sh.str] [Sh.bool] fun x => (nameOk x.1, ())
theorem FOk16 : FOk env18.P env18.gl 46 F16 := by
 refine FOk_plainT ok16 fun x C hC => ?_
 refine reach_res env18_all env18_mix ok16 (fun id _ => hC id) (go16 x.1) ?_
 simp only [Tr.val, nameOk]
 repeat' split
 all_goals rfl

noncomputable def env19 : Env := ((env18.add 183 F66).add 46 F16)
theorem env19_all : EnvAll env19 := (EnvAll.addS (EnvAll.addS env18_all (SameE.refl env18) FOk66) ((SameE.refl env18).add _ _) FOk16)
theorem env19_mix : env19.P.follows .mixedOrders = true := (mix_add (mix_add env18_mix _ _) _ _)
open Go Go.Proofs
theorem FOk_none {P : Program} {gl : Nat → AV} {k : FuncId} {ks outs : List Sh} {c : HArgs (ks.map some) → Bool} {g : HArgs (ks.map some) → HArgs (outs.map some)} (hf : ∃ fn, P.funcs[k]? = some fn ∧ (fn.name == "runtime.NumGoroutine") = false ∧ fn.body.isNone = false) (hc : ∀ x, c x = false) : FOk P gl k (plainC ks outs c g) := by
 refine ⟨hf, ?_⟩
 intro w U ρ hp n args vals f fp hv
 exfalso
 unfold plainC liftF at hv
 split at hv
 ·simp only at hv
  split at hv
  ·split at hv
   ·simp only [Tr.val_bind, Option.bind_eq_some_iff] at hv
    obtain ⟨res, h1, h2⟩ := hv
    unfold plainCG at h1
    split at h1
    ·simp only [Tr.val, hc] at h1
     simp at h1
    ·simp at h1
   ·simp at hv
  ·simp at hv
 ·simp at hv
theorem OptOk_br {Φ : Leaf → Prop} {c : Bool} {t f : Tr Leaf} (h1 : c = true → OptOk Φ t.val) (h2 : c = false → OptOk Φ f.val) : OptOk Φ (Tr.br c t f).val := by
 cases c
 ·simpa [Tr.val] using h2 rfl
 ·simpa [Tr.val] using h1 rfl
theorem OptOk_chk {Φ : Leaf → Prop} {c : Bool} {t : Tr Leaf} (hc : c = true) (h : OptOk Φ t.val) : OptOk Φ (Tr.chk c t).val := by
 subst hc
 simpa [Tr.val] using h
theorem OptOk_chkT {Φ : Leaf → Prop} {t : Tr Leaf} (h : OptOk Φ t.val) : OptOk Φ (Tr.chk true t).val := h
theorem ne_t {c : Bool} (h : c = false) : ¬ c = true := by rw [h]; simp
theorem guard_ite {c g : Bool} (h : (if c = true then g else false) = true) : c = true ∧ g = true := by
 split at h
 ·exact ⟨‹_›, h⟩
 ·cases h
theorem obr {Φ : Leaf → Prop} {c : Bool} {t f : Tr Leaf} {α : Sort _} {a b y : α} {p q : Bool} (hy : (if c = true then a else b) = y) (hc : (if c = true then p else q) = true) (h1 : c = true → a = y → p = true → OptOk Φ t.val) (h2 : c = false → b = y → q = true → OptOk Φ f.val) : OptOk Φ (Tr.br c t f).val :=
 OptOk_br (fun h => h1 h (by rwa [if_pos h] at hy) (by rwa [if_pos h] at hc)) (fun h => h2 h (by rwa [if_neg (ne_t h)] at hy) (by rwa [if_neg (ne_t h)] at hc))
theorem obr1 {Φ : Leaf → Prop} {c : Bool} {t f : Tr Leaf} {α : Sort _} {a b y : α} (hy : (if c = true then a else b) = y) (h1 : c = true → a = y → OptOk Φ t.val) (h2 : c = false → b = y → OptOk Φ f.val) : OptOk Φ (Tr.br c t f).val :=
 OptOk_br (fun h => h1 h (by rwa [if_pos h] at hy)) (fun h => h2 h (by rwa [if_neg (ne_t h)] at hy))
theorem ochk {Φ : Leaf → Prop} {c g : Bool} {t : Tr Leaf} (hc : (if c = true then g else false) = true) (h : g = true → OptOk Φ t.val) : OptOk Φ (Tr.chk c t).val :=
 OptOk_chk (guard_ite hc).1 (h (guard_ite hc).2)
theorem Tr.val_brT {α : Type} (t f : Tr α) : (Tr.br true t f).val = t.val := rfl
theorem Tr.val_brF {α : Type} (t f : Tr α) : (Tr.br false t f).val = f.val := rfl
theorem Tr.val_chkT {α : Type} (t : Tr α) : (Tr.chk true t).val = t.val := rfl
instance : Inhabited ExprT := ⟨.mk [] (0, 0, []) [] []⟩
instance (s : Sh) : Inhabited (Sem s) := ⟨dflt s⟩

noncomputable def en51 (g : Sem Sh.expr → Sem (Sh.sl shCol) → Sem shInt × Sem shInt) (c : Sem Sh.expr → Sem (Sh.sl shCol) → Bool) : Env := env19.add 126 (plainC [Sh.expr, Sh.sl shCol] [shInt, shInt] (fun x => c x.1 x.2.1) fun x => ((g x.1 x.2.1).1, (g x.1 x.2.1).2, ()))
theorem en51_all {g : Sem Sh.expr → Sem (Sh.sl shCol) → Sem shInt × Sem shInt} {c : Sem Sh.expr → Sem (Sh.sl shCol) → Bool} (hg : FOk env19.P env19.gl 126 (plainC [Sh.expr, Sh.sl shCol] [shInt, shInt] (fun x => c x.1 x.2.1) fun x => ((g x.1 x.2.1).1, (g x.1 x.2.1).2, ()))) : EnvAll (en51 g c) := env19_all.add hg
theorem en51_mix {g : Sem Sh.expr → Sem (Sh.sl shCol) → Sem shInt × Sem shInt} {c : Sem Sh.expr → Sem (Sh.sl shCol) → Bool} : (en51 g c).P.follows .mixedOrders = true := mix_add env19_mix _ _
abbrev kp51r : Nat → Keep := fun j => if j = 3 then { slots := [1, 2, 6, 15, 16, 17], prom := [(6, none, shInt)] } else { }
abbrev s51r_3 (l1 : LC) (l15 : LX) (i16 : Int) (i17 : Int) (ja0 : Str) (ja1 : Int) (ja2 : Int) (ja3 : Str) (ja4 : Str) (ja5 : LX) (lh_1 : LI) : St := { tmps := [ny, AV.sl shCol l1, AV.ptr 0 0, ny, ny, ny, AV.vec 1, ny, ny, ny, ny, ny, ny, ny, ny, AV.sl Sh.expr l15, ai i16, ai i17, ny, ny, ny, ny, ny, ny, ny, ny, ny, ny, ny, ny, ny, ny, ny, ny, ny, ny, ny, ny, ny, ny, ny, ny, ny, ny, ny, ny, ny, ny, ny, ny, ny, ny, ny, ny, ny, ny, ny, ny, ny, ny, ny, ny, ny, ny, ny, ny, ny, ny, ny, ny, ny, ny, ny, ny, ny, ny, ny, ny, ny, ny, ny, ny, ny, ny, ny, ny, ny, ny, ny, ny, ny], heap := [AO.box [AV.str ja0, ai ja1, ai ja2, AV.str ja3, AV.str ja4, AV.sl Sh.expr ja5], AO.vec shInt lh_1] }
theorem ok51r (g : Sem Sh.expr → Sem (Sh.sl shCol) → Sem shInt × Sem shInt) (c : Sem Sh.expr → Sem (Sh.sl shCol) → Bool) : fnChk (en51 g c).P 126 Tryz.f126 2 := by refine ⟨?_, ?_, ?_, ?_⟩ <;> kernel_rfl
theorem go51r (g : Sem Sh.expr → Sem (Sh.sl shCol) → Sem shInt × Sem shInt) (c : Sem Sh.expr → Sem (Sh.sl shCol) → Bool) (x0 : Sem Sh.expr) (x1 : Sem shCol.sl) : run (en51 g c) 0 kp51r (Func.results Tryz.f126).toList 400 (bodyOf Tryz.f126) (initSt (Func.ntmps Tryz.f126) [datum Sh.expr x0, datum shCol.sl x1] []) = Tr.ok (Leaf.head 3 (headK Tryz.f126 3) (s51r_3 x1 (ExprT.l x0) (↑(ExprT.l x0).length : Int) 0 (ExprT.op x0) (ExprT.v x0).1 (ExprT.v x0).2.1 (ExprT.v x0).2.2 (ExprT.s x0) (ExprT.l x0) [])) := by kernel_rfl
theorem on51r_3 (g : Sem Sh.expr → Sem (Sh.sl shCol) → Sem shInt × Sem shInt) (c : Sem Sh.expr → Sem (Sh.sl shCol) → Bool) (l1 : LC) (l15 : LX) (i16 : Int) (i17 : Int) (ja0 : Str) (ja1 : Int) (ja2 : Int) (ja3 : Str) (ja4 : Str) (ja5 : LX) (lh_1 : LI) : run (en51 g c) 0 kp51r (Func.results Tryz.f126).toList 400 (headK Tryz.f126 3) (s51r_3 l1 l15 i16 i17 ja0 ja1 ja2 ja3 ja4 ja5 lh_1) = Tr.br (decide (i17 < i16)) (Tr.chk (inB i17 l15.length) (Tr.chk (c (etaE (l15.getD i17.toNat (dflt Sh.expr))) l1) (Tr.br ((g (etaE (l15.getD i17.toNat (dflt Sh.expr))) l1).2 != 0) (Tr.ok (Leaf.ret (AV.tup [ai 0, AV.int IntKind.i64 (g (etaE (l15.getD i17.toNat (dflt Sh.expr))) l1).2]) [])) (Tr.chk (decide (lh_1.length + [(g (etaE (l15.getD i17.toNat (dflt Sh.expr))) l1).1].length ≤ 1073741824)) (Tr.ok (Leaf.head 3 (headK Tryz.f126 3) (s51r_3 l1 l15 i16 (IntKind.i64.wrap (i17 + 1)) ja0 ja1 ja2 ja3 ja4 ja5 (lh_1 ++ [(g (etaE (l15.getD i17.toNat (dflt Sh.expr))) l1).1])))))))) (Tr.br (ja0 == [108, 105, 116]) (Tr.ok (Leaf.ret (AV.tup [ai ja1, ai 0]) [])) (Tr.br (ja0 == [99, 111, 108]) (Tr.br (decide (cPlace l1 ja4 < 0)) (Tr.ok (Leaf.ret (AV.tup [ai 0, ai 4]) [])) (Tr.chk (inB (cPlace l1 ja4) l1.length) (Tr.ok (Leaf.ret (AV.tup [ai (l1.getD (Int.toNat (cPlace l1 ja4)) (dflt shCol)).2.1, ai 0]) [])))) (Tr.br (ja0 == [110, 111, 116])
 (Tr.br (!allT lh_1 3) (Tr.ok (Leaf.ret (AV.tup [ai 0, ai 5]) [])) (Tr.ok (Leaf.ret (AV.tup [ai 3, ai 0]) []))) (Tr.br (ja0 == [97, 110, 100]) (Tr.br (!allT lh_1 3) (Tr.ok (Leaf.ret (AV.tup [ai 0, ai 5]) [])) (Tr.ok (Leaf.ret (AV.tup [ai 3, ai 0]) []))) (Tr.br (ja0 == [111, 114]) (Tr.br (!allT lh_1 3) (Tr.ok (Leaf.ret (AV.tup [ai 0, ai 5]) [])) (Tr.ok (Leaf.ret (AV.tup [ai 3, ai 0]) []))) (Tr.br (ja0 == [61]) (Tr.chk (inB 0 lh_1.length && (decide (Int.toNat 0 < lh_1.length) && (inB 1 lh_1.length && (decide (Int.toNat 1 < lh_1.length) && bif lh_1.getD (Int.toNat 0) (dflt shInt) == lh_1.getD (Int.toNat 1) (dflt shInt) then true else inB 0 lh_1.length && (decide (Int.toNat 0 < lh_1.length) && bif lh_1.getD (Int.toNat 0) (dflt shInt) == 0 then true else inB 1 lh_1.length && decide (Int.toNat 1 < lh_1.length)))))) (Tr.br (!bif lh_1.getD (Int.toNat 0) (dflt shInt) == lh_1.getD (Int.toNat 1) (dflt shInt) then true else bif lh_1.getD (Int.toNat 0) (dflt shInt) == 0 then true else lh_1.getD (Int.toNat 1) (dflt shInt) == 0) (Tr.ok (Leaf.ret (AV.tup [ai 0, ai 5]) [])) (Tr.ok (Leaf.ret (AV.tup [ai 3, ai 0]) [])))) (Tr.br (ja0 == [60]) (Tr.chk (inB 0 lh_1.length && (decide (Int.toNat 0 < lh_1.length) && (inB 1 lh_1.length && (decide (Int.toNat 1 < lh_1.length) &&
 bif lh_1.getD (Int.toNat 0) (dflt shInt) == lh_1.getD (Int.toNat 1) (dflt shInt) then true else inB 0 lh_1.length && (decide (Int.toNat 0 < lh_1.length) && bif lh_1.getD (Int.toNat 0) (dflt shInt) == 0 then true else inB 1 lh_1.length && decide (Int.toNat 1 < lh_1.length)))))) (Tr.br (!bif lh_1.getD (Int.toNat 0) (dflt shInt) == lh_1.getD (Int.toNat 1) (dflt shInt) then true else bif lh_1.getD (Int.toNat 0) (dflt shInt) == 0 then true else lh_1.getD (Int.toNat 1) (dflt shInt) == 0) (Tr.ok (Leaf.ret (AV.tup [ai 0, ai 5]) [])) (Tr.ok (Leaf.ret (AV.tup [ai 3, ai 0]) [])))) (Tr.br (ja0 == [43]) (Tr.br (!allT lh_1 1) (Tr.ok (Leaf.ret (AV.tup [ai 0, ai 5]) [])) (Tr.ok (Leaf.ret (AV.tup [ai 1, ai 0]) []))) (Tr.br (ja0 == [45]) (Tr.br (!allT lh_1 1) (Tr.ok (Leaf.ret (AV.tup [ai 0, ai 5]) [])) (Tr.ok (Leaf.ret (AV.tup [ai 1, ai 0]) []))) (Tr.ok (Leaf.ret (AV.tup [ai 3, ai 0]) []))))))))))) := by kernel_rfl
def typedS_3 (g : Sem Sh.expr → Sem (Sh.sl shCol) → Sem shInt × Sem shInt) (c : Sem Sh.expr → Sem (Sh.sl shCol) → Bool) (l1 : LC) (ja0 : Str) (ja1 : Int) (ja2 : Int) (ja3 : Str) (ja4 : Str) (ja5 : LX) : List (Sem Sh.expr) → Int → List (Sem shInt) → Sem shInt × Sem shInt
 | [], _, lh_1 => if (ja0 == [108, 105, 116]) = true then (ja1, 0)
else
 if (ja0 == [99, 111, 108]) = true then
  if decide (cPlace l1 ja4 < 0) = true then (0, 4)
  else ((l1.getD (Int.toNat (cPlace l1 ja4)) (dflt shCol)).2.1, 0)
 else
  if (ja0 == [110, 111, 116]) = true then if (!allT lh_1 3) = true then (0, 5) else (3, 0)
  else
   if (ja0 == [97, 110, 100]) = true then if (!allT lh_1 3) = true then (0, 5) else (3, 0)
   else
    if (ja0 == [111, 114]) = true then if (!allT lh_1 3) = true then (0, 5) else (3, 0)
    else
     if (ja0 == [61]) = true then
      if
        (!bif lh_1.getD (Int.toNat 0) (dflt shInt) == lh_1.getD (Int.toNat 1) (dflt shInt) then true
          else bif lh_1.getD (Int.toNat 0) (dflt shInt) == 0 then true else lh_1.getD (Int.toNat 1) (dflt shInt) == 0) =
         true then
       (0, 5)
      else (3, 0)
     else
      if (ja0 == [60]) = true then
       if
         (!bif lh_1.getD (Int.toNat 0) (dflt shInt) == lh_1.getD (Int.toNat 1) (dflt shInt) then true
           else
            bif lh_1.getD (Int.toNat 0) (dflt shInt) == 0 then true else lh_1.getD (Int.toNat 1) (dflt shInt) == 0) =
          true then
        (0, 5)
       else (3, 0)
      else
       if (ja0 == [43]) = true then if (!allT lh_1 1) = true then (0, 5) else (1, 0)
       else if (ja0 == [45]) = true then if (!allT lh_1 1) = true then (0, 5) else (1, 0) else (3, 0)
 | x :: r, i17, lh_1 => if ((g x l1).2 != 0) = true then (0, (g x l1).2) else typedS_3 g c l1 ja0 ja1 ja2 ja3 ja4 ja5 r (i17 + 1) (lh_1 ++ [(g x l1).1])
def typedSC_3 (g : Sem Sh.expr → Sem (Sh.sl shCol) → Sem shInt × Sem shInt) (c : Sem Sh.expr → Sem (Sh.sl shCol) → Bool) (l1 : LC) (ja0 : Str) (ja1 : Int) (ja2 : Int) (ja3 : Str) (ja4 : Str) (ja5 : LX) : List (Sem Sh.expr) → Int → List (Sem shInt) → Bool
 | [], _, lh_1 => if (ja0 == [108, 105, 116]) = true then true
else
 if (ja0 == [99, 111, 108]) = true then
  if decide (cPlace l1 ja4 < 0) = true then true else if inB (cPlace l1 ja4) l1.length = true then true else false
 else
  if (ja0 == [110, 111, 116]) = true then true
  else
   if (ja0 == [97, 110, 100]) = true then true
   else
    if (ja0 == [111, 114]) = true then true
    else
     if (ja0 == [61]) = true then
      if
        (inB 0 lh_1.length &&
          (decide (Int.toNat 0 < lh_1.length) &&
           (inB 1 lh_1.length &&
            (decide (Int.toNat 1 < lh_1.length) &&
             bif lh_1.getD (Int.toNat 0) (dflt shInt) == lh_1.getD (Int.toNat 1) (dflt shInt) then true
             else
              inB 0 lh_1.length &&
               (decide (Int.toNat 0 < lh_1.length) &&
                bif lh_1.getD (Int.toNat 0) (dflt shInt) == 0 then true
                else inB 1 lh_1.length && decide (Int.toNat 1 < lh_1.length)))))) =
         true then
       true
      else false
     else
      if (ja0 == [60]) = true then
       if
         (inB 0 lh_1.length &&
           (decide (Int.toNat 0 < lh_1.length) &&
            (inB 1 lh_1.length &&
             (decide (Int.toNat 1 < lh_1.length) &&
              bif lh_1.getD (Int.toNat 0) (dflt shInt) == lh_1.getD (Int.toNat 1) (dflt shInt) then true
              else
               inB 0 lh_1.length &&
                (decide (Int.toNat 0 < lh_1.length) &&
                 bif lh_1.getD (Int.toNat 0) (dflt shInt) == 0 then true
                 else inB 1 lh_1.length && decide (Int.toNat 1 < lh_1.length)))))) =
          true then
        true
       else false
      else true
 | x :: r, i17, lh_1 => if c x l1 = true then
 if ((g x l1).2 != 0) = true then true
 else
  if decide (lh_1.length + [(g x l1).1].length ≤ 1073741824) = true then
   typedSC_3 g c l1 ja0 ja1 ja2 ja3 ja4 ja5 r (i17 + 1) (lh_1 ++ [(g x l1).1])
  else false
else false
theorem at51r_3 (g : Sem Sh.expr → Sem (Sh.sl shCol) → Sem shInt × Sem shInt) (c : Sem Sh.expr → Sem (Sh.sl shCol) → Bool) (hg : FOk env19.P env19.gl 126 (plainC [Sh.expr, Sh.sl shCol] [shInt, shInt] (fun x => c x.1 x.2.1) fun x => ((g x.1 x.2.1).1, (g x.1 x.2.1).2, ()))) {C : Ctx} (hC : ∀ id, C.ρ0 id = none) (l1 : LC) (ja0 : Str) (ja1 : Int) (ja2 : Int) (ja3 : Str) (ja4 : Str) (ja5 : LX) (l15 : LX) (hl : l15.length ≤ maxStr) : ∀ (m i : Nat) (lh_1 : LI), l15.length - i = m → i ≤ l15.length → typedSC_3 g c l1 ja0 ja1 ja2 ja3 ja4 ja5 (l15.drop i) i lh_1 = true →
  Reach (en51 g c) C 126 (headK Tryz.f126 3) (s51r_3 l1 l15 (l15.length : Int) (i : Int) ja0 ja1 ja2 ja3 ja4 ja5 lh_1) (fun r h => resOf h [shInt, shInt] r = some ((typedS_3 g c l1 ja0 ja1 ja2 ja3 ja4 ja5 (l15.drop i) i lh_1).1, (typedS_3 g c l1 ja0 ja1 ja2 ja3 ja4 ja5 (l15.drop i) i lh_1).2, ())) := by
 intro m
 induction m with
 | zero =>
  intro i lh_1 hm hi hc
  obtain rfl : i = l15.length := by omega
  rw [List.drop_length] at hc ⊢
  refine reach_ok (en51_all hg) en51_mix (ok51r g c) (fun id _ => hC id) (on51r_3 g c _ _ _ _ _ _ _ _ _ _ _) ?_
  rw [typedSC_3] at hc
  generalize hy : typedS_3 g c l1 ja0 ja1 ja2 ja3 ja4 ja5 [] _ lh_1 = y
  rw [typedS_3] at hy
  simp only [ExprT.eta, lt_dec', Tr.val_brF]
  repeat' (first | with_reducible refine obr hy hc (fun _ hy hc => ?_) (fun _ hy hc => ?_) | with_reducible refine obr1 hy (fun _ hy => ?_) (fun _ hy => ?_) | with_reducible refine ochk hc (fun hc => ?_) | with_reducible refine OptOk_chkT ?_)
  all_goals (subst hy; first | rfl)
 | succ m IH =>
  intro i lh_1 hm hi hc
  have hlt : i < l15.length := by omega
  have IH := IH (i + 1)
  have hcast : ((i : Int) + 1) = ((i + 1 : Nat) : Int) := by omega
  have hwr := wrap_add i (by omega)
  rw [List.drop_eq_getElem_cons hlt] at hc ⊢
  refine reach_ok (en51_all hg) en51_mix (ok51r g c) (fun id _ => hC id) (on51r_3 g c _ _ _ _ _ _ _ _ _ _ _) ?_
  rw [typedSC_3] at hc
  generalize hy : typedS_3 g c l1 ja0 ja1 ja2 ja3 ja4 ja5 (l15[i] :: l15.drop (i + 1)) (i : Int) lh_1 = y
  rw [typedS_3] at hy
  simp only [ExprT.eta, lt_dec hlt, inB_of hlt, getD_at l15 _ hlt, hwr, Tr.val_brT, Tr.val_chkT]
  clear hwr
  simp only [hcast] at hy
  try simp only [hcast] at hc
  repeat' (first | with_reducible refine obr hy hc (fun _ hy hc => ?_) (fun _ hy hc => ?_) | with_reducible refine obr1 hy (fun _ hy => ?_) (fun _ hy => ?_) | with_reducible refine ochk hc (fun hc => ?_) | with_reducible refine OptOk_chkT ?_)
  all_goals (subst hy; first | (change Reach _ _ _ _ _ _; apply IH <;> first | omega | assumption) | rfl)
theorem at51r_3s (g : Sem Sh.expr → Sem (Sh.sl shCol) → Sem shInt × Sem shInt) (c : Sem Sh.expr → Sem (Sh.sl shCol) → Bool) (hg : FOk env19.P env19.gl 126 (plainC [Sh.expr, Sh.sl shCol] [shInt, shInt] (fun x => c x.1 x.2.1) fun x => ((g x.1 x.2.1).1, (g x.1 x.2.1).2, ()))) {C : Ctx} (hC : ∀ id, C.ρ0 id = none) (l1 : LC) (ja0 : Str) (ja1 : Int) (ja2 : Int) (ja3 : Str) (ja4 : Str) (ja5 : LX) (l15 : LX) (lh_1 : LI) (hc : typedSC_3 g c l1 ja0 ja1 ja2 ja3 ja4 ja5 l15 0 lh_1 = true) :
  Reach (en51 g c) C 126 (headK Tryz.f126 3) (s51r_3 l1 l15 (l15.length : Int) 0 ja0 ja1 ja2 ja3 ja4 ja5 lh_1) (fun r h => resOf h [shInt, shInt] r = some ((typedS_3 g c l1 ja0 ja1 ja2 ja3 ja4 ja5 l15 0 lh_1).1, (typedS_3 g c l1 ja0 ja1 ja2 ja3 ja4 ja5 l15 0 lh_1).2, ())) :=
 Reach.len 15 (Sh.expr) l15 rfl fun hl => at51r_3 g c hg hC l1 ja0 ja1 ja2 ja3 ja4 ja5 l15 hl _ 0 lh_1 rfl (Nat.zero_le _) hc
def typedS (g : Sem Sh.expr → Sem (Sh.sl shCol) → Sem shInt × Sem shInt) (c : Sem Sh.expr → Sem (Sh.sl shCol) → Bool) (x0 : Sem Sh.expr) (x1 : Sem shCol.sl) : Sem shInt × Sem shInt := typedS_3 g c x1 (ExprT.op x0) (ExprT.v x0).1 (ExprT.v x0).2.1 (ExprT.v x0).2.2 (ExprT.s x0) (ExprT.l x0) (ExprT.l x0) 0 []
def typedSC (g : Sem Sh.expr → Sem (Sh.sl shCol) → Sem shInt × Sem shInt) (c : Sem Sh.expr → Sem (Sh.sl shCol) → Bool) (x0 : Sem Sh.expr) (x1 : Sem shCol.sl) : Bool := typedSC_3 g c x1 (ExprT.op x0) (ExprT.v x0).1 (ExprT.v x0).2.1 (ExprT.v x0).2.2 (ExprT.s x0) (ExprT.l x0) (ExprT.l x0) 0 []
def F51r (g : Sem Sh.expr → Sem (Sh.sl shCol) → Sem shInt × Sem shInt) (c : Sem Sh.expr → Sem (Sh.sl shCol) → Bool) : FSem := plainC [Sh.expr, shCol.sl] [shInt, shInt] (fun x => typedSC g c x.1 x.2.1) fun x => ((typedS g c x.1 x.2.1).1, (typedS g c x.1 x.2.1).2, ())
theorem FOk51r (g : Sem Sh.expr → Sem (Sh.sl shCol) → Sem shInt × Sem shInt) (c : Sem Sh.expr → Sem (Sh.sl shCol) → Bool) (hg : FOk env19.P env19.gl 126 (plainC [Sh.expr, Sh.sl shCol] [shInt, shInt] (fun x => c x.1 x.2.1) fun x => ((g x.1 x.2.1).1, (g x.1 x.2.1).2, ()))) : FOk (en51 g c).P (en51 g c).gl 126 (F51r g c) := by
 refine FOk_plainC (ok51r g c) fun x hc C hC => ?_
 unfold typedSC at hc
 refine reach_ok (en51_all hg) en51_mix (ok51r g c) (fun id _ => hC id) (go51r g c x.1 x.2.1) ?_
 generalize hy : typedS g c x.1 x.2.1 = y
 unfold typedS at hy
 try simp only [ExprT.eta, etaE_eq]
 repeat' (first | with_reducible refine obr hy hc (fun _ hy hc => ?_) (fun _ hy hc => ?_) | with_reducible refine obr1 hy (fun _ hy => ?_) (fun _ hy => ?_) | with_reducible refine ochk hc (fun hc => ?_) | with_reducible refine OptOk_chkT ?_)
 all_goals (subst hy; first | (change Reach _ _ _ _ _ _; apply at51r_3s g c hg hC <;> first | assumption | exact hc) | rfl)
mutual
def typedN : Nat → Sem Sh.expr → Sem (Sh.sl shCol) → Sem shInt × Sem shInt
 | 0 => fun _ _ => default
 | n + 1 => typedS (typedN n) (typedCN n)
def typedCN : Nat → Sem Sh.expr → Sem (Sh.sl shCol) → Bool
 | 0 => fun _ _ => false
 | n + 1 => typedSC (typedN n) (typedCN n)
end
theorem FOk51N : ∀ n, FOk env19.P env19.gl 126 (plainC [Sh.expr, Sh.sl shCol] [shInt, shInt] (fun x => typedCN n x.1 x.2.1) fun x => ((typedN n x.1 x.2.1).1, (typedN n x.1 x.2.1).2, ()))
 | 0 => FOk_none ⟨Tryz.f126, (ok51r default default).1, (ok51r default default).2.1, (ok51r default default).2.2.1⟩ (fun _ => rfl)
 | n + 1 => FOk51r (typedN n) (typedCN n) (FOk51N n)
def F51 : FSem := plainC [Sh.expr, Sh.sl shCol] [shInt, shInt] (fun x => typedCN 16 x.1 x.2.1) fun x => ((typedN 16 x.1 x.2.1).1, (typedN 16 x.1 x.2.1).2, ())
theorem FOk51 : FOk env19.P env19.gl 126 F51 := FOk51N 16

noncomputable def env20 : Env := (env19.add 126 F51)
theorem env20_all : EnvAll env20 := (EnvAll.addS env19_all (SameE.refl env19) FOk51)
theorem env20_mix : env20.P.follows .mixedOrders = true := (mix_add env19_mix _ _)
end Cad
