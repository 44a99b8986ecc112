/- The program's environment: shapes, and the way functions are added. Functions from plain data to plain data. Places of columns. -/
import Derived.Test.YthpdpmhdaadgcaaGreatDoorG05
import Derived.Test.YthpdpmhdaadgcaaGreatDoorProg
namespace Cad
open Go

abbrev shInt : Sh := .int .i64
abbrev shVal : Sh := .pr (.int .i64) (.pr (.int .i64) .str)
abbrev shCol : Sh := .pr .str (.pr (.int .i64) .bool)
abbrev shFor : Sh := .pr (.int .i64) .str
abbrev shTable : Sh := .pr .str (.pr (.sl shCol) (.pr (.int .i64) (.pr (.sl (.int .i64)) (.pr (.sl shFor) .expr))))

abbrev shRel : Sh := .pr shTable (.sl (.sl shVal))

def shOf : Nat → Option Sh
 | 3 => some (.int .i64)
 | 27 => some shVal
 | 30 => some .expr
 | 63 => some shCol
 | 94 => some shFor
 | 9 => some .str
 | 172 => some (.pr (.int .i64) .str)
 | 71 => some (.pr .str .str)
 | 73 => some (.pr .str .expr)
 | 31 => some (.sl shVal)
 | 43 => some (shRel)
 | _ => none

abbrev pow10L : List Int := [1, 10, 100, 1000, 10000, 100000, 1000000, 10000000, 100000000, 1000000000, 10000000000, 100000000000, 1000000000000, 10000000000000, 100000000000000, 1000000000000000, 10000000000000000, 100000000000000000, 1000000000000000000, 10000000000000000000]

def glOf : Nat → AV
 | 0 => .eptr [.str [73, 78, 84], .str [84, 69, 88, 84], .str [66, 79, 79, 76]] 0
 | 2 => .gint
 | 5 => .tab .u64 pow10L
 | _ => .any

noncomputable def env0 : Env := { P := Go.Proofs.Tryz.prog, sh := shOf, gl := glOf, F := fun _ => none }

def Env.add (E : Env) (k : FuncId) (F : FSem) : Env := { E with F := fun j => if j = k then some F else E.F j }

theorem EnvAll.add {E : Env} {k : FuncId} {F : FSem} (h : EnvAll E) (hk : FOk E.P E.gl k F) : EnvAll (E.add k F) where
 sh := h.sh
 fs := fun j F' hj => by
  simp only [Env.add] at hj
  split at hj
  ·rename_i e; cases hj; rw [e]; exact hk
  ·exact h.fs j F' hj

def findHead (key : Nat) : Nat → Code → List Item → Option (List Item)
 | 0, _, _ => none
 | n + 1, c, k => match c with
  | .seq a b => match findHead key n a (.code b :: k) with
   | some r => some r
   | none => findHead key n b k
  | .cond _ a b => match findHead key n a k with
   | some r => some r
   | none => findHead key n b k
  | .block id c => findHead key n c (.inBlock id :: k)
  | .loop c => if firstReg c = key then some (.code c :: .inLoop c :: k) else findHead key n c (.inLoop c :: k)
  | .region id _ _ => if id + 500000 = key then some k else none
  | _ => none

def headK (f : Func) (key : Nat) : List Item := match f.body with
 | some c => (findHead key 1000 c []).getD []
 | none => []

def bodyOf (f : Func) : List Item := match f.body with
 | some c => [.code c]
 | none => []

theorem mixed0 : env0.P.follows .mixedOrders = true := by kernel_rfl

def unr : Nat → Keep := fun _ => { unroll := true }

def autoG (E : Env) (f : Func) (ks : List (Option Sh)) : GSem ks := fun x h =>
 (run E h.length unr f.results.toList 4000 (bodyOf f) (initSt f.ntmps (avs ks x) h)).bind fun
  | .ret v h' => .ok (v, h')
  | _ => .err

theorem Tr.sat_of_val {α : Type} {Φ : α → Prop} : ∀ {t : Tr α} {a : α}, t.val = some a → Φ a → t.Sat Φ
 | .err, _, h, _ => by simp at h
 | .chk c t, a, h, ha => by
  cases c
  ·simp [Tr.val] at h
  ·exact ⟨rfl, sat_of_val (t := t) (by simpa [Tr.val] using h) ha⟩
 | .br c t f, a, h, ha => by
  cases c
  ·exact ⟨fun h => (by cases h), fun _ => sat_of_val (t := f) (by simpa [Tr.val] using h) ha⟩
  ·exact ⟨fun _ => sat_of_val (t := t) (by simpa [Tr.val] using h) ha, fun h => (by cases h)⟩
 | .ok b, a, h, ha => by simp [Tr.val] at h; subst h; exact ha

def fnChk (P : Program) (k : FuncId) (f : Func) (n : Nat) : Prop := P.funcs[k]? = some f ∧ (f.name == "runtime.NumGoroutine") = false ∧ f.body.isNone = false ∧ decide (n ≤ f.ntmps) = true

theorem avs_length : ∀ (ks : List (Option Sh)) (x : HArgs ks), (avs ks x).length = ks.length
 | [], _ => rfl
 | some _ :: ks, x => by simp [avs, avs_length ks x.2]
 | none :: ks, x => by simp [avs, avs_length ks x.2]

theorem reach_run {E : Env} {C : Ctx} {k : FuncId} {f : Func} {Q : AV → List AO → Prop} {n n0 : Nat} (hE : EnvAll E) (hm : E.P.follows .mixedOrders = true) (hf : fnChk E.P k f n) (hC : ∀ id, n0 ≤ id → C.ρ0 id = none) (keep : Nat → Keep) (fuel : Nat)
  {todo : List Item} {st : St} (h : (run E n0 keep f.results.toList fuel todo st).Sat (LeafOk E C k Q)) : Reach E C k todo st Q :=
 run_sound hE hm hf.1 hC rfl fuel _ _ h

theorem base_of {E : Env} {k : FuncId} {f : Func} {Q : AV → List AO → Prop} {args : List AV} {h0 : List AO} (hf : fnChk E.P k f args.length)
  (h : ∀ C : Ctx, (∀ id, h0.length ≤ id → C.ρ0 id = none) → Reach E C k (bodyOf f) (initSt f.ntmps args h0) Q) : Base E k args h0 Q := by
 obtain ⟨h1, h2, h3, h4⟩ := hf
 cases hb : f.body with
 | none => rw [hb] at h3; cases h3
 | some c =>
  refine ⟨f, c, h1, hb, h2, of_decide_eq_true h4, fun C hC => ?_⟩
  have := h C hC
  simpa [bodyOf, hb] using this

theorem FOk_of {E : Env} {k : FuncId} {f : Func} {ks : List (Option Sh)} {G : GSem ks} (hf : fnChk E.P k f ks.length)
  (h : ∀ x h0 res, (G x h0).val = some res → ∀ C : Ctx, (∀ id, h0.length ≤ id → C.ρ0 id = none) → Reach E C k (bodyOf f) (initSt f.ntmps (avs ks x) h0) (fun r h => (r, h) = res)) : FOk E.P E.gl k (liftF ks G) :=
 FOk_lift ⟨f, hf.1, hf.2.1, hf.2.2.1⟩ fun x h0 res hx => base_of (by rw [avs_length]; exact hf) (h x h0 res hx)

theorem FOk_auto {E : Env} {k : FuncId} {f : Func} (ks : List (Option Sh)) (hE : EnvAll E) (hm : E.P.follows .mixedOrders = true) (hf : fnChk E.P k f ks.length) : FOk E.P E.gl k (liftF ks (autoG E f ks)) := by
 refine FOk_of hf fun x h0 res hx C hC => reach_run hE hm hf hC unr 4000 ?_
 unfold autoG at hx
 simp only [Tr.val_bind, Option.bind_eq_some_iff] at hx
 obtain ⟨l, hl, hres⟩ := hx
 refine Tr.sat_of_val hl ?_
 cases l with
 | ret v h' => simp at hres; exact hres
 | head _ _ _ => simp at hres
 | fork _ _ _ _ => simp at hres

def shChk (P : Program) (t : TypeId) (e : Sh) : Bool := match P.info? t with
 | some i => i.size == e.size && decide (0 < e.size) && decide (i.bytes ≤ 131072) && (match i.zero with | some z => z.cells.size == i.size | none => false)
 | none => false

theorem shChk_ok {P : Program} {t : TypeId} {e : Sh} (h : shChk P t e = true) : ∃ i z, P.info? t = some i ∧ i.size = e.size ∧ 0 < e.size ∧ i.bytes ≤ 131072 ∧ i.zero = some z ∧ z.cells.size = i.size := by
 unfold shChk at h
 split at h
 ·rename_i i hi
  simp only [Bool.and_eq_true, decide_eq_true_eq, beq_iff_eq] at h
  obtain ⟨⟨⟨h1, h2⟩, h3⟩, h4⟩ := h
  split at h4
  ·rename_i z hz
   exact ⟨i, z, hi, h1, h2, h3, hz, by simpa using h4⟩
  ·cases h4
 ·cases h

theorem env0_all : EnvAll env0 where
 sh := by
  intro t e h
  have hh : shOf t = some e := h
  unfold shOf at hh
  split at hh
  all_goals first
   | (cases hh; exact shChk_ok (by kernel_rfl))
   | cases hh
 fs := by intro k F h; cases h

open Go

def hpOf (h : List AO) : Nat → AO := fun j => h.getD j .dead

def resT (h : List AO) (outs : List Sh) : AV → Option (HArgs (outs.map some))
 | .tup rs => packT (hpOf h) (fun i => i) (outs.map some) rs
 | _ => none

def resOf (h : List AO) : (outs : List Sh) → AV → Option (HArgs (outs.map some))
 | [s], r => match argOf (hpOf h) s r with
  | some y => some (y, ())
  | none => none
 | [], r => resT h [] r
 | s1 :: s2 :: ss, r => resT h (s1 :: s2 :: ss) r

def resAV : (outs : List Sh) → HArgs (outs.map some) → AV
 | [s], y => datum s y.1
 | outs, y => .tup (avs (outs.map some) y)

theorem packArgs_of {hp : Nat → AO} {f : Nat → Nat} : ∀ (ss : List Sh) (args : List AV) (x : HArgs (ss.map some)), packT hp f (ss.map some) args = some x → packArgs hp (ss.map some) args = some ((avs (ss.map some) x).map fun a => (false, a))
 | [], [], _, _ => rfl
 | s :: ss, a :: as', x, h => by
  have h' : packT hp f (some s :: ss.map some) (a :: as') = some x := h
  show packArgs hp (some s :: ss.map some) (a :: as') = _
  unfold packT at h'
  unfold packArgs
  split at h'
  ·rename_i y r hy hr
   cases h'
   rw [hy, packArgs_of ss as' r hr]
   rfl
  ·cases h'
 | [], _ :: _, _, h => by simp [packT] at h
 | _ :: _, [], _, h => by simp [packT] at h

theorem Reach.plain {E : Env} {C : Ctx} {fn : FuncId} {todo : List Item} {st : St} {outs : List Sh} {y : HArgs (outs.map some)} (hC : ∀ id, C.ρ0 id = none)
  (h : Reach E C fn todo st (fun r h => resOf h outs r = some y)) : Reach E C fn todo st (fun r h => (r, h) = (resAV outs y, [])) := by
 intro b cs a w U ρ h1 h2 hc hW
 obtain ⟨e, w', fr, ⟨v, r, h', U', ρ', he, hq, hrv, hH, hnew, hr0, hWd⟩, hcm, hf, hl⟩ := h b cs a w U ρ h1 h2 hc hW
 refine ⟨e, w', fr, ⟨v, _, _, fun b => U' b ∧ b < C.w0.heap.size ∧ ¬ C.B0 b, fun _ => none, he, rfl, ?_, ⟨fun id => ?_, fun id1 id2 b o => ?_, fun id b o => ?_⟩, fun _ _ => rfl, fun id v hv => ?_, ⟨hWd.ext, hWd.same, fun b hb => hWd.ub b hb.1, fun b hb hu => hWd.u1 b hb hu.1, fun b hb hu hn => ⟨hWd.u2 b hb hu hn, hb, hn⟩, fun g => (hWd.gl g).weak fun b hb => hb.1⟩⟩, hcm, hf, hl⟩
 ·have hob : ∀ id, objOk w' U' ρ' id (hpOf h' id) ∧ ∀ b, ownsB ρ' id (hpOf h' id) b → ¬ (U' b ∧ b < C.w0.heap.size ∧ ¬ C.B0 b) := by
   intro id
   refine ⟨hH.ob id, fun b ho hu => ?_⟩
   rcases hH.blk id b ho with hB | hB
   ·exact hu.2.2 hB
   ·omega
  have htup : ∀ (outs : List Sh) (y : HArgs (outs.map some)) (rs : List AV), packT (hpOf h') (fun i => i) (outs.map some) rs = some y → Rv w' U' ρ' (.tup rs) v → Rv w' (fun b => U' b ∧ b < C.w0.heap.size ∧ ¬ C.B0 b) (fun _ => none) (.tup (avs (outs.map some) y)) v := by
   intro outs y rs hy hrv
   cases hrv with
   | tup _ vs hl hr =>
   have := (packArgs_ok (w := w') (U := U') (ρ := ρ') (U' := fun b => U' b ∧ b < C.w0.heap.size ∧ ¬ C.B0 b) (ρ' := fun _ => none) (hp := hpOf h') (f := fun i => i) (fun b hb => hb.1) (outs.map some) rs vs _ (packArgs_of outs rs y hy) ⟨hl, hr⟩ (fun id _ => hob id)
    (fun id hid => by simp only [objArgs, List.filter_map, Function.comp_def] at hid; rw [List.filter_eq_nil_iff.2 (by simp)] at hid; simp [AV.idsL] at hid)).1
   simp only [List.map_map, Function.comp_def, Bool.false_eq_true, if_false, List.map_id'] at this
   exact .tup _ vs this.len this.rv
  match outs, y, hq with
  | [s], y, hq =>
   simp only [resOf] at hq
   split at hq
   ·rename_i x hx
    cases hq
    exact datum_rv hx hrv (fun b hb => hb.1) (fun id _ => hob id)
   ·cases hq
  | [], y, hq =>
   simp only [resOf] at hq
   cases r with
   | tup rs => exact htup [] y _ hq hrv
   | _ => cases hq
  | s1 :: s2 :: ss, y, hq =>
   simp only [resOf] at hq
   cases r with
   | tup rs => exact htup _ y _ hq hrv
   | _ => cases hq
 ·simp [objOk]
 ·obtain ⟨_, v, hv, _⟩ := o
  cases hv
 ·obtain ⟨_, v, hv, _⟩ := o
  cases hv
 ·rw [hC id] at hv; cases hv

theorem reach_val {E : Env} {C : Ctx} {k : FuncId} {f : Func} {Q : AV → List AO → Prop} {n n0 : Nat} (hE : EnvAll E) (hm : E.P.follows .mixedOrders = true) (hf : fnChk E.P k f n) (hC : ∀ id, n0 ≤ id → C.ρ0 id = none) {keep : Nat → Keep} {fuel : Nat}
  {todo : List Item} {st : St} {l : Leaf} (h : (run E n0 keep f.results.toList fuel todo st).val = some l) (hl : LeafOk E C k Q l) : Reach E C k todo st Q :=
 reach_run hE hm hf hC keep fuel (Tr.sat_of_val h hl)

def plainG (ks outs : List Sh) (g : HArgs (ks.map some) → Option (HArgs (outs.map some))) : GSem (ks.map some) := fun x h => match h with
 | [] => match g x with
  | some y => .ok (resAV outs y, [])
  | none => .err
 | _ => .err

def plainF (ks outs : List Sh) (g : HArgs (ks.map some) → Option (HArgs (outs.map some))) : FSem := liftF (ks.map some) (plainG ks outs g)

theorem FOk_plain {E : Env} {k : FuncId} {f : Func} {ks outs : List Sh} {g : HArgs (ks.map some) → Option (HArgs (outs.map some))} (hf : fnChk E.P k f ks.length)
  (h : ∀ x y, g x = some y → ∀ C : Ctx, (∀ id, C.ρ0 id = none) → Reach E C k (bodyOf f) (initSt f.ntmps (avs (ks.map some) x) []) (fun r h => resOf h outs r = some y)) : FOk E.P E.gl k (plainF ks outs g) := by
 refine FOk_of (by simpa using hf) fun x h0 res hx C hC => ?_
 unfold plainG at hx
 split at hx
 ·split at hx
  ·rename_i y hy
   simp only [Tr.val_ok, Option.some.injEq] at hx
   subst hx
   exact Reach.plain (fun id => hC id (by simp)) (h x y hy C (fun id => hC id (by simp)))
  ·simp at hx
 ·simp at hx

noncomputable abbrev Env.aut (E : Env) (k : Nat) (f : Func) (n : Nat) : Env := E.add k (liftF (List.replicate n none) (autoG E f (List.replicate n none)))

theorem aut_all {E : Env} {k : Nat} {f : Func} {n : Nat} (hE : EnvAll E) (hm : E.P.follows .mixedOrders = true) (hf : fnChk E.P k f n) : EnvAll (E.aut k f n) :=
 hE.add (FOk_auto _ hE hm (by simpa using hf))

open Go Go.Proofs

theorem Reach.len {E : Env} {C : Ctx} {fn : FuncId} {todo : List Item} {st : St} {Q : AV → List AO → Prop} (j : Nat) (e : Sh) (l : List (Sem e)) (hj : st.tmps[j]? = some (.sl e l)) (h : l.length ≤ maxStr → Reach E C fn todo st Q) : Reach E C fn todo st Q := by
 intro b cs a w U ρ h1 h2 hc hW
 refine h ?_ b cs a w U ρ h1 h2 hc hW
 have hlt : j < a.tmps.toList.length := by rw [← hc.tm.len]; exact (List.getElem?_eq_some_iff.1 hj).1
 have := hc.tm.rv j _ _ hj (List.getElem?_eq_getElem hlt)
 generalize a.tmps.toList[j] = v at this
 cases this with
 | sl0 => simp
 | sl _ _ _ _ _ _ _ hm => exact hm

theorem wrap_add (i : Nat) (h : i < maxStr) : IntKind.i64.wrap (↑i + 1) = ((i + 1 : Nat) : Int) := by
 have : maxStr = 9223372036854775807 := rfl
 rw [IntKind.wrap_i64]
 omega

theorem getD_at {α : Type} (l : List α) (d : α) {i : Nat} (h : i < l.length) : l.getD (i : Int).toNat d = l[i] := by
 simp [List.getD_eq_getElem?_getD, h]

def ixFrom {α : Type} (p : α → Bool) : List α → Nat → Int
 | [], _ => -1
 | x :: r, i => if p x then i else ixFrom p r (i + 1)

noncomputable def env1 : Env := (env0.aut 55 Tryz.f55 2).aut 225 Tryz.f225 2
theorem env1_all : EnvAll env1 := by
 refine aut_all (aut_all env0_all mixed0 ?_) mixed0 ?_ <;> (refine ⟨?_, ?_, ?_, ?_⟩ <;> kernel_rfl)

abbrev kp27 : Nat → Keep := fun _ => {slots := [0,1,7,8]}
theorem ok27 : fnChk env1.P 54 Tryz.f54 2 := by refine ⟨?_, ?_, ?_, ?_⟩ <;> kernel_rfl
abbrev st27_28 (l : List (Sem shCol)) (s : Str) (i : Int) : St := {
    tmps :=
     [AV.sl (Sh.str.pr ((Sh.int IntKind.i64).pr Sh.bool)) l, AV.clo (Fn.func 55) [] [AV.ptr 0 0], AV.any, AV.any,
      AV.any, AV.any, AV.any, AV.int .i64 ↑l.length, AV.int .i64 i, AV.any, AV.any, AV.any, AV.any,
      AV.any, AV.any, AV.any, AV.any, AV.any, AV.any],
    heap := [AO.box [AV.str s]] }

theorem go27_28 (l : List (Sem shCol)) (s : Str) : run env1 1 kp27 Tryz.f54.results.toList 300 (bodyOf Tryz.f54) (initSt Tryz.f54.ntmps [.sl shCol l, .clo (.func 55) [] [.ptr 0 0]] [.box [.str s]]) = .ok (.head 2 (headK Tryz.f54 2) (st27_28 l s 0)) := by kernel_rfl

theorem on27_28 (l : List (Sem shCol)) (s : Str) (i : Int) : run env1 1 kp27 Tryz.f54.results.toList 300 (headK Tryz.f54 2) (st27_28 l s i) =
 Tr.br (decide (i < ↑l.length))
  (Tr.chk (inB i l.length)
   (Tr.br ((l.getD i.toNat (dflt (Sh.str.pr ((Sh.int IntKind.i64).pr Sh.bool)))).1 == s)
    (Tr.ok (Leaf.ret (AV.int .i64 i) [AO.box [AV.str s]]))
    (Tr.ok (Leaf.head 2 (headK Tryz.f54 2) (st27_28 l s (IntKind.i64.wrap (i + 1)))))))
  (Tr.ok (Leaf.ret (AV.int .i64 (-1)) [AO.box [AV.str s]])) := by kernel_rfl

theorem at27_28 {C : Ctx} (hC : ∀ id, 1 ≤ id → C.ρ0 id = none) (l : List (Sem shCol)) (s : Str) (hl : l.length ≤ maxStr) : ∀ (n i : Nat), l.length - i = n → i ≤ l.length →
  Reach env1 C 54 (headK Tryz.f54 2) (st27_28 l s i) (fun r h => (r, h) = (.int .i64 (ixFrom (fun c => c.1 == s) (l.drop i) i), [.box [.str s]]))
 | n, i, hn, hi => by
  subst hn
  refine reach_run env1_all mixed0 ok27 hC kp27 300 ?_
  rw [on27_28]
  refine ⟨fun h => ⟨?_, fun hc => ?_, fun hc => ?_⟩, fun h => ?_⟩
  ·simp only [decide_eq_true_eq] at h
   simp [inB]; omega
  ·simp only [decide_eq_true_eq] at h
   have hlt : i < l.length := by omega
   rw [getD_at l _ hlt] at hc
   rw [List.drop_eq_getElem_cons hlt]
   simp only [ixFrom]
   rw [if_pos hc]
   rfl
  ·simp only [decide_eq_true_eq] at h
   have hlt : i < l.length := by omega
   rw [getD_at l _ hlt] at hc
   rw [List.drop_eq_getElem_cons hlt]
   simp only [ixFrom]
   rw [if_neg (by rw [hc]; simp), wrap_add i (by omega)]
   exact at27_28 hC l s hl (l.length - (i + 1)) (i + 1) rfl (by omega)
  ·simp only [decide_eq_false_iff_not] at h
   rw [List.drop_eq_nil_of_le (by omega)]
   rfl
 termination_by n => n

abbrev st27_62 (l : List (Sem shCol)) (s : Str) (i : Int) : St := {
    tmps :=
     [AV.sl (Sh.str.pr ((Sh.int IntKind.i64).pr Sh.bool)) l, AV.clo (Fn.func 225) [] [AV.ptr 0 0], AV.any, AV.any,
      AV.any, AV.any, AV.any, AV.int .i64 ↑l.length, AV.int .i64 i, AV.any, AV.any, AV.any, AV.any,
      AV.any, AV.any, AV.any, AV.any, AV.any, AV.any],
    heap := [AO.box [AV.str s]] }

theorem go27_62 (l : List (Sem shCol)) (s : Str) : run env1 1 kp27 Tryz.f54.results.toList 300 (bodyOf Tryz.f54) (initSt Tryz.f54.ntmps [.sl shCol l, .clo (.func 225) [] [.ptr 0 0]] [.box [.str s]]) = .ok (.head 2 (headK Tryz.f54 2) (st27_62 l s 0)) := by kernel_rfl

theorem on27_62 (l : List (Sem shCol)) (s : Str) (i : Int) : run env1 1 kp27 Tryz.f54.results.toList 300 (headK Tryz.f54 2) (st27_62 l s i) =
 Tr.br (decide (i < ↑l.length))
  (Tr.chk (inB i l.length)
   (Tr.br ((l.getD i.toNat (dflt (Sh.str.pr ((Sh.int IntKind.i64).pr Sh.bool)))).1 == s)
    (Tr.ok (Leaf.ret (AV.int .i64 i) [AO.box [AV.str s]]))
    (Tr.ok (Leaf.head 2 (headK Tryz.f54 2) (st27_62 l s (IntKind.i64.wrap (i + 1)))))))
  (Tr.ok (Leaf.ret (AV.int .i64 (-1)) [AO.box [AV.str s]])) := by kernel_rfl

theorem at27_62 {C : Ctx} (hC : ∀ id, 1 ≤ id → C.ρ0 id = none) (l : List (Sem shCol)) (s : Str) (hl : l.length ≤ maxStr) : ∀ (n i : Nat), l.length - i = n → i ≤ l.length →
  Reach env1 C 54 (headK Tryz.f54 2) (st27_62 l s i) (fun r h => (r, h) = (.int .i64 (ixFrom (fun c => c.1 == s) (l.drop i) i), [.box [.str s]]))
 | n, i, hn, hi => by
  subst hn
  refine reach_run env1_all mixed0 ok27 hC kp27 300 ?_
  rw [on27_62]
  refine ⟨fun h => ⟨?_, fun hc => ?_, fun hc => ?_⟩, fun h => ?_⟩
  ·simp only [decide_eq_true_eq] at h
   simp [inB]; omega
  ·simp only [decide_eq_true_eq] at h
   have hlt : i < l.length := by omega
   rw [getD_at l _ hlt] at hc
   rw [List.drop_eq_getElem_cons hlt]
   simp only [ixFrom]
   rw [if_pos hc]
   rfl
  ·simp only [decide_eq_true_eq] at h
   have hlt : i < l.length := by omega
   rw [getD_at l _ hlt] at hc
   rw [List.drop_eq_getElem_cons hlt]
   simp only [ixFrom]
   rw [if_neg (by rw [hc]; simp), wrap_add i (by omega)]
   exact at27_62 hC l s hl (l.length - (i + 1)) (i + 1) rfl (by omega)
  ·simp only [decide_eq_false_iff_not] at h
   rw [List.drop_eq_nil_of_le (by omega)]
   rfl
 termination_by n => n

def G27 : GSem [some (.sl shCol), none] := fun x h => match x, h with
 | (l, .clo (.func 55) [] [.ptr 0 0], _), [.box [.str s]] => .ok (.int .i64 (ixFrom (fun c => c.1 == s) l 0), [.box [.str s]])
 | (l, .clo (.func 225) [] [.ptr 0 0], _), [.box [.str s]] => .ok (.int .i64 (ixFrom (fun c => c.1 == s) l 0), [.box [.str s]])
 | _, _ => .err

theorem FOk27 : FOk env1.P env1.gl 54 (liftF [some (.sl shCol), none] G27) := by
 refine FOk_of ok27 fun x h0 res hx C hC => ?_
 unfold G27 at hx
 split at hx
 ·simp only [Tr.val_ok, Option.some.injEq] at hx
  subst hx
  rename_i _ _ l u s
  refine Reach.len 0 shCol l rfl fun hl => ?_
  have e : avs [some (.sl shCol), none] (l, .clo (.func 55) [] [.ptr 0 0], u) = [.sl shCol l, .clo (.func 55) [] [.ptr 0 0]] := rfl
  rw [e]
  refine reach_run (n0 := 1) env1_all mixed0 ok27 hC kp27 300 ?_
  rw [go27_28]
  exact at27_28 hC l s hl _ 0 rfl (by omega)
 ·simp only [Tr.val_ok, Option.some.injEq] at hx
  subst hx
  rename_i _ _ l u s
  refine Reach.len 0 shCol l rfl fun hl => ?_
  have e : avs [some (.sl shCol), none] (l, .clo (.func 225) [] [.ptr 0 0], u) = [.sl shCol l, .clo (.func 225) [] [.ptr 0 0]] := rfl
  rw [e]
  refine reach_run (n0 := 1) env1_all mixed0 ok27 hC kp27 300 ?_
  rw [go27_62]
  exact at27_62 hC l s hl _ 0 rfl (by omega)
 ·simp at hx

noncomputable def env2 : Env := env1.add 54 (liftF [some (.sl shCol), none] G27)
theorem env2_all : EnvAll env2 := env1_all.add FOk27
noncomputable def env3 : Env := (env2.add 20 (liftF [some shTable, some .str] (autoG env2 Tryz.f20 [some shTable, some .str]))).add 182 (liftF [some (.sl shCol), some .str] (autoG env2 Tryz.f182 [some (.sl shCol), some .str]))
theorem env3_all : EnvAll env3 := by
 refine (env2_all.add (FOk_auto _ env2_all mixed0 ?_)).add (FOk_auto (E := env2) _ env2_all mixed0 ?_) <;> (refine ⟨?_, ?_, ?_, ?_⟩ <;> kernel_rfl)
end Cad
