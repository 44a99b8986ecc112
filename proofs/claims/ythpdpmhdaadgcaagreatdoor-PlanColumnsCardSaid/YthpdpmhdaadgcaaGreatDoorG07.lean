/- Words, names, runs of octets. Names. -/
import Derived.Test.YthpdpmhdaadgcaaGreatDoorG06
namespace Cad
open Go Go.Proofs

def swT {β : Type} (leaf : β → Leaf) (s : Str) : List (Str × β) → β → Tr Leaf
 | [], d => .ok (leaf d)
 | (w, b) :: r, d => .br (s == w) (.ok (leaf b)) (swT leaf s r d)

def swV {β : Type} (s : Str) : List (Str × β) → β → β
 | [], d => d
 | (w, b) :: r, d => if s == w then b else swV s r d

theorem swT_sat {β : Type} {leaf : β → Leaf} {s : Str} {d : β} {Φ : Leaf → Prop} : ∀ (l : List (Str × β)), Φ (leaf (swV s l d)) → (swT leaf s l d).Sat Φ
 | [], h => h
 | (w, b) :: r, h => by
  refine ⟨fun hc => ?_, fun hc => swT_sat r ?_⟩
  ·simp only [swV] at h; rw [if_pos hc] at h; exact h
  ·simp only [swV] at h; rw [if_neg (by rw [hc]; simp)] at h; exact h

def wordL : List (Str × Bool) := [([65, 78, 68], true), ([79, 82], true), ([78, 79, 84], true), ([73, 83], true), ([78, 85, 76, 76], true), ([84, 82, 85, 69], true), ([70, 65, 76, 83, 69], true), ([67, 82, 69, 65, 84, 69], true), ([84, 65, 66, 76, 69], true), ([73, 78, 84], true), ([84, 69, 88, 84], true), ([66, 79, 79, 76], true), ([75, 69, 89], true), ([85, 78, 73, 81, 85, 69], true), ([82, 69, 70, 69, 82, 69, 78, 67, 69, 83], true), ([67, 72, 69, 67, 75], true), ([68, 82, 79, 80], true), ([73, 78, 83, 69, 82, 84], true), ([73, 78, 84, 79], true), ([86, 65, 76, 85, 69, 83], true), ([85, 80, 68, 65, 84, 69], true), ([83, 69, 84], true), ([87, 72, 69, 82, 69], true), ([68, 69, 76, 69, 84, 69], true), ([70, 82, 79, 77], true), ([83, 69, 76, 69, 67, 84], true), ([71, 82, 65, 78, 84], true), ([82, 69, 65, 68], true), ([87, 82, 73, 84, 69], true), ([79, 78], true), ([84, 79], true), ([82, 69, 86, 79, 75, 69], true), ([77, 73, 71, 82, 65, 84, 69], true), ([67, 79, 80, 89], true), ([74, 79, 73, 78], true), ([71, 82, 79, 85, 80], true), ([66, 89], true), ([83, 85, 77], true)]
def partL : List (Str × Int) := [([108, 105, 116], 0), ([99, 111, 108], 0), ([110, 111, 116], 1), ([110, 117, 108, 108], 1), ([97, 110, 100], 2), ([111, 114], 2), ([61], 2), ([60], 2), ([43], 2), ([45], 2)]

def resv (s : Str) : Bool := swV s wordL false
def partsN (s : Str) : Int := swV s partL (-1)

def digitC (c : Int) : Bool := bif decide (c ≥ 48) then decide (c ≤ 57) else false
def letterC (c : Int) : Bool := bif decide (c ≥ 97) then
  bif decide (c ≤ 122) then true else bif decide (c ≥ 65) then decide (c ≤ 90) else false
 else bif decide (c ≥ 65) then decide (c ≤ 90) else false
def partC (c : Int) : Bool := bif letterC c then true else bif digitC c then true else c == 95

noncomputable def env4 : Env := (((env3.aut 230 Tryz.f230 1).aut 231 Tryz.f231 1).aut 229 Tryz.f229 1).aut 187 Tryz.f187 0
theorem env4_all : EnvAll env4 := by
 refine aut_all (aut_all (aut_all (aut_all env3_all mixed0 ?_) mixed0 ?_) mixed0 ?_) mixed0 ?_ <;> (refine ⟨?_, ?_, ?_, ?_⟩ <;> kernel_rfl)

theorem go26 (s : Str) : run env4 0 (fun _ => {}) Tryz.f89.results.toList 400 (bodyOf Tryz.f89) (initSt Tryz.f89.ntmps [.str s] []) = swT (fun b => .ret (.kb b) []) s wordL false := by kernel_rfl
theorem ok26 : fnChk env4.P 89 Tryz.f89 1 := by refine ⟨?_, ?_, ?_, ?_⟩ <;> kernel_rfl
theorem FOk26 : FOk env4.P env4.gl 89 (plainF [.str] [.bool] fun x => some (resv x.1, ())) := by
 refine FOk_plain ok26 fun x y hx C hC => ?_
 cases hx
 refine reach_run (n0 := 0) env4_all mixed0 ok26 (fun id _ => hC id) (fun _ => {}) 400 ?_
 have e : avs ([Sh.str].map some) x = [.str x.1] := rfl
 rw [e, go26]
 exact swT_sat wordL rfl

theorem go55 (s : Str) : run env4 0 (fun _ => {}) Tryz.f224.results.toList 400 (bodyOf Tryz.f224) (initSt Tryz.f224.ntmps [.str s] []) = swT (fun b => .ret (.int .i64 b) []) s partL (-1) := by kernel_rfl
theorem ok55 : fnChk env4.P 224 Tryz.f224 1 := by refine ⟨?_, ?_, ?_, ?_⟩ <;> kernel_rfl
theorem FOk55 : FOk env4.P env4.gl 224 (plainF [.str] [shInt] fun x => some (partsN x.1, ())) := by
 refine FOk_plain ok55 fun x y hx C hC => ?_
 cases hx
 refine reach_run (n0 := 0) env4_all mixed0 ok55 (fun id _ => hC id) (fun _ => {}) 400 ?_
 have e : avs ([Sh.str].map some) x = [.str x.1] := rfl
 rw [e, go55]
 exact swT_sat partL rfl

def lead (p : Int → Bool) : Str → Nat
 | [] => 0
 | c :: r => if p c.toNat then lead p r + 1 else 0

def runLen (f m : Int → Bool) : Str → Nat
 | [] => 0
 | c :: r => if f c.toNat then lead m r + 1 else 0

theorem Reach.strLen {E : Env} {C : Ctx} {fn : FuncId} {todo : List Item} {st : St} {Q : AV → List AO → Prop} (j : Nat) (s : Str) (hj : st.tmps[j]? = some (.str s)) (h : s.length ≤ maxStr → Reach E C fn todo st Q) : Reach E C fn todo st Q := by
 intro b cs a w U ρ h1 h2 hc hW
 refine h ?_ b cs a w U ρ h1 h2 hc hW
 have hlt : j < a.tmps.toList.length := by rw [← hc.tm.len]; exact (List.getElem?_eq_some_iff.1 hj).1
 have := hc.tm.rv j _ _ hj (List.getElem?_eq_getElem hlt)
 generalize a.tmps.toList[j] = v at this
 cases this with
 | str _ h => exact h

abbrev kp65 : Nat → Keep := fun _ => {slots := [1,2,5]}
abbrev st65 (a b c d : AV) (s : Str) (n : Int) : St := {
 tmps := [AV.any, AV.str s, AV.ptr 0 0, AV.any, AV.any, AV.int .i64 n, AV.any, AV.any, AV.any, AV.any,
        AV.any, AV.any, AV.any, AV.any, AV.any, AV.any, AV.any, AV.any, AV.any, AV.any, AV.any, AV.any, AV.any,
        AV.any, AV.any, AV.any, AV.any, AV.any, AV.any, AV.any, AV.any],
 heap := [AO.box [a, b, c, d]] }
noncomputable abbrev tr65 (a b c d : AV) (p : Int → Bool) (s : Str) (n : Int) : Tr Leaf :=
 Tr.chk (bif decide (n < ↑(List.length s)) then inB n (List.length s) else true)
  (Tr.br (bif decide (n < ↑(List.length s)) then p ↑(List.getD s n.toNat 0).toNat else false)
   (Tr.ok (Leaf.head 4 (headK Tryz.f188 4) (st65 a b c d s (IntKind.i64.wrap (n + 1)))))
   (Tr.ok (Leaf.ret (AV.int .i64 n) [])))
theorem ok65 : fnChk env4.P 188 Tryz.f188 2 := by refine ⟨?_, ?_, ?_, ?_⟩ <;> kernel_rfl

theorem at65 {C : Ctx} (hC : ∀ id, 0 ≤ id → C.ρ0 id = none) (a b c d : AV) (p : Int → Bool) (s : Str)
  (hon : ∀ n, run env4 0 kp65 Tryz.f188.results.toList 300 (headK Tryz.f188 4) (st65 a b c d s n) = tr65 a b c d p s n) (hl : s.length ≤ maxStr) : ∀ (k i : Nat), s.length - i = k → i ≤ s.length →
  Reach env4 C 188 (headK Tryz.f188 4) (st65 a b c d s i) (fun r h => (r, h) = (.int .i64 ((i + lead p (s.drop i) : Nat) : Int), []))
 | k, i, hk, hi => by
  subst hk
  refine reach_run env4_all mixed0 ok65 hC kp65 300 ?_
  rw [hon]
  refine ⟨?_, fun h => ?_, fun h => ?_⟩
  ·by_cases hlt : i < s.length
   ·have : decide ((i : Int) < s.length) = true := by simpa using hlt
    simp [inB, hlt]
   ·have : decide ((i : Int) < s.length) = false := by simpa using hlt
    simp [hlt]
  ·have hlt : i < s.length := by
    by_cases hlt : i < s.length
    ·exact hlt
    ·have : decide ((i : Int) < s.length) = false := by simpa using hlt
     rw [this] at h; cases h
   have hd : decide ((i : Int) < s.length) = true := by simpa using hlt
   rw [hd, getD_at s _ hlt, cond_true] at h
   rw [List.drop_eq_getElem_cons hlt]
   simp only [lead]
   rw [if_pos h, wrap_add i (by omega), show i + (lead p (List.drop (i + 1) s) + 1) = (i + 1) + lead p (List.drop (i + 1) s) by omega]
   exact at65 hC a b c d p s hon hl (s.length - (i + 1)) (i + 1) rfl (by omega)
  ·have : lead p (s.drop i) = 0 := by
    by_cases hlt : i < s.length
    ·have hd : decide ((i : Int) < s.length) = true := by simpa using hlt
     rw [hd, getD_at s _ hlt] at h
     rw [List.drop_eq_getElem_cons hlt]
     simp only [lead]
     rw [if_neg (by intro h'; rw [cond_true] at h; rw [h'] at h; cases h)]
    ·rw [List.drop_eq_nil_of_le (by omega)]; rfl
   rw [this]
   rfl
 termination_by k => k

theorem on65a (s : Str) (n : Int) : run env4 0 kp65 Tryz.f188.results.toList 300 (headK Tryz.f188 4) (st65 (AV.int .i64 1) (AV.int .i64 16) (AV.clo (Fn.func 230) [] []) (AV.clo (Fn.func 229) [] []) s n) = tr65 (AV.int .i64 1) (AV.int .i64 16) (AV.clo (Fn.func 230) [] []) (AV.clo (Fn.func 229) [] []) partC s n := by kernel_rfl
theorem go65a (s : Str) : run env4 0 kp65 Tryz.f188.results.toList 300 (bodyOf Tryz.f188) (initSt Tryz.f188.ntmps [.agg [(AV.int .i64 1), (AV.int .i64 16), (AV.clo (Fn.func 230) [] []), (AV.clo (Fn.func 229) [] [])], .str s] []) =
 Tr.chk (bif s == [] then true else inB 0 (List.length s))
  (Tr.br (bif s == [] then true else !letterC ↑(List.getD s (Int.toNat 0) 0).toNat) (Tr.ok (Leaf.ret (AV.int .i64 0) []))
   (Tr.ok (Leaf.head 4 (headK Tryz.f188 4) (st65 (AV.int .i64 1) (AV.int .i64 16) (AV.clo (Fn.func 230) [] []) (AV.clo (Fn.func 229) [] []) s 1)))) := by kernel_rfl
theorem all65a {C : Ctx} (hC : ∀ id, 0 ≤ id → C.ρ0 id = none) (s : Str) (hl : s.length ≤ maxStr) : Reach env4 C 188 (bodyOf Tryz.f188) (initSt Tryz.f188.ntmps [.agg [(AV.int .i64 1), (AV.int .i64 16), (AV.clo (Fn.func 230) [] []), (AV.clo (Fn.func 229) [] [])], .str s] []) (fun r h => (r, h) = (.int .i64 (runLen letterC partC s : Nat), [])) := by
 refine reach_run (n0 := 0) env4_all mixed0 ok65 hC kp65 300 ?_
 rw [go65a]
 cases s with
 | nil => exact ⟨rfl, fun _ => rfl, fun h => by cases h⟩
 | cons c r =>
  refine ⟨by simp [inB], fun h => ?_, fun h => ?_⟩
  ·have h' : letterC ↑c.toNat = false := by simpa using h
   simp only [runLen, h']
   rfl
  ·have h' : letterC ↑c.toNat = true := by simpa using h
   have := at65 hC (AV.int .i64 1) (AV.int .i64 16) (AV.clo (Fn.func 230) [] []) (AV.clo (Fn.func 229) [] []) partC (c :: r) (on65a (c :: r)) hl _ 1 rfl (by simp)
   simp only [runLen, h', if_true]
   rw [show 1 + lead partC ((c :: r).drop 1) = lead partC r + 1 by simp [Nat.add_comm]] at this
   exact this

theorem on65b (s : Str) (n : Int) : run env4 0 kp65 Tryz.f188.results.toList 300 (headK Tryz.f188 4) (st65 (AV.int .i64 2) (AV.int .i64 19) (AV.clo (Fn.func 231) [] []) (AV.clo (Fn.func 231) [] []) s n) = tr65 (AV.int .i64 2) (AV.int .i64 19) (AV.clo (Fn.func 231) [] []) (AV.clo (Fn.func 231) [] []) digitC s n := by kernel_rfl
theorem go65b (s : Str) : run env4 0 kp65 Tryz.f188.results.toList 300 (bodyOf Tryz.f188) (initSt Tryz.f188.ntmps [.agg [(AV.int .i64 2), (AV.int .i64 19), (AV.clo (Fn.func 231) [] []), (AV.clo (Fn.func 231) [] [])], .str s] []) =
 Tr.chk (bif s == [] then true else inB 0 (List.length s))
  (Tr.br (bif s == [] then true else !digitC ↑(List.getD s (Int.toNat 0) 0).toNat) (Tr.ok (Leaf.ret (AV.int .i64 0) []))
   (Tr.ok (Leaf.head 4 (headK Tryz.f188 4) (st65 (AV.int .i64 2) (AV.int .i64 19) (AV.clo (Fn.func 231) [] []) (AV.clo (Fn.func 231) [] []) s 1)))) := by kernel_rfl
theorem all65b {C : Ctx} (hC : ∀ id, 0 ≤ id → C.ρ0 id = none) (s : Str) (hl : s.length ≤ maxStr) : Reach env4 C 188 (bodyOf Tryz.f188) (initSt Tryz.f188.ntmps [.agg [(AV.int .i64 2), (AV.int .i64 19), (AV.clo (Fn.func 231) [] []), (AV.clo (Fn.func 231) [] [])], .str s] []) (fun r h => (r, h) = (.int .i64 (runLen digitC digitC s : Nat), [])) := by
 refine reach_run (n0 := 0) env4_all mixed0 ok65 hC kp65 300 ?_
 rw [go65b]
 cases s with
 | nil => exact ⟨rfl, fun _ => rfl, fun h => by cases h⟩
 | cons c r =>
  refine ⟨by simp [inB], fun h => ?_, fun h => ?_⟩
  ·have h' : digitC ↑c.toNat = false := by simpa using h
   simp only [runLen, h']
   rfl
  ·have h' : digitC ↑c.toNat = true := by simpa using h
   have := at65 hC (AV.int .i64 2) (AV.int .i64 19) (AV.clo (Fn.func 231) [] []) (AV.clo (Fn.func 231) [] []) digitC (c :: r) (on65b (c :: r)) hl _ 1 rfl (by simp)
   simp only [runLen, h', if_true]
   rw [show 1 + lead digitC ((c :: r).drop 1) = lead digitC r + 1 by simp [Nat.add_comm]] at this
   exact this

def G65 : GSem [none, some .str] := fun x h => match x, h with
 | (.agg [.int .i64 1, .int .i64 16, .clo (.func 230) [] [], .clo (.func 229) [] []], s, _), [] => .ok (.int .i64 (runLen letterC partC s : Nat), [])
 | (.agg [.int .i64 2, .int .i64 19, .clo (.func 231) [] [], .clo (.func 231) [] []], s, _), [] => .ok (.int .i64 (runLen digitC digitC s : Nat), [])
 | _, _ => .err

theorem FOk65 : FOk env4.P env4.gl 188 (liftF [none, some .str] G65) := by
 refine FOk_of ok65 fun x h0 res hx C hC => ?_
 unfold G65 at hx
 split at hx
 ·simp only [Tr.val_ok, Option.some.injEq] at hx
  subst hx
  rename_i _ _ s u
  have e : avs [none, some Sh.str] (AV.agg [(AV.int .i64 1), (AV.int .i64 16), (AV.clo (Fn.func 230) [] []), (AV.clo (Fn.func 229) [] [])], s, u) = [AV.agg [(AV.int .i64 1), (AV.int .i64 16), (AV.clo (Fn.func 230) [] []), (AV.clo (Fn.func 229) [] [])], .str s] := rfl
  rw [e]
  exact Reach.strLen 1 s rfl fun hl => all65a hC s hl
 ·simp only [Tr.val_ok, Option.some.injEq] at hx
  subst hx
  rename_i _ _ s u
  have e : avs [none, some Sh.str] (AV.agg [(AV.int .i64 2), (AV.int .i64 19), (AV.clo (Fn.func 231) [] []), (AV.clo (Fn.func 231) [] [])], s, u) = [AV.agg [(AV.int .i64 2), (AV.int .i64 19), (AV.clo (Fn.func 231) [] []), (AV.clo (Fn.func 231) [] [])], .str s] := rfl
  rw [e]
  exact Reach.strLen 1 s rfl fun hl => all65b hC s hl
 ·simp at hx
open Go Go.Proofs

abbrev shTok : Sh := .pr (.int .i64) .str

noncomputable def env5 : Env := ((env4.add 89 (plainF [.str] [.bool] fun x => some (resv x.1, ()))).add 224 (plainF [.str] [shInt] fun x => some (partsN x.1, ()))).add 188 (liftF [none, some .str] G65)
theorem env5_all : EnvAll env5 := ((env4_all.add FOk26).add FOk55).add FOk65

def wordOk (s : Str) : Bool := bif decide ((↑(List.length s) : Int) ≥ 1) then
  bif decide ((↑(List.length s) : Int) ≤ 16) then (↑(runLen letterC partC s) : Int) == ↑(List.length s) else false
 else false

def g49 (x : HArgs ([shTok].map some)) : Option (HArgs ([Sh.bool].map some)) := if x.1.1 = 1 then some (wordOk x.1.2, ()) else none

theorem go49 (s : Str) : (run env5 0 unr Tryz.f141.results.toList 400 (bodyOf Tryz.f141) (initSt Tryz.f141.ntmps [.agg [.int .i64 1, .str s]] [])).val = some (.ret (.bool (wordOk s)) []) := by kernel_rfl
theorem ok49 : fnChk env5.P 141 Tryz.f141 1 := by refine ⟨?_, ?_, ?_, ?_⟩ <;> kernel_rfl
theorem FOk49 : FOk env5.P env5.gl 141 (plainF [shTok] [.bool] g49) := by
 refine FOk_plain ok49 fun x y hx C hC => ?_
 obtain ⟨⟨k, s⟩, u⟩ := x
 unfold g49 at hx
 split at hx
 ·rename_i hk
  have hk' : k = 1 := hk
  subst hk'
  cases hx
  have e : avs ([shTok].map some) (((1, s), u) : HArgs ([shTok].map some)) = [.agg [.int .i64 1, .str s]] := rfl
  rw [e]
  exact reach_val (n0 := 0) env5_all mixed0 ok49 (fun id _ => hC id) (go49 s) rfl
 ·cases hx

noncomputable def env6 : Env := env5.add 141 (plainF [shTok] [.bool] g49)
theorem env6_all : EnvAll env6 := env5_all.add FOk49
noncomputable def env7 : Env := env6.aut 88 Tryz.f88 1
theorem env7_all : EnvAll env7 := aut_all env6_all mixed0 (by refine ⟨?_, ?_, ?_, ?_⟩ <;> kernel_rfl)
noncomputable def env8 : Env := env7.aut 46 Tryz.f46 1
theorem env8_all : EnvAll env8 := aut_all env7_all mixed0 (by refine ⟨?_, ?_, ?_, ?_⟩ <;> kernel_rfl)
end Cad
