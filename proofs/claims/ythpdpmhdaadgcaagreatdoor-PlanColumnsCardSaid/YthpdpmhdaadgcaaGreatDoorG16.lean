/- Sources: what is taken out: slices.DeleteFunc on memory of its own. Sources: plan.Take. plan.Take: what it answers. The document's reader: letters, words. The document's reader: parts, passing. The document's reader: names. The document's reader: tokens. The document's reader: cut; names. The document's writer. The document's statements: texts. Functions on two variables to which pointers lead. -/
import Derived.Test.YthpdpmhdaadgcaaGreatDoorG15
import Derived.Test.YthpdpmhdaadgcaaGreatDoorG14
import Derived.Test.YthpdpmhdaadgcaaGreatDoorG12
namespace Cad
open Go Go.Proofs
set_option maxHeartbeats 4000000

abbrev kp53a : Nat → Keep := fun j => if j = 5 then { slots := [0, 1, 5, 6] } else { }
abbrev s53a_5 (i5 : Int) (i6 : Int) (lh_0 : List (Sem shFor)) (jb0 : List (Sem Sh.str)) : St := {
 tmps :=
  [AV.vec 0, AV.clo (Fn.func 49) [] [AV.ptr 1 0], AV.any, AV.any, AV.any, AV.int .i64 i5, AV.int .i64 i6, AV.any, AV.any, AV.any, AV.any,
   AV.any, AV.any, AV.any, AV.any, AV.any, AV.any, AV.any, AV.any, AV.any, AV.any, AV.any, AV.any, AV.any, AV.any, AV.any, AV.any, AV.any, AV.any, AV.any,
   AV.any, AV.any, AV.any, AV.any, AV.any, AV.any, AV.any, AV.any, AV.any, AV.any, AV.any, AV.any],
 heap := [AO.vec shFor lh_0, AO.box [AV.sl Sh.str jb0]] }
theorem ok53a : fnChk env95.P 53 Tryz.f53 2 := by refine ⟨?_, ?_, ?_, ?_⟩ <;> kernel_rfl
theorem go53a (l : List (Sem shFor)) (s : List Str) : run env95 2 kp53a (Func.results Tryz.f53).toList 400 (bodyOf Tryz.f53) (initSt (Func.ntmps Tryz.f53) [AV.vec 0, AV.clo (Fn.func 49) [] [AV.ptr 1 0]] [AO.vec shFor l, AO.box [AV.sl Sh.str s]]) =
 Tr.chk (decide (l.length ≤ 1000000))
 (Tr.br (ixFrom (fun x => !hasStr s x.2) l 0 == -1) (Tr.ok (Leaf.ret (AV.vec 0) [AO.vec shFor l, AO.box [AV.sl Sh.str s]]))
  (Tr.ok
   (Leaf.head 5 (headK Tryz.f53 5) (s53a_5 (ixFrom (fun x => !hasStr s x.2) l 0) (IntKind.i64.wrap (ixFrom (fun x => !hasStr s x.2) l 0 + 1)) l s)))) := by kernel_rfl
theorem on53a_5 (i5 : Int) (i6 : Int) (lh_0 : List (Sem shFor)) (jb0 : List (Sem Sh.str)) : run env95 2 kp53a (Func.results Tryz.f53).toList 400 (headK Tryz.f53 5) (s53a_5 i5 i6 lh_0 jb0) =
 Tr.br (decide (i6 < (↑lh_0.length : Int)))
 (Tr.chk (inB i6 lh_0.length)
  (Tr.chk (decide (i6.toNat < lh_0.length))
   (Tr.br (!!hasStr jb0 (lh_0.getD i6.toNat (dflt shFor)).2)
    (Tr.chk (inB i5 lh_0.length)
     (Tr.chk (decide (i5.toNat < lh_0.length))
      (Tr.ok
       (Leaf.head 5 (headK Tryz.f53 5)
        (s53a_5 (IntKind.i64.wrap (i5 + 1)) (IntKind.i64.wrap (i6 + 1)) (lh_0.set i5.toNat (lh_0.getD i6.toNat (dflt shFor)))
         jb0)))))
    (Tr.ok (Leaf.head 5 (headK Tryz.f53 5) (s53a_5 i5 (IntKind.i64.wrap (i6 + 1)) lh_0 jb0))))))
 (Tr.chk (decide (0 ≤ i5) && decide (i5 ≤ (↑lh_0.length : Int)))
  (Tr.chk (decide (i5.toNat ≤ lh_0.length))
   (Tr.chk (decide (0 ≤ 0) && decide (0 ≤ i5) && decide (i5 ≤ (↑(List.take i5.toNat lh_0 ++ List.replicate (lh_0.length - i5.toNat) (0, [])).length : Int)))
    (Tr.ok
     (Leaf.ret
      (AV.sl shFor
       (List.take (i5.toNat - Int.toNat 0) (List.drop (Int.toNat 0) (List.take i5.toNat lh_0 ++ List.replicate (lh_0.length - i5.toNat) (0, [])))))
      [AO.frz shFor (List.take i5.toNat lh_0 ++ List.replicate (lh_0.length - i5.toNat) (0, [])),
       AO.box [AV.sl Sh.str jb0]]))))) := by kernel_rfl

theorem ixFrom_spec {α : Type} (p : α → Bool) : ∀ (l : List α) (i : Nat), (ixFrom p l i = -1 ∧ ∀ x ∈ l, p x = false) ∨ ∃ (k : Nat) (h : k < l.length), ixFrom p l i = ((i + k : Nat) : Int) ∧ p l[k] = true ∧ ∀ x ∈ l.take k, p x = false
 | [], _ => .inl ⟨rfl, by simp⟩
 | x :: r, i => by
  unfold ixFrom
  split
  ·rename_i h
   exact .inr ⟨0, by simp, rfl, h, by simp⟩
  ·rename_i h
   have hx : p x = false := by simpa using h
   rcases ixFrom_spec p r (i + 1) with ⟨h1, h2⟩ | ⟨k, hk, h1, h2, h3⟩
   ·refine .inl ⟨h1, fun y hy => ?_⟩
    rcases List.mem_cons.1 hy with rfl | hy
    ·exact hx
    ·exact h2 y hy
   ·refine .inr ⟨k + 1, by simpa using hk, by rw [h1]; congr 1; omega, by simpa using h2, fun y hy => ?_⟩
    rw [List.take_succ_cons] at hy
    rcases List.mem_cons.1 hy with rfl | hy
    ·exact hx
    ·exact h3 y hy

abbrev keepS (s : List Str) : Sem shFor → Bool := fun x => hasStr s x.2
abbrev delF (s : List Str) (l : List (Sem shFor)) : List (Sem shFor) := l.filter (keepS s) ++ List.replicate (l.length - (l.filter (keepS s)).length) ((0, []) : Sem shFor)

theorem at53a {C : Ctx} (hC : ∀ id, 2 ≤ id → C.ρ0 id = none) (l : List (Sem shFor)) (s : List Str) (hl : l.length ≤ 1000000) : ∀ (m i6 i5 : Nat) (cur : List (Sem shFor)), l.length - i6 = m → i6 ≤ l.length → i5 ≤ i6 → cur.length = l.length →
  cur.take i5 = (l.take i6).filter (keepS s) → cur.drop i6 = l.drop i6 →
  Reach env95 C 53 (headK Tryz.f53 5) (s53a_5 (i5 : Int) (i6 : Int) cur s) (fun r h => (r, h) = (.sl shFor (l.filter (keepS s)), [AO.frz shFor (delF s l), AO.box [AV.sl Sh.str s]])) := by
 intro m
 induction m with
 | zero =>
  intro i6 i5 cur hm' hi h5 hcl ht hd
  obtain rfl : i6 = l.length := by omega
  refine reach_ok env95_all env95_mix ok53a hC (on53a_5 _ _ _ _) ?_
  rw [List.take_length] at ht
  have hlen5 : (l.filter (keepS s)).length = i5 := by rw [← ht, List.length_take]; omega
  have e1 : decide ((l.length : Int) < (cur.length : Int)) = false := by rw [hcl]; simp
  have e2 : (decide ((0 : Int) ≤ (i5 : Int)) && decide ((i5 : Int) ≤ (cur.length : Int))) = true := by simp; omega
  have e3 : decide ((i5 : Int).toNat ≤ cur.length) = true := by simp; omega
  rw [Tr.val, e1]
  simp only [Tr.val, e2, e3, if_true, Bool.false_eq_true, if_false]
  rw [if_pos (by simp; omega)]
  show (AV.sl shFor _, _) = (AV.sl shFor _, _)
  simp only [Int.toNat_natCast, Int.toNat_zero, List.drop_zero, Nat.sub_zero, hcl]
  rw [List.take_append_of_le_length (by simp; omega), List.take_take, Nat.min_self, ht]
  unfold delF
  rw [hlen5]
 | succ m IH =>
  intro i6 i5 cur hm' hi h5 hcl ht hd
  have hlt : i6 < l.length := by omega
  have hltc : i6 < cur.length := by omega
  have h5c : i5 < cur.length := by omega
  have hc6 : cur[i6] = l[i6] := by
   have := congrArg (·[0]?) hd
   simp only [List.getElem?_drop, Nat.add_zero] at this
   rw [List.getElem?_eq_getElem hltc, List.getElem?_eq_getElem hlt] at this
   exact Option.some.inj this
  have h2 : decide ((i6 : Int).toNat < cur.length) = true := by simpa using hltc
  have h3 : decide ((i5 : Int).toNat < cur.length) = true := by simpa using h5c
  have ht6 : l.take (i6 + 1) = l.take i6 ++ [l[i6]] := take_succ' hlt
  have hd6 : cur.drop (i6 + 1) = l.drop (i6 + 1) := by
   have := congrArg (List.drop 1) hd
   simpa [List.drop_drop, Nat.add_comm] using this
  refine reach_ok env95_all env95_mix ok53a hC (on53a_5 _ _ _ _) ?_
  simp only [Tr.val, lt_dec hltc, inB_of hltc, inB_of h5c, h2, h3, getD_at cur _ hltc, hc6, wrap_add i6 (by unfold maxStr; omega), wrap_add i5 (by unfold maxStr; omega), if_true]
  by_cases hk : hasStr s l[i6].2 = true
  ·simp only [hk, Bool.not_true, Bool.not_false, if_true]
   refine IH (i6 + 1) (i5 + 1) _ (by omega) (by omega) (by omega) (by simpa using hcl) ?_ ?_
   ·rw [ht6, List.filter_append, ← ht]
    simp only [Int.toNat_natCast]
    rw [take_succ' (by simpa using h5c)]
    simp [keepS, hk, List.take_set_of_le]
   ·simp only [Int.toNat_natCast]
    rw [List.drop_set_of_lt (by omega)]
    exact hd6
  ·have hkf : hasStr s l[i6].2 = false := by simpa using hk
   simp only [hkf, Bool.not_true, Bool.not_false]
   refine IH (i6 + 1) i5 cur (by omega) (by omega) (by omega) hcl ?_ hd6
   rw [ht6, List.filter_append, ← ht]
   simp [keepS, hkf]

def G53v : GSem [none, none] := fun x h => match x, h with
 | (.vec 0, .clo (.func 49) [] [.ptr 1 0], _), [.vec (.pr (.int .i64) .str) l, .box [.sl .str s]] => .chk (decide (List.length l ≤ 1000000)) (.br (ixFrom (fun x => !hasStr s x.2) l 0 == -1) (.ok (.vec 0, [.vec shFor l, .box [.sl .str s]])) (.ok (.sl shFor (List.filter (keepS s) l), [.frz shFor (delF s l), .box [.sl .str s]])))
 | _, _ => .err
def F53v : FSem := liftF [none, none] G53v
theorem FOk53v : FOk env95.P env95.gl 53 F53v := by
 refine FOk_of ok53a fun x h0 res hx C hC => ?_
 unfold G53v at hx
 split at hx
 ·rename_i u l s
  simp only [Tr.val] at hx
  split at hx
  ·rename_i hl
   have hl' : List.length l ≤ 1000000 := by simpa using hl
   refine reach_ok (n0 := 2) env95_all env95_mix ok53a hC (go53a l s) ?_
   simp only [Tr.val, hl, if_true]
   split at hx
   ·rename_i h1
    simp only [Option.some.injEq] at hx
    subst hx
    rw [if_pos h1]
    rfl
   ·rename_i h1
    simp only [Option.some.injEq] at hx
    subst hx
    rw [if_neg h1]
    rcases ixFrom_spec (fun x : Sem shFor => !hasStr s x.2) l 0 with ⟨h2, _⟩ | ⟨k, hk, h2, h3, h4⟩
    ·exfalso; apply h1; rw [h2]; rfl
    ·rw [h2, Nat.zero_add, wrap_add k (by unfold maxStr; omega)]
     refine at53a hC l s hl' _ (k + 1) k l rfl (by omega) (by omega) rfl ?_ rfl
     rw [take_succ' hk, List.filter_append]
     have h5 : keepS s l[k] = false := by simpa [keepS] using h3
     have h6 : (l.take k).filter (keepS s) = l.take k := by
      rw [List.filter_eq_self]
      intro x hx
      have := h4 x hx
      simpa [keepS] using this
     rw [h6]
     simp [h5]
  ·cases hx
 ·simp at hx

noncomputable def env96 : Env := (env95.add 53 F53v)
theorem env96_all : EnvAll env96 := (EnvAll.addS env95_all (SameE.refl env95) FOk53v)
theorem env96_mix : env96.P.follows .mixedOrders = true := (mix_add env95_mix _ _)
open Go Go.Proofs
noncomputable section
set_option maxHeartbeats 4000000

abbrev kp19p : Nat → Keep := fun j => if j = 5 then { slots := [1, 7, 8, 16, 17, 18] } else { }
inductive H19p where
 | h5 (l1 : List (Sem shRel)) (l16 : List (Sem Sh.str)) (i17 : Int) (i18 : Int) (ja0 : List (Sem Sh.str))
 | h5b (l1 : List (Sem shRel)) (l16 : List (Sem Sh.str)) (i17 : Int) (i18 : Int) (ja0 : List (Sem Sh.str)) (lh_1 : List (Sem shRel))
abbrev e19p : H19p → Nat × St
 | .h5 l1 l16 i17 i18 ja0 => (5, ⟨tm 45 [(1, AV.sl shRel l1), (7, AV.clo (Fn.func 49) [] [AV.ptr 0 0]), (8, AV.nils), (16, AV.sl Sh.str l16), (17, AV.int .i64 i17), (18, AV.int .i64 i18)], [AO.box [AV.sl Sh.str ja0]]⟩)
 | .h5b l1 l16 i17 i18 ja0 lh_1 => (5, ⟨tm 45 [(1, AV.sl shRel l1), (7, AV.clo (Fn.func 49) [] [AV.ptr 0 0]), (8, AV.vec 1), (16, AV.sl Sh.str l16), (17, AV.int .i64 i17), (18, AV.int .i64 i18)], [AO.box [AV.sl Sh.str ja0], AO.vec shRel lh_1]⟩)
theorem ok19p : fnChk env96.P 19 Tryz.f19 2 := by refine ⟨?_, ?_, ?_, ?_⟩ <;> kernel_rfl
def i19pz (_ : Sem shPlan) (x1 : Sem shRel.sl) (a0 : Sem Sh.str.sl) : Tr (H19p ⊕ Raw) :=
 Tr.to (H19p.h5 x1 a0 (↑(List.length a0) : Int) 0 a0)
def i19p (x0 : Sem shPlan) (x1 : Sem shRel.sl) : Tr (H19p ⊕ Raw) :=
 let a0 := pSources (x0.1, x0.2.1, x0.2.2.1, (x0.2.2.2.1.1, x0.2.2.2.1.2.1, x0.2.2.2.1.2.2.1, x0.2.2.2.1.2.2.2.1, x0.2.2.2.1.2.2.2.2.1, etaE x0.2.2.2.1.2.2.2.2.2), x0.2.2.2.2)
 i19pz x0 x1 a0
def t19p_5z (l1 : List (Sem shRel)) (l16 : List (Sem Sh.str)) (i17 : Int) (i18 : Int) (ja0 : List (Sem Sh.str)) (a0 : Sem shInt) (a1 : Sem shRel) (_ : ExprT) (a3 : Sem shTable × Sem shVal.sl.sl) (a4 : List (Sem shRel)) (a5 : Int) (a6 : List (Sem shRel)) : Tr (H19p ⊕ Raw) :=
 Tr.br (decide (i18 < i17))
 (Tr.chk (inB i18 l16.length)
  (Tr.br (decide (a0 < 0)) (Tr.re (AV.tup [AV.nils, AV.int .i64 6]) []) (Tr.chk (inB a0 l1.length) (Tr.chk (cpyC a3) (Tr.chk (decide (List.length a1.1.2.2.2.2.1 ≤ 1000000)) (Tr.br (ixFrom (fun x => !hasStr ja0 x.2) a1.1.2.2.2.2.1 0 == -1) (Tr.chk (decide (a4.length ≤ 1073741824)) (Tr.to (H19p.h5b l1 l16 i17 a5 ja0 a4)))
  (Tr.chk (decide (a6.length ≤ 1073741824)) (Tr.to (H19p.h5b l1 l16 i17 a5 ja0 a6)))))))))
 (Tr.re (AV.tup [AV.nils, AV.int .i64 0]) [])
def t19p_5 (l1 : List (Sem shRel)) (l16 : List (Sem Sh.str)) (i17 : Int) (i18 : Int) (ja0 : List (Sem Sh.str)) : Tr (H19p ⊕ Raw) :=
 let a0 := bFind l1 (l16.getD i18.toNat (dflt Sh.str))
 let a1 := l1.getD (Int.toNat a0) (dflt shRel)
 let a2 := etaE a1.1.2.2.2.2.2
 let a3 := ((a1.1.1, a1.1.2.1, a1.1.2.2.1, a1.1.2.2.2.1, a1.1.2.2.2.2.1, a2), a1.2)
 let a4 := [a3]
 let a5 := IntKind.i64.wrap (i18 + 1)
 let a6 := [((a1.1.1, a1.1.2.1, a1.1.2.2.1, a1.1.2.2.2.1, List.filter (keepS ja0) a1.1.2.2.2.2.1, a2), a1.2)]
 t19p_5z l1 l16 i17 i18 ja0 a0 a1 a2 a3 a4 a5 a6
def t19p_5bz (l1 : List (Sem shRel)) (l16 : List (Sem Sh.str)) (i17 : Int) (i18 : Int) (ja0 : List (Sem Sh.str)) (lh_1 : List (Sem shRel)) (a0 : Sem shInt) (a1 : Sem shRel) (_ : ExprT) (a3 : Sem shTable × Sem shVal.sl.sl) (a4 : List (Sem shRel)) (a5 : Int) (a6 : List (Sem shRel)) : Tr (H19p ⊕ Raw) :=
 Tr.br (decide (i18 < i17))
 (Tr.chk (inB i18 l16.length)
  (Tr.br (decide (a0 < 0)) (Tr.re (AV.tup [AV.nils, AV.int .i64 6]) []) (Tr.chk (inB a0 l1.length) (Tr.chk (cpyC a3) (Tr.chk (decide (List.length a1.1.2.2.2.2.1 ≤ 1000000)) (Tr.br (ixFrom (fun x => !hasStr ja0 x.2) a1.1.2.2.2.2.1 0 == -1) (Tr.chk (decide (lh_1.length + a4.length ≤ 1073741824)) (Tr.to (H19p.h5b l1 l16 i17 a5 ja0 (lh_1 ++ a4))))
  (Tr.chk (decide (lh_1.length + a6.length ≤ 1073741824)) (Tr.to (H19p.h5b l1 l16 i17 a5 ja0 (lh_1 ++ a6))))))))))
 (Tr.re (AV.tup [AV.vec 0, AV.int .i64 0])
  [AO.vec shRel lh_1])
def t19p_5b (l1 : List (Sem shRel)) (l16 : List (Sem Sh.str)) (i17 : Int) (i18 : Int) (ja0 : List (Sem Sh.str)) (lh_1 : List (Sem shRel)) : Tr (H19p ⊕ Raw) :=
 let a0 := bFind l1 (l16.getD i18.toNat (dflt Sh.str))
 let a1 := l1.getD (Int.toNat a0) (dflt shRel)
 let a2 := etaE a1.1.2.2.2.2.2
 let a3 := ((a1.1.1, a1.1.2.1, a1.1.2.2.1, a1.1.2.2.2.1, a1.1.2.2.2.2.1, a2), a1.2)
 let a4 := [a3]
 let a5 := IntKind.i64.wrap (i18 + 1)
 let a6 := [((a1.1.1, a1.1.2.1, a1.1.2.2.1, a1.1.2.2.2.1, List.filter (keepS ja0) a1.1.2.2.2.2.1, a2), a1.2)]
 t19p_5bz l1 l16 i17 i18 ja0 lh_1 a0 a1 a2 a3 a4 a5 a6
theorem go19p (x0 : Sem shPlan) (x1 : Sem shRel.sl) : run env96 0 kp19p (Func.results Tryz.f19).toList 400 (bodyOf Tryz.f19) (initSt (Func.ntmps Tryz.f19) [datum shPlan x0, datum shRel.sl x1] []) = (i19p x0 x1).map (lf Tryz.f19 e19p) := by kernel_rfl
def t19p : H19p → Tr (H19p ⊕ Raw)
 | .h5 l1 l16 i17 i18 ja0 => t19p_5 l1 l16 i17 i18 ja0
 | .h5b l1 l16 i17 i18 ja0 lh_1 => t19p_5b l1 l16 i17 i18 ja0 lh_1
theorem on19p : ∀ s, run env96 0 kp19p (Func.results Tryz.f19).toList 400 (headK Tryz.f19 (e19p s).1) (e19p s).2 = (t19p s).map (lf Tryz.f19 e19p)
 | .h5 l1 l16 i17 i18 ja0 => by kernel_rfl
 | .h5b l1 l16 i17 i18 ja0 lh_1 => by kernel_rfl
def pTakeO (x0 : Sem shPlan) (x1 : Sem shRel.sl) : Option (HArgs (List.map some [shRel.sl, shInt])) := outT [shRel.sl, shInt] t19p 100000000 (i19p x0 x1)
def pTakeC (x0 : Sem shPlan) (x1 : Sem shRel.sl) : Bool := (pTakeO x0 x1).isSome
def pTake (x0 : Sem shPlan) (x1 : Sem shRel.sl) : Sem shRel.sl × Sem shInt := (fun r : HArgs (List.map some [shRel.sl, shInt]) => (r.1, r.2.1)) ((pTakeO x0 x1).getD (dfltH [shRel.sl, shInt]))
def F19p : FSem := plainC [shPlan, shRel.sl] [shRel.sl, shInt] (fun x => pTakeC x.1 x.2.1) fun x => ((pTake x.1 x.2.1).1, (pTake x.1 x.2.1).2, ())
theorem FOk19p : FOk env96.P env96.gl 19 F19p := FOk_T1 (ks := [shPlan, shRel.sl]) (outs := [shRel.sl, shInt]) (keep := kp19p) (gas := 400) (n := 100000000) (e := e19p) (t := t19p) (i := fun x => i19p x.1 x.2.1) env96_all env96_mix ok19p (fun x => go19p x.1 x.2.1) on19p (fun _ => by kernel_rfl) (fun _ => by kernel_rfl)

def env97 : Env := (env96.add 19 F19p)
end
open Go Go.Proofs
set_option maxHeartbeats 4000000

abbrev tkR (ns : List Str) (x : Sem shRel) : Sem shRel := ((x.1.1, x.1.2.1, x.1.2.2.1, x.1.2.2.2.1, List.filter (keepS ns) x.1.2.2.2.2.1, x.1.2.2.2.2.2), x.2)
abbrev tkAt (ns : List Str) (db : List (Sem shRel)) (n : Str) : Sem shRel := tkR ns (List.getD db (Int.toNat (bFind db n)) (dflt shRel))

theorem tk_keep {ns : List Str} {x : Sem shRel} (h : (ixFrom (fun y : Sem shFor => !hasStr ns y.2) x.1.2.2.2.2.1 0 == -1) = true) : x = tkR ns x := by
 have hf : List.filter (keepS ns) x.1.2.2.2.2.1 = x.1.2.2.2.2.1 := by
  rcases ixFrom_spec (fun y : Sem shFor => !hasStr ns y.2) x.1.2.2.2.2.1 0 with ⟨_, h2⟩ | ⟨k, hk, h2, _⟩
  ·rw [List.filter_eq_self]
   intro y hy
   have := h2 y hy
   simpa [keepS] using this
  ·exfalso
   rw [h2] at h
   have := eq_of_beq h
   omega
 unfold tkR
 rw [hf]

theorem tk_step {db : List (Sem shRel)} {ns : List Str} (hdb : ∀ x ∈ db, cpyC x = true) (hf : ∀ n ∈ ns, (0 : Int) ≤ bFind db n) (hl : ns.length ≤ 1000) (i : Nat) (hi : i < ns.length) (b : List (Sem shRel)) (hb : b.length ≤ 1000) :
  (t19p (.h5b db ns (ns.length : Int) (i : Int) ns b)).val = some (.inl (.h5b db ns (ns.length : Int) ((i + 1 : Nat) : Int) ns (b ++ [tkAt ns db ns[i]]))) := by
 have h0 : (0 : Int) ≤ bFind db ns[i] := hf _ (List.getElem_mem hi)
 have hn : ¬ LT.lt (α := Int) (bFind db ns[i]) 0 := by omega
 have hmem := find_mem (db := db) (s := ns[i]) h0
 have hc := hdb _ hmem
 have hr : decide (List.length (List.getD db (Int.toNat (bFind db ns[i])) (dflt shRel)).1.2.2.2.2.1 ≤ 1000000) = true := by
  unfold cpyC at hc
  simp only [Bool.and_eq_true] at hc
  exact hc.1.1.1.2
 simp only [t19p, t19p_5b, t19p_5bz, Tr.val, lt_dec hi, inB_of hi, getD_at' _ _ hi, if_true, decide_eq_false hn, inB_find h0, etaE_eq, Prod.eta, hc, hr]
 rw [wrap_add i (by unfold maxStr; omega)]
 by_cases h1 : (ixFrom (fun y : Sem shFor => !hasStr ns y.2) (List.getD db (Int.toNat (bFind db ns[i])) (dflt shRel)).1.2.2.2.2.1 0 == -1) = true
 ·rw [if_neg (by simp), if_pos h1, if_pos (by simp; omega)]
  have := tk_keep h1
  show some (Sum.inl (H19p.h5b db ns _ _ ns (b ++ [List.getD db (Int.toNat (bFind db ns[i])) (dflt shRel)]))) = _
  rw [this]
 ·rw [if_neg (by simp), if_neg h1, if_pos (by simp; omega)]

theorem tk_first {db : List (Sem shRel)} {ns : List Str} (hdb : ∀ x ∈ db, cpyC x = true) (hf : ∀ n ∈ ns, (0 : Int) ≤ bFind db n) (hi : 0 < ns.length) :
  (t19p (.h5 db ns (ns.length : Int) 0 ns)).val = some (.inl (.h5b db ns (ns.length : Int) ((1 : Nat) : Int) ns [tkAt ns db ns[0]])) := by
 have h0 : (0 : Int) ≤ bFind db ns[0] := hf _ (List.getElem_mem hi)
 have hn : ¬ LT.lt (α := Int) (bFind db ns[0]) 0 := by omega
 have hmem := find_mem (db := db) (s := ns[0]) h0
 have hc := hdb _ hmem
 have hr : decide (List.length (List.getD db (Int.toNat (bFind db ns[0])) (dflt shRel)).1.2.2.2.2.1 ≤ 1000000) = true := by
  unfold cpyC at hc
  simp only [Bool.and_eq_true] at hc
  exact hc.1.1.1.2
 have e0 : (0 : Int) = ((0 : Nat) : Int) := rfl
 rw [e0]
 simp only [t19p, t19p_5, t19p_5z, Tr.val, lt_dec hi, inB_of hi, getD_at' _ _ hi, if_true, decide_eq_false hn, inB_find h0, etaE_eq, Prod.eta, hc, hr]
 rw [wrap_add 0 (by unfold maxStr; omega)]
 by_cases h1 : (ixFrom (fun y : Sem shFor => !hasStr ns y.2) (List.getD db (Int.toNat (bFind db ns[0])) (dflt shRel)).1.2.2.2.2.1 0 == -1) = true
 ·rw [if_neg (by simp), if_pos h1, if_pos (by simp)]
  have := tk_keep h1
  show some (Sum.inl (H19p.h5b db ns _ _ ns [List.getD db (Int.toNat (bFind db ns[0])) (dflt shRel)])) = _
  rw [this]
 ·rw [if_neg (by simp), if_neg h1, if_pos (by simp)]

theorem pTake_ok {p : Sem shPlan} {db : List (Sem shRel)} (hdb : ∀ x ∈ db, cpyC x = true) (hf : ∀ n ∈ pSources p, (0 : Int) ≤ bFind db n) : pTakeO p db = some ((pSources p).map (tkAt (pSources p) db), 0, ()) := by
 have hns : 0 < List.length (pSources p) ∧ List.length (pSources p) ≤ 2 := by unfold pSources; split <;> simp
 generalize hg : pSources p = ns at *
 have h := iter_inv (t := t19p) (β := List (Sem shRel)) ns.length (fun b i => .h5b db ns (ns.length : Int) (i : Int) ns b) (fun b i => b = (ns.take i).map (tkAt ns db)) (fun r => r = (AV.tup [AV.vec 0, AV.int .i64 0], [AO.vec shRel (ns.map (tkAt ns db))])) 1 (by
   intro b i hi hb
   refine Or.inl ⟨b ++ [tkAt ns db ns[i]], ?_, tk_step hdb hf (by omega) i hi b (by rw [hb]; simp; omega)⟩
   rw [hb, take_succ' hi, List.map_append]
   rfl) (by
   intro b n hb hn
   obtain ⟨n, rfl⟩ : ∃ k, n = k + 1 := ⟨n - 1, by omega⟩
   rw [iterT_val]
   simp only [t19p, t19p_5b, t19p_5bz, Tr.val, lt_dec']
   rw [List.take_length] at hb
   exact ⟨_, rfl, by rw [hb]⟩) (ns.length - 1) 1 [tkAt ns db ns[0]] 99999999 rfl (by omega) (by
   match ns, hns with
   | a :: r, _ => rfl) (by omega)
 obtain ⟨r, h1, rfl⟩ := h
 unfold pTakeO outT runT
 have hi : (i19p p db).val = some (.inl (.h5 db ns (ns.length : Int) 0 ns)) := by
  simp only [i19p, i19pz, Tr.val, etaE_eq, Prod.eta, hg]
 rw [hi]
 show (iterT t19p 100000000 _).bind _ = _
 rw [show (100000000 : Nat) = 99999999 + 1 from rfl, iterT_val, tk_first hdb hf hns.1]
 simp only
 rw [h1]
 rfl
open Go Go.Proofs
noncomputable section
set_option maxHeartbeats 4000000
abbrev cpRd : List CP := [.d (.sl shFor), .d shInt, .d .bool]

abbrev kp134p : Nat → Keep := fun _ => { }
theorem ok134p : fnChk env63.P 134 Tryz.f134 1 := by refine ⟨?_, ?_, ?_, ?_⟩ <;> kernel_rfl
def i134pz (x0 : Sem (Sh.int IntKind.u8)) (a0 : Bool) : Tr (Empty ⊕ Raw) :=
 Tr.re (AV.bool (bif decide (65 ≤ x0) then bif decide (x0 ≤ 90) then true else a0 else a0)) []
def i134p (x0 : Sem (Sh.int IntKind.u8)) : Tr (Empty ⊕ Raw) :=
 let a0 := bif decide (97 ≤ x0) then decide (x0 ≤ 122) else false
 i134pz x0 a0
theorem go134p (x0 : Sem (Sh.int IntKind.u8)) : run env63 0 kp134p (Func.results Tryz.f134).toList 400 (bodyOf Tryz.f134) (initSt (Func.ntmps Tryz.f134) [datum (Sh.int IntKind.u8) x0] []) = (i134p x0).map (lf Tryz.f134 e0) := by kernel_rfl
def r3letterO (x0 : Sem (Sh.int IntKind.u8)) : Option (HArgs (List.map some [Sh.bool])) := outT [Sh.bool] t0 100000000 (i134p x0)
def r3letterC (x0 : Sem (Sh.int IntKind.u8)) : Bool := (r3letterO x0).isSome
def r3letter (x0 : Sem (Sh.int IntKind.u8)) : Sem Sh.bool := (fun r : HArgs (List.map some [Sh.bool]) => r.1) ((r3letterO x0).getD (dfltH [Sh.bool]))
def F134p : FSem := plainC [Sh.int IntKind.u8] [Sh.bool] (fun x => r3letterC x.1) fun x => (r3letter x.1, ())
theorem FOk134p : FOk env63.P env63.gl 134 F134p := FOk_T1 (ks := [Sh.int IntKind.u8]) (outs := [Sh.bool]) (keep := kp134p) (gas := 400) (n := 100000000) (e := e0) (t := t0) (i := fun x => i134p x.1) env63_all env63_mix ok134p (fun x => go134p x.1) (on0 _ _ _ _ _) (fun _ => by kernel_rfl) (fun _ => by kernel_rfl)

abbrev kp136p : Nat → Keep := fun _ => { }
theorem ok136p : fnChk env63.P 136 Tryz.f136 1 := by refine ⟨?_, ?_, ?_, ?_⟩ <;> kernel_rfl
def i136p (x0 : Sem (Sh.int IntKind.u8)) : Tr (Empty ⊕ Raw) :=
 Tr.re (AV.bool (bif decide (48 ≤ x0) then decide (x0 ≤ 57) else false)) []
theorem go136p (x0 : Sem (Sh.int IntKind.u8)) : run env63 0 kp136p (Func.results Tryz.f136).toList 400 (bodyOf Tryz.f136) (initSt (Func.ntmps Tryz.f136) [datum (Sh.int IntKind.u8) x0] []) = (i136p x0).map (lf Tryz.f136 e0) := by kernel_rfl
def r3digitO (x0 : Sem (Sh.int IntKind.u8)) : Option (HArgs (List.map some [Sh.bool])) := outT [Sh.bool] t0 100000000 (i136p x0)
def r3digitC (x0 : Sem (Sh.int IntKind.u8)) : Bool := (r3digitO x0).isSome
def r3digit (x0 : Sem (Sh.int IntKind.u8)) : Sem Sh.bool := (fun r : HArgs (List.map some [Sh.bool]) => r.1) ((r3digitO x0).getD (dfltH [Sh.bool]))
def F136p : FSem := plainC [Sh.int IntKind.u8] [Sh.bool] (fun x => r3digitC x.1) fun x => (r3digit x.1, ())
theorem FOk136p : FOk env63.P env63.gl 136 F136p := FOk_T1 (ks := [Sh.int IntKind.u8]) (outs := [Sh.bool]) (keep := kp136p) (gas := 400) (n := 100000000) (e := e0) (t := t0) (i := fun x => i136p x.1) env63_all env63_mix ok136p (fun x => go136p x.1) (on0 _ _ _ _ _) (fun _ => by kernel_rfl) (fun _ => by kernel_rfl)

abbrev kp82p : Nat → Keep := fun j => if j = 2 then { slots := [0, 1, 5] } else { }
inductive H82p where
 | h2 (l0 : LS) (s1 : TS) (i5 : Int)
abbrev e82p : H82p → Nat × St
 | .h2 l0 s1 i5 => (2, ⟨tm 18 [(0, AV.sl Sh.str l0), (1, AV.str s1), (5, AV.int .i64 i5)], []⟩)
theorem ok82p : fnChk env63.P 82 Tryz.f82 2 := by refine ⟨?_, ?_, ?_, ?_⟩ <;> kernel_rfl
def i82p (x0 : Sem Sh.str.sl) (x1 : TS) : Tr (H82p ⊕ Raw) :=
 Tr.to (H82p.h2 x0 x1 0)
def t82p_2 (l0 : LS) (s1 : TS) (i5 : Int) : Tr (H82p ⊕ Raw) :=
 Tr.br (decide (i5 < (↑l0.length : Int)))
 (Tr.chk (inB i5 l0.length) (Tr.br (l0.getD i5.toNat (dflt Sh.str) == s1) (Tr.re (AV.kb true) []) (Tr.to (H82p.h2 l0 s1 (IntKind.i64.wrap (i5 + 1))))))
 (Tr.re (AV.kb false) [])
theorem go82p (x0 : Sem Sh.str.sl) (x1 : TS) : run env63 0 kp82p (Func.results Tryz.f82).toList 400 (bodyOf Tryz.f82) (initSt (Func.ntmps Tryz.f82) [datum Sh.str.sl x0, datum Sh.str x1] []) = (i82p x0 x1).map (lf Tryz.f82 e82p) := by kernel_rfl
def t82p : H82p → Tr (H82p ⊕ Raw)
 | .h2 l0 s1 i5 => t82p_2 l0 s1 i5
theorem on82p : ∀ s, run env63 0 kp82p (Func.results Tryz.f82).toList 400 (headK Tryz.f82 (e82p s).1) (e82p s).2 = (t82p s).map (lf Tryz.f82 e82p)
 | .h2 l0 s1 i5 => by kernel_rfl
def r4inO (x0 : Sem Sh.str.sl) (x1 : TS) : Option (HArgs (List.map some [Sh.bool])) := outT [Sh.bool] t82p 100000000 (i82p x0 x1)
def r4inC (x0 : Sem Sh.str.sl) (x1 : TS) : Bool := (r4inO x0 x1).isSome
def r4in (x0 : Sem Sh.str.sl) (x1 : TS) : Sem Sh.bool := (fun r : HArgs (List.map some [Sh.bool]) => r.1) ((r4inO x0 x1).getD (dfltH [Sh.bool]))
def F82p : FSem := plainC [Sh.str.sl, Sh.str] [Sh.bool] (fun x => r4inC x.1 x.2.1) fun x => (r4in x.1 x.2.1, ())
theorem FOk82p : FOk env63.P env63.gl 82 F82p := FOk_T1 (ks := [Sh.str.sl, Sh.str]) (outs := [Sh.bool]) (keep := kp82p) (gas := 400) (n := 100000000) (e := e82p) (t := t82p) (i := fun x => i82p x.1 x.2.1) env63_all env63_mix ok82p (fun x => go82p x.1 x.2.1) on82p (fun _ => by kernel_rfl) (fun _ => by kernel_rfl)

abbrev kp112p : Nat → Keep := fun _ => { }
theorem ok112p : fnChk env63.P 112 Tryz.f112 2 := by refine ⟨?_, ?_, ?_, ?_⟩ <;> kernel_rfl
def i112pz (y : CSem cpRd) (_ : TS) (a0 : Bool) (a1 : Bool) (_ : Sem shFor) (a3 : Bool) (a4 : Bool) (a5 : Bool) : Tr (Empty ⊕ Raw) :=
 Tr.chk (bif a0 then a1 && bif a3 then a1 else a1 && bif a4 then a1 else true else true)
 (Tr.re (AV.bool (bif a0 then bif a3 then a5 else bif a4 then a5 else false else false)) (cpHeap cpRd y))
def i112p (y : CSem cpRd) (x0 : TS) : Tr (Empty ⊕ Raw) :=
 let a0 := decide (y.2.1 < (↑(List.length y.1) : Int))
 let a1 := inB y.2.1 (List.length y.1)
 let a2 := List.getD y.1 (Int.toNat y.2.1) (dflt shFor)
 let a3 := a2.1 == 1
 let a4 := a2.1 == 4
 let a5 := a2.2 == x0
 i112pz y x0 a0 a1 a2 a3 a4 a5
theorem go112p (y : CSem cpRd) (x0 : TS) : run env63 1 kp112p (Func.results Tryz.f112).toList 400 (bodyOf Tryz.f112) (initSt (Func.ntmps Tryz.f112) [AV.ptr 0 0, datum Sh.str x0] (cpHeap cpRd y)) = (i112p y x0).map (lf Tryz.f112 e0) := by kernel_rfl
def rdSeeO (y : CSem cpRd) (x0 : TS) : Option (HArgs (List.map some [Sh.bool]) × CSem cpRd) := outB [Sh.bool] cpRd t0 100000000 (i112p y x0)
def rdSeeC (y : CSem cpRd) (x0 : TS) : Bool := (rdSeeO y x0).isSome
def rdSee (y : CSem cpRd) (x0 : TS) : (Sem Sh.bool) × CSem cpRd := (fun r : HArgs (List.map some [Sh.bool]) × CSem cpRd => (r.1.1, r.2)) ((rdSeeO y x0).getD (dfltH [Sh.bool], dfltC cpRd))
def F112p : FSem := boxF cpRd [Sh.str] [Sh.bool] cpRd (fun y x => rdSeeC y x.1) fun y x => (((rdSee y x.1).1, ()), (rdSee y x.1).2)
theorem FOk112p : FOk env63.P env63.gl 112 F112p := FOk_B1 (ps := cpRd) (ks := [Sh.str]) (outs := [Sh.bool]) (keep := kp112p) (gas := 400) (n := 100000000) (e := e0) (t := t0) (i := fun y x => i112p y x.1) env63_all env63_mix ok112p (fun y x => go112p y x.1) (on0 _ _ _ _ _) (fun _ _ => by kernel_rfl) (fun _ _ => by kernel_rfl)

abbrev kp77p : Nat → Keep := fun j => if j = 4 then { slots := [2, 3, 5] } else { }
inductive H77p where
 | h4 (i5 : Int) (ja0 : Str) (ja1 : Int) (ja2 : Int) (ja3 : Str) (ja4 : Str) (ja5 : LX) (jb0 : Str) (jb1 : Int) (jb2 : Int) (jb3 : Str) (jb4 : Str) (jb5 : LX)
abbrev e77p : H77p → Nat × St
 | .h4 i5 ja0 ja1 ja2 ja3 ja4 ja5 jb0 jb1 jb2 jb3 jb4 jb5 => (4, ⟨tm 53 [(2, AV.ptr 0 0), (3, AV.ptr 1 0), (5, AV.int .i64 i5)], [AO.box [AV.str ja0, AV.int .i64 ja1, AV.int .i64 ja2, AV.str ja3, AV.str ja4, AV.sl Sh.expr ja5], AO.box [AV.str jb0, AV.int .i64 jb1, AV.int .i64 jb2, AV.str jb3, AV.str jb4, AV.sl Sh.expr jb5]]⟩)
theorem ok77p : fnChk env63.P 77 Tryz.f77 2 := by refine ⟨?_, ?_, ?_, ?_⟩ <;> kernel_rfl
def i77p (x0 : Sem Sh.expr) (x1 : Sem Sh.expr) : Tr (H77p ⊕ Raw) :=
 Tr.br
 (bif !ExprT.op x0 == ExprT.op x1 then true
 else
  bif !((ExprT.v x0).1 == (ExprT.v x1).1 && ((ExprT.v x0).2.1 == (ExprT.v x1).2.1 && ((ExprT.v x0).2.2 == (ExprT.v x1).2.2 && true))) then true
  else bif !ExprT.s x0 == ExprT.s x1 then true else (↑(ExprT.l x0).length : Int) != (↑(ExprT.l x1).length : Int))
 (Tr.re (AV.kb false) [])
 (Tr.to
  (H77p.h4 0 (ExprT.op x0) (ExprT.v x0).1 (ExprT.v x0).2.1 (ExprT.v x0).2.2 (ExprT.s x0) (ExprT.l x0) (ExprT.op x1) (ExprT.v x1).1 (ExprT.v x1).2.1 (ExprT.v x1).2.2 (ExprT.s x1) (ExprT.l x1)))
def t77p_4 (i5 : Int) (_ : Str) (_ : Int) (_ : Int) (_ : Str) (_ : Str) (ja5 : LX) (_ : Str) (_ : Int) (_ : Int) (_ : Str) (_ : Str) (jb5 : LX) : Tr (H77p ⊕ Raw) :=
 Tr.br (decide (i5 < (↑ja5.length : Int))) (Tr.chk (inB i5 ja5.length) (Tr.chk (inB i5 jb5.length) Tr.err)) (Tr.re (AV.kb true) [])
theorem go77p (x0 : Sem Sh.expr) (x1 : Sem Sh.expr) : run env63 0 kp77p (Func.results Tryz.f77).toList 400 (bodyOf Tryz.f77) (initSt (Func.ntmps Tryz.f77) [datum Sh.expr x0, datum Sh.expr x1] []) = (i77p x0 x1).map (lf Tryz.f77 e77p) := by kernel_rfl
def t77p : H77p → Tr (H77p ⊕ Raw)
 | .h4 i5 ja0 ja1 ja2 ja3 ja4 ja5 jb0 jb1 jb2 jb3 jb4 jb5 => t77p_4 i5 ja0 ja1 ja2 ja3 ja4 ja5 jb0 jb1 jb2 jb3 jb4 jb5
theorem on77p : ∀ s, run env63 0 kp77p (Func.results Tryz.f77).toList 400 (headK Tryz.f77 (e77p s).1) (e77p s).2 = (t77p s).map (lf Tryz.f77 e77p)
 | .h4 i5 ja0 ja1 ja2 ja3 ja4 ja5 jb0 jb1 jb2 jb3 jb4 jb5 => by kernel_rfl
def r4SameO (x0 : Sem Sh.expr) (x1 : Sem Sh.expr) : Option (HArgs (List.map some [Sh.bool])) := outT [Sh.bool] t77p 100000000 (i77p x0 x1)
def r4SameC (x0 : Sem Sh.expr) (x1 : Sem Sh.expr) : Bool := (r4SameO x0 x1).isSome
def r4Same (x0 : Sem Sh.expr) (x1 : Sem Sh.expr) : Sem Sh.bool := (fun r : HArgs (List.map some [Sh.bool]) => r.1) ((r4SameO x0 x1).getD (dfltH [Sh.bool]))
def F77p : FSem := plainC [Sh.expr, Sh.expr] [Sh.bool] (fun x => r4SameC x.1 x.2.1) fun x => (r4Same x.1 x.2.1, ())
theorem FOk77p : FOk env63.P env63.gl 77 F77p := FOk_T1 (ks := [Sh.expr, Sh.expr]) (outs := [Sh.bool]) (keep := kp77p) (gas := 400) (n := 100000000) (e := e77p) (t := t77p) (i := fun x => i77p x.1 x.2.1) env63_all env63_mix ok77p (fun x => go77p x.1 x.2.1) on77p (fun _ => by kernel_rfl) (fun _ => by kernel_rfl)

def env72 : Env := (((((env63.add 134 F134p).add 136 F136p).add 82 F82p).add 112 F112p).add 77 F77p)
theorem env72_all : EnvAll env72 := (EnvAll.addS (EnvAll.addS (EnvAll.addS (EnvAll.addS (EnvAll.addS env63_all (SameE.refl env63) FOk134p) ((SameE.refl env63).add _ _) FOk136p) (((SameE.refl env63).add _ _).add _ _) FOk82p) ((((SameE.refl env63).add _ _).add _ _).add _ _) FOk112p) (((((SameE.refl env63).add _ _).add _ _).add _ _).add _ _) FOk77p)
theorem env72_mix : env72.P.follows .mixedOrders = true := (mix_add (mix_add (mix_add (mix_add (mix_add env63_mix _ _) _ _) _ _) _ _) _ _)
end
open Go Go.Proofs
noncomputable section
set_option maxHeartbeats 4000000

abbrev kp135p : Nat → Keep := fun _ => { }
theorem ok135p : fnChk env72.P 135 Tryz.f135 1 := by refine ⟨?_, ?_, ?_, ?_⟩ <;> kernel_rfl
def i135p (x0 : Sem (Sh.int IntKind.u8)) : Tr (Empty ⊕ Raw) :=
 Tr.chk (r3digitC x0 && bif r3digit x0 then true else r3letterC x0) (Tr.re (AV.bool (bif r3digit x0 then true else bif r3letter x0 then true else x0 == 95)) [])
theorem go135p (x0 : Sem (Sh.int IntKind.u8)) : run env72 0 kp135p (Func.results Tryz.f135).toList 400 (bodyOf Tryz.f135) (initSt (Func.ntmps Tryz.f135) [datum (Sh.int IntKind.u8) x0] []) = (i135p x0).map (lf Tryz.f135 e0) := by kernel_rfl
def r3partO (x0 : Sem (Sh.int IntKind.u8)) : Option (HArgs (List.map some [Sh.bool])) := outT [Sh.bool] t0 100000000 (i135p x0)
def r3partC (x0 : Sem (Sh.int IntKind.u8)) : Bool := (r3partO x0).isSome
def r3part (x0 : Sem (Sh.int IntKind.u8)) : Sem Sh.bool := (fun r : HArgs (List.map some [Sh.bool]) => r.1) ((r3partO x0).getD (dfltH [Sh.bool]))
def F135p : FSem := plainC [Sh.int IntKind.u8] [Sh.bool] (fun x => r3partC x.1) fun x => (r3part x.1, ())
theorem FOk135p : FOk env72.P env72.gl 135 F135p := FOk_T1 (ks := [Sh.int IntKind.u8]) (outs := [Sh.bool]) (keep := kp135p) (gas := 400) (n := 100000000) (e := e0) (t := t0) (i := fun x => i135p x.1) env72_all env72_mix ok135p (fun x => go135p x.1) (on0 _ _ _ _ _) (fun _ => by kernel_rfl) (fun _ => by kernel_rfl)

abbrev kp133p : Nat → Keep := fun j => if j = 3 then { slots := [0, 3, 4] } else { }
inductive H133p where
 | h3 (s0 : TS) (l3 : LS) (i4 : Int)
abbrev e133p : H133p → Nat × St
 | .h3 s0 l3 i4 => (3, ⟨tm 18 [(0, AV.str s0), (3, AV.sl Sh.str l3), (4, AV.int .i64 i4)], []⟩)
theorem ok133p : fnChk env72.P 133 Tryz.f133 1 := by refine ⟨?_, ?_, ?_, ?_⟩ <;> kernel_rfl
def i133p (x0 : TS) : Tr (H133p ⊕ Raw) :=
 Tr.to
 (H133p.h3 x0
  [[65, 78, 68], [79, 82], [78, 79, 84], [73, 83], [78, 85, 76, 76], [84, 82, 85, 69], [70, 65, 76, 83, 69], [67, 82, 69, 65, 84, 69], [84, 65, 66, 76, 69], [75, 69, 89], [85, 78, 73, 81, 85, 69], [82, 69, 70, 69, 82, 69, 78, 67, 69, 83], [67, 72, 69, 67, 75], [68, 82, 79, 80], [73, 78, 83, 69, 82, 84],
  [73, 78, 84, 79], [86, 65, 76, 85, 69, 83], [85, 80, 68, 65, 84, 69], [83, 69, 84], [87, 72, 69, 82, 69], [68, 69, 76, 69, 84, 69], [70, 82, 79, 77], [83, 69, 76, 69, 67, 84], [71, 82, 65, 78, 84], [82, 69, 86, 79, 75, 69], [82, 69, 65, 68], [87, 82, 73, 84, 69], [79, 78], [84, 79],
  [77, 73, 71, 82, 65, 84, 69], [67, 79, 80, 89], [74, 79, 73, 78], [71, 82, 79, 85, 80], [66, 89], [83, 85, 77], [73, 78, 84], [84, 69, 88, 84], [66, 79, 79, 76]]
  0)
def t133p_3 (s0 : TS) (l3 : LS) (i4 : Int) : Tr (H133p ⊕ Raw) :=
 Tr.br (decide (i4 < (↑l3.length : Int)))
 (Tr.chk (inB i4 l3.length) (Tr.br (l3.getD i4.toNat (dflt Sh.str) == s0) (Tr.re (AV.kb true) []) (Tr.to (H133p.h3 s0 l3 (IntKind.i64.wrap (i4 + 1))))))
 (Tr.re (AV.kb false) [])
theorem go133p (x0 : TS) : run env72 0 kp133p (Func.results Tryz.f133).toList 400 (bodyOf Tryz.f133) (initSt (Func.ntmps Tryz.f133) [datum Sh.str x0] []) = (i133p x0).map (lf Tryz.f133 e133p) := by kernel_rfl
def t133p : H133p → Tr (H133p ⊕ Raw)
 | .h3 s0 l3 i4 => t133p_3 s0 l3 i4
theorem on133p : ∀ s, run env72 0 kp133p (Func.results Tryz.f133).toList 400 (headK Tryz.f133 (e133p s).1) (e133p s).2 = (t133p s).map (lf Tryz.f133 e133p)
 | .h3 s0 l3 i4 => by kernel_rfl
def r4ResO (x0 : TS) : Option (HArgs (List.map some [Sh.bool])) := outT [Sh.bool] t133p 100000000 (i133p x0)
def r4ResC (x0 : TS) : Bool := (r4ResO x0).isSome
def r4Res (x0 : TS) : Sem Sh.bool := (fun r : HArgs (List.map some [Sh.bool]) => r.1) ((r4ResO x0).getD (dfltH [Sh.bool]))
def F133p : FSem := plainC [Sh.str] [Sh.bool] (fun x => r4ResC x.1) fun x => (r4Res x.1, ())
theorem FOk133p : FOk env72.P env72.gl 133 F133p := FOk_T1 (ks := [Sh.str]) (outs := [Sh.bool]) (keep := kp133p) (gas := 400) (n := 100000000) (e := e133p) (t := t133p) (i := fun x => i133p x.1) env72_all env72_mix ok133p (fun x => go133p x.1) on133p (fun _ => by kernel_rfl) (fun _ => by kernel_rfl)

abbrev kp105p : Nat → Keep := fun _ => { }
theorem ok105p : fnChk env72.P 105 Tryz.f105 2 := by refine ⟨?_, ?_, ?_, ?_⟩ <;> kernel_rfl
def i105pz (_ : CSem cpRd) (x0 : TS) (a0 : Sem shFor.sl × CSem [CP.d shInt, CP.d Sh.bool]) (a1 : Sem Sh.bool × CSem cpRd) : Tr (Empty ⊕ Raw) :=
 Tr.chk (rdSeeC a0 x0)
 (Tr.br a1.1 (Tr.re (AV.kb true) (cpHeap cpRd (a1.2.1, IntKind.i64.wrap (a1.2.2.1 + 1), a1.2.2.2)))
  (Tr.re (AV.kb false) (cpHeap cpRd a1.2)))
def i105p (y : CSem cpRd) (x0 : TS) : Tr (Empty ⊕ Raw) :=
 let a0 := (y.1, y.2.1, y.2.2.1, ())
 let a1 := rdSee a0 x0
 i105pz y x0 a0 a1
theorem go105p (y : CSem cpRd) (x0 : TS) : run env72 1 kp105p (Func.results Tryz.f105).toList 400 (bodyOf Tryz.f105) (initSt (Func.ntmps Tryz.f105) [AV.ptr 0 0, datum Sh.str x0] (cpHeap cpRd y)) = (i105p y x0).map (lf Tryz.f105 e0) := by kernel_rfl
def rdPassO (y : CSem cpRd) (x0 : TS) : Option (HArgs (List.map some [Sh.bool]) × CSem cpRd) := outB [Sh.bool] cpRd t0 100000000 (i105p y x0)
def rdPassC (y : CSem cpRd) (x0 : TS) : Bool := (rdPassO y x0).isSome
def rdPass (y : CSem cpRd) (x0 : TS) : (Sem Sh.bool) × CSem cpRd := (fun r : HArgs (List.map some [Sh.bool]) × CSem cpRd => (r.1.1, r.2)) ((rdPassO y x0).getD (dfltH [Sh.bool], dfltC cpRd))
def F105p : FSem := boxF cpRd [Sh.str] [Sh.bool] cpRd (fun y x => rdPassC y x.1) fun y x => (((rdPass y x.1).1, ()), (rdPass y x.1).2)
theorem FOk105p : FOk env72.P env72.gl 105 F105p := FOk_B1 (ps := cpRd) (ks := [Sh.str]) (outs := [Sh.bool]) (keep := kp105p) (gas := 400) (n := 100000000) (e := e0) (t := t0) (i := fun y x => i105p y x.1) env72_all env72_mix ok105p (fun y x => go105p y x.1) (on0 _ _ _ _ _) (fun _ _ => by kernel_rfl) (fun _ _ => by kernel_rfl)

abbrev kp80p : Nat → Keep := fun j => if j = 6 then { slots := [2, 3, 5] } else if j = 11 then { slots := [2, 3, 6] } else if j = 16 then { slots := [2, 3, 7] } else if j = 21 then { slots := [2, 3, 8] } else if j = 26 then { slots := [2, 3, 9] } else if j = 31 then { slots := [2, 3, 10] } else { }
inductive H80p where
 | h6 (i5 : Int) (z0 : CSem cpS) (z1 : CSem cpS)
 | h11 (i6 : Int) (z0 : CSem cpS) (z1 : CSem cpS)
 | h16 (i7 : Int) (z0 : CSem cpS) (z1 : CSem cpS)
 | h21 (i8 : Int) (z0 : CSem cpS) (z1 : CSem cpS)
 | h26 (i9 : Int) (z0 : CSem cpS) (z1 : CSem cpS)
 | h31 (i10 : Int) (z0 : CSem cpS) (z1 : CSem cpS)
abbrev e80p : H80p → Nat × St
 | .h6 i5 z0 z1 => (6, ⟨tm 238 [(2, AV.ptr 0 0), (3, AV.ptr 1 0), (5, AV.int .i64 i5)], [AO.box (cpN [] cpS z0), AO.box (cpN [] cpS z1)]⟩)
 | .h11 i6 z0 z1 => (11, ⟨tm 238 [(2, AV.ptr 0 0), (3, AV.ptr 1 0), (6, AV.int .i64 i6)], [AO.box (cpN [] cpS z0), AO.box (cpN [] cpS z1)]⟩)
 | .h16 i7 z0 z1 => (16, ⟨tm 238 [(2, AV.ptr 0 0), (3, AV.ptr 1 0), (7, AV.int .i64 i7)], [AO.box (cpN [] cpS z0), AO.box (cpN [] cpS z1)]⟩)
 | .h21 i8 z0 z1 => (21, ⟨tm 238 [(2, AV.ptr 0 0), (3, AV.ptr 1 0), (8, AV.int .i64 i8)], [AO.box (cpN [] cpS z0), AO.box (cpN [] cpS z1)]⟩)
 | .h26 i9 z0 z1 => (26, ⟨tm 238 [(2, AV.ptr 0 0), (3, AV.ptr 1 0), (9, AV.int .i64 i9)], [AO.box (cpN [] cpS z0), AO.box (cpN [] cpS z1)]⟩)
 | .h31 i10 z0 z1 => (31, ⟨tm 238 [(2, AV.ptr 0 0), (3, AV.ptr 1 0), (10, AV.int .i64 i10)], [AO.box (cpN [] cpS z0), AO.box (cpN [] cpS z1)]⟩)
theorem ok80p : fnChk env72.P 80 Tryz.f80 2 := by refine ⟨?_, ?_, ?_, ?_⟩ <;> kernel_rfl
def i80pz (x0 : Sem shStmt) (x1 : Sem shStmt) (a0 : Bool) (a1 : Bool) (a2 : Bool) (a3 : Bool) (a4 : Bool) (a5 : ExprT) (a6 : ExprT) (a7 : Bool) (a8 : ExprT) (a9 : ExprT) : Tr (H80p ⊕ Raw) :=
 Tr.chk
 (bif a0 then true
 else bif a1 then true else bif a2 then true else bif a3 then true else bif a4 then true else r4SameC a5 a6 && bif a7 then true else r4SameC a8 a9)
 (Tr.br (bif a0 then true else bif a1 then true else bif a2 then true else bif a3 then true else bif a4 then true else bif a7 then true else !r4Same a8 a9)
  (Tr.re (AV.kb false) [])
  (Tr.br (bif (↑(List.length x0.2.2.2.1) : Int) != (↑(List.length x1.2.2.2.1) : Int) then true else bif (↑(List.length x0.2.2.2.2.1) : Int) != (↑(List.length x1.2.2.2.2.1) : Int) then true else bif (↑(List.length x0.2.2.2.2.2.2.1) : Int) != (↑(List.length x1.2.2.2.2.2.2.1) : Int) then true else bif (↑(List.length x0.2.2.2.2.2.2.2.1) : Int) != (↑(List.length x1.2.2.2.2.2.2.2.1) : Int) then true
  else bif (↑(List.length x0.2.2.2.2.2.2.2.2.2.1) : Int) != (↑(List.length x1.2.2.2.2.2.2.2.2.2.1) : Int) then true else (↑(List.length x0.2.2.2.2.2.2.2.2.2.2.1) : Int) != (↑(List.length x1.2.2.2.2.2.2.2.2.2.2.1) : Int)) (Tr.re (AV.kb false) []) (Tr.to (H80p.h6 0 (x0, ()) (x1, ())))))
def i80p (x0 : Sem shStmt) (x1 : Sem shStmt) : Tr (H80p ⊕ Raw) :=
 let a0 := !x0.1 == x1.1
 let a1 := !x0.2.1 == x1.2.1
 let a2 := !x0.2.2.1 == x1.2.2.1
 let a3 := !x0.2.2.2.2.2.1 == x1.2.2.2.2.2.1
 let a4 := !x0.2.2.2.2.2.2.2.2.2.2.2.2 == x1.2.2.2.2.2.2.2.2.2.2.2.2
 let a5 := etaE x0.2.2.2.2.2.2.2.2.1
 let a6 := etaE x1.2.2.2.2.2.2.2.2.1
 let a7 := !r4Same a5 a6
 let a8 := etaE x0.2.2.2.2.2.2.2.2.2.2.2.1
 let a9 := etaE x1.2.2.2.2.2.2.2.2.2.2.2.1
 i80pz x0 x1 a0 a1 a2 a3 a4 a5 a6 a7 a8 a9
def t80p_6z (i5 : Int) (z0 : CSem cpS) (z1 : CSem cpS) (a0 : Int) : Tr (H80p ⊕ Raw) :=
 Tr.br (decide (i5 < a0))
 (Tr.chk (inB i5 (List.length z0.1.2.2.2.1))
  (Tr.chk (inB i5 (List.length z1.1.2.2.2.1)) (Tr.br (!List.getD z0.1.2.2.2.1 i5.toNat (dflt Sh.str) == List.getD z1.1.2.2.2.1 i5.toNat (dflt Sh.str)) (Tr.re (AV.kb false) []) (Tr.to (H80p.h6 (IntKind.i64.wrap (i5 + 1)) z0 z1)))))
 (Tr.to (H80p.h11 0 z0 z1))
def t80p_6 (i5 : Int) (z0 : CSem cpS) (z1 : CSem cpS) : Tr (H80p ⊕ Raw) :=
 let a0 := (↑(List.length z0.1.2.2.2.1) : Int)
 t80p_6z i5 z0 z1 a0
def t80p_11z (i6 : Int) (z0 : CSem cpS) (z1 : CSem cpS) (a0 : Int) (a1 : Sem shCol) (a2 : Sem shCol) : Tr (H80p ⊕ Raw) :=
 Tr.br (decide (i6 < a0))
 (Tr.chk (inB i6 (List.length z0.1.2.2.2.2.1))
  (Tr.chk (inB i6 (List.length z1.1.2.2.2.2.1)) (Tr.br (!(a1.1 == a2.1 && (a1.2.1 == a2.2.1 && (a1.2.2 == a2.2.2 && true)))) (Tr.re (AV.kb false) []) (Tr.to (H80p.h11 (IntKind.i64.wrap (i6 + 1)) z0 z1)))))
 (Tr.to (H80p.h16 0 z0 z1))
def t80p_11 (i6 : Int) (z0 : CSem cpS) (z1 : CSem cpS) : Tr (H80p ⊕ Raw) :=
 let a0 := (↑(List.length z0.1.2.2.2.2.1) : Int)
 let a1 := List.getD z0.1.2.2.2.2.1 i6.toNat (dflt shCol)
 let a2 := List.getD z1.1.2.2.2.2.1 i6.toNat (dflt shCol)
 t80p_11z i6 z0 z1 a0 a1 a2
def t80p_16z (i7 : Int) (z0 : CSem cpS) (z1 : CSem cpS) (a0 : Int) : Tr (H80p ⊕ Raw) :=
 Tr.br (decide (i7 < a0))
 (Tr.chk (inB i7 (List.length z0.1.2.2.2.2.2.2.1))
  (Tr.chk (inB i7 (List.length z1.1.2.2.2.2.2.2.1)) (Tr.br (!List.getD z0.1.2.2.2.2.2.2.1 i7.toNat (dflt Sh.str) == List.getD z1.1.2.2.2.2.2.2.1 i7.toNat (dflt Sh.str)) (Tr.re (AV.kb false) []) (Tr.to (H80p.h16 (IntKind.i64.wrap (i7 + 1)) z0 z1)))))
 (Tr.to (H80p.h21 0 z0 z1))
def t80p_16 (i7 : Int) (z0 : CSem cpS) (z1 : CSem cpS) : Tr (H80p ⊕ Raw) :=
 let a0 := (↑(List.length z0.1.2.2.2.2.2.2.1) : Int)
 t80p_16z i7 z0 z1 a0
def t80p_21z (i8 : Int) (z0 : CSem cpS) (z1 : CSem cpS) (a0 : Int) (a1 : Sem shRef) (a2 : Sem shRef) : Tr (H80p ⊕ Raw) :=
 Tr.br (decide (i8 < a0))
 (Tr.chk (inB i8 (List.length z0.1.2.2.2.2.2.2.2.1))
  (Tr.chk (inB i8 (List.length z1.1.2.2.2.2.2.2.2.1)) (Tr.br (!(a1.1 == a2.1 && (a1.2 == a2.2 && true))) (Tr.re (AV.kb false) []) (Tr.to (H80p.h21 (IntKind.i64.wrap (i8 + 1)) z0 z1)))))
 (Tr.to (H80p.h26 0 z0 z1))
def t80p_21 (i8 : Int) (z0 : CSem cpS) (z1 : CSem cpS) : Tr (H80p ⊕ Raw) :=
 let a0 := (↑(List.length z0.1.2.2.2.2.2.2.2.1) : Int)
 let a1 := List.getD z0.1.2.2.2.2.2.2.2.1 i8.toNat (dflt shRef)
 let a2 := List.getD z1.1.2.2.2.2.2.2.2.1 i8.toNat (dflt shRef)
 t80p_21z i8 z0 z1 a0 a1 a2
def t80p_26z (i9 : Int) (z0 : CSem cpS) (z1 : CSem cpS) (a0 : Int) (a1 : Sem shVal) (a2 : Sem shVal) : Tr (H80p ⊕ Raw) :=
 Tr.br (decide (i9 < a0))
 (Tr.chk (inB i9 (List.length z0.1.2.2.2.2.2.2.2.2.2.1))
  (Tr.chk (inB i9 (List.length z1.1.2.2.2.2.2.2.2.2.2.1)) (Tr.br (!(a1.1 == a2.1 && (a1.2.1 == a2.2.1 && (a1.2.2 == a2.2.2 && true)))) (Tr.re (AV.kb false) []) (Tr.to (H80p.h26 (IntKind.i64.wrap (i9 + 1)) z0 z1)))))
 (Tr.to (H80p.h31 0 z0 z1))
def t80p_26 (i9 : Int) (z0 : CSem cpS) (z1 : CSem cpS) : Tr (H80p ⊕ Raw) :=
 let a0 := (↑(List.length z0.1.2.2.2.2.2.2.2.2.2.1) : Int)
 let a1 := List.getD z0.1.2.2.2.2.2.2.2.2.2.1 i9.toNat (dflt shVal)
 let a2 := List.getD z1.1.2.2.2.2.2.2.2.2.2.1 i9.toNat (dflt shVal)
 t80p_26z i9 z0 z1 a0 a1 a2
def t80p_31z (i10 : Int) (z0 : CSem cpS) (z1 : CSem cpS) (a0 : Int) (a1 : Bool) (a2 : Bool) (_ : Sem shSet) (_ : Sem shSet) (a5 : Bool) (a6 : ExprT) (a7 : ExprT) : Tr (H80p ⊕ Raw) :=
 Tr.br (decide (i10 < a0))
 (Tr.chk (a1 && (a2 && bif a5 then true else a1 && (a2 && r4SameC a6 a7)))
  (Tr.br (bif a5 then true else !r4Same a6 a7) (Tr.re (AV.kb false) []) (Tr.to (H80p.h31 (IntKind.i64.wrap (i10 + 1)) z0 z1))))
 (Tr.re (AV.kb true) [])
def t80p_31 (i10 : Int) (z0 : CSem cpS) (z1 : CSem cpS) : Tr (H80p ⊕ Raw) :=
 let a0 := (↑(List.length z0.1.2.2.2.2.2.2.2.2.2.2.1) : Int)
 let a1 := inB i10 (List.length z0.1.2.2.2.2.2.2.2.2.2.2.1)
 let a2 := inB i10 (List.length z1.1.2.2.2.2.2.2.2.2.2.2.1)
 let a3 := List.getD z0.1.2.2.2.2.2.2.2.2.2.2.1 i10.toNat (dflt shSet)
 let a4 := List.getD z1.1.2.2.2.2.2.2.2.2.2.2.1 i10.toNat (dflt shSet)
 let a5 := !a3.1 == a4.1
 let a6 := etaE a3.2
 let a7 := etaE a4.2
 t80p_31z i10 z0 z1 a0 a1 a2 a3 a4 a5 a6 a7
theorem go80p (x0 : Sem shStmt) (x1 : Sem shStmt) : run env72 0 kp80p (Func.results Tryz.f80).toList 400 (bodyOf Tryz.f80) (initSt (Func.ntmps Tryz.f80) [datum shStmt x0, datum shStmt x1] []) = (i80p x0 x1).map (lf Tryz.f80 e80p) := by kernel_rfl
def t80p : H80p → Tr (H80p ⊕ Raw)
 | .h6 i5 z0 z1 => t80p_6 i5 z0 z1
 | .h11 i6 z0 z1 => t80p_11 i6 z0 z1
 | .h16 i7 z0 z1 => t80p_16 i7 z0 z1
 | .h21 i8 z0 z1 => t80p_21 i8 z0 z1
 | .h26 i9 z0 z1 => t80p_26 i9 z0 z1
 | .h31 i10 z0 z1 => t80p_31 i10 z0 z1
theorem on80p : ∀ s, run env72 0 kp80p (Func.results Tryz.f80).toList 400 (headK Tryz.f80 (e80p s).1) (e80p s).2 = (t80p s).map (lf Tryz.f80 e80p)
 | .h6 i5 z0 z1 => by kernel_rfl
 | .h11 i6 z0 z1 => by kernel_rfl
 | .h16 i7 z0 z1 => by kernel_rfl
 | .h21 i8 z0 z1 => by kernel_rfl
 | .h26 i9 z0 z1 => by kernel_rfl
 | .h31 i10 z0 z1 => by kernel_rfl
def r5SameO (x0 : Sem shStmt) (x1 : Sem shStmt) : Option (HArgs (List.map some [Sh.bool])) := outT [Sh.bool] t80p 100000000 (i80p x0 x1)
def r5SameC (x0 : Sem shStmt) (x1 : Sem shStmt) : Bool := (r5SameO x0 x1).isSome
def r5Same (x0 : Sem shStmt) (x1 : Sem shStmt) : Sem Sh.bool := (fun r : HArgs (List.map some [Sh.bool]) => r.1) ((r5SameO x0 x1).getD (dfltH [Sh.bool]))
def F80p : FSem := plainC [shStmt, shStmt] [Sh.bool] (fun x => r5SameC x.1 x.2.1) fun x => (r5Same x.1 x.2.1, ())
theorem FOk80p : FOk env72.P env72.gl 80 F80p := FOk_T1 (ks := [shStmt, shStmt]) (outs := [Sh.bool]) (keep := kp80p) (gas := 400) (n := 100000000) (e := e80p) (t := t80p) (i := fun x => i80p x.1 x.2.1) env72_all env72_mix ok80p (fun x => go80p x.1 x.2.1) on80p (fun _ => by kernel_rfl) (fun _ => by kernel_rfl)

def env73 : Env := ((((env72.add 135 F135p).add 133 F133p).add 105 F105p).add 80 F80p)
theorem env73_all : EnvAll env73 := (EnvAll.addS (EnvAll.addS (EnvAll.addS (EnvAll.addS env72_all (SameE.refl env72) FOk135p) ((SameE.refl env72).add _ _) FOk133p) (((SameE.refl env72).add _ _).add _ _) FOk105p) ((((SameE.refl env72).add _ _).add _ _).add _ _) FOk80p)
theorem env73_mix : env73.P.follows .mixedOrders = true := (mix_add (mix_add (mix_add (mix_add env72_mix _ _) _ _) _ _) _ _)
end
open Go Go.Proofs
noncomputable section
set_option maxHeartbeats 4000000

abbrev kp132p : Nat → Keep := fun j => if j = 2 then { slots := [0, 3] } else { }
inductive H132p where
 | h2 (s0 : TS) (i3 : Int)
abbrev e132p : H132p → Nat × St
 | .h2 s0 i3 => (2, ⟨tm 28 [(0, AV.str s0), (3, AV.int .i64 i3)], []⟩)
theorem ok132p : fnChk env73.P 132 Tryz.f132 1 := by refine ⟨?_, ?_, ?_, ?_⟩ <;> kernel_rfl
def i132p (x0 : TS) : Tr (H132p ⊕ Raw) :=
 Tr.to (H132p.h2 x0 0)
def t132p_2z (s0 : TS) (i3 : Int) (a0 : Int) (a1 : Bool) (a2 : Bool) (a3 : Int) : Tr (H132p ⊕ Raw) :=
 Tr.br (decide (i3 < (↑(List.length s0) : Int)))
 (Tr.chk (inB i3 (List.length s0)) (Tr.chk (r3partC a0) (Tr.br (!r3part a0) (Tr.re (AV.kb false) []) (Tr.to (H132p.h2 s0 (IntKind.i64.wrap (i3 + 1)))))))
 (Tr.chk (bif a1 then bif a2 then inB 0 (List.length s0) && r3letterC a3 else true else true)
  (Tr.re (AV.bool (bif a1 then bif a2 then r3letter a3 else false else false)) []))
def t132p_2 (s0 : TS) (i3 : Int) : Tr (H132p ⊕ Raw) :=
 let a0 := (↑(List.getD s0 i3.toNat 0).toNat : Int)
 let a1 := decide (1 ≤ (↑(List.length s0) : Int))
 let a2 := decide ((↑(List.length s0) : Int) ≤ 16)
 let a3 := (↑(List.getD s0 (Int.toNat 0) 0).toNat : Int)
 t132p_2z s0 i3 a0 a1 a2 a3
theorem go132p (x0 : TS) : run env73 0 kp132p (Func.results Tryz.f132).toList 400 (bodyOf Tryz.f132) (initSt (Func.ntmps Tryz.f132) [datum Sh.str x0] []) = (i132p x0).map (lf Tryz.f132 e132p) := by kernel_rfl
def t132p : H132p → Tr (H132p ⊕ Raw)
 | .h2 s0 i3 => t132p_2 s0 i3
theorem on132p : ∀ s, run env73 0 kp132p (Func.results Tryz.f132).toList 400 (headK Tryz.f132 (e132p s).1) (e132p s).2 = (t132p s).map (lf Tryz.f132 e132p)
 | .h2 s0 i3 => by kernel_rfl
def r3NameO (x0 : TS) : Option (HArgs (List.map some [Sh.bool])) := outT [Sh.bool] t132p 100000000 (i132p x0)
def r3NameC (x0 : TS) : Bool := (r3NameO x0).isSome
def r3Name (x0 : TS) : Sem Sh.bool := (fun r : HArgs (List.map some [Sh.bool]) => r.1) ((r3NameO x0).getD (dfltH [Sh.bool]))
def F132p : FSem := plainC [Sh.str] [Sh.bool] (fun x => r3NameC x.1) fun x => (r3Name x.1, ())
theorem FOk132p : FOk env73.P env73.gl 132 F132p := FOk_T1 (ks := [Sh.str]) (outs := [Sh.bool]) (keep := kp132p) (gas := 400) (n := 100000000) (e := e132p) (t := t132p) (i := fun x => i132p x.1) env73_all env73_mix ok132p (fun x => go132p x.1) on132p (fun _ => by kernel_rfl) (fun _ => by kernel_rfl)

abbrev kp107p : Nat → Keep := fun _ => { }
theorem ok107p : fnChk env73.P 107 Tryz.f107 2 := by refine ⟨?_, ?_, ?_, ?_⟩ <;> kernel_rfl
def i107pz (_ : CSem cpRd) (x0 : TS) (a0 : Sem shFor.sl × CSem [CP.d shInt, CP.d Sh.bool]) (a1 : Sem Sh.bool × CSem cpRd) : Tr (Empty ⊕ Raw) :=
 Tr.chk (rdPassC a0 x0)
 (Tr.br (!a1.1) (Tr.re (AV.tup []) [AO.box [AV.sl shFor a1.2.1, AV.int .i64 a1.2.2.1, AV.kb false]])
  (Tr.re (AV.tup []) (cpHeap cpRd a1.2)))
def i107p (y : CSem cpRd) (x0 : TS) : Tr (Empty ⊕ Raw) :=
 let a0 := (y.1, y.2.1, y.2.2.1, ())
 let a1 := rdPass a0 x0
 i107pz y x0 a0 a1
theorem go107p (y : CSem cpRd) (x0 : TS) : run env73 1 kp107p (Func.results Tryz.f107).toList 400 (bodyOf Tryz.f107) (initSt (Func.ntmps Tryz.f107) [AV.ptr 0 0, datum Sh.str x0] (cpHeap cpRd y)) = (i107p y x0).map (lf Tryz.f107 e0) := by kernel_rfl
def rdMustO (y : CSem cpRd) (x0 : TS) : Option (HArgs (List.map some []) × CSem cpRd) := outB [] cpRd t0 100000000 (i107p y x0)
def rdMustC (y : CSem cpRd) (x0 : TS) : Bool := (rdMustO y x0).isSome
def rdMust (y : CSem cpRd) (x0 : TS) : CSem cpRd := (fun r : HArgs (List.map some []) × CSem cpRd => r.2) ((rdMustO y x0).getD (dfltH [], dfltC cpRd))
def F107p : FSem := boxF cpRd [Sh.str] [] cpRd (fun y x => rdMustC y x.1) fun y x => ((), rdMust y x.1)
theorem FOk107p : FOk env73.P env73.gl 107 F107p := FOk_B1 (ps := cpRd) (ks := [Sh.str]) (outs := []) (keep := kp107p) (gas := 400) (n := 100000000) (e := e0) (t := t0) (i := fun y x => i107p y x.1) env73_all env73_mix ok107p (fun y x => go107p y x.1) (on0 _ _ _ _ _) (fun _ _ => by kernel_rfl) (fun _ _ => by kernel_rfl)

abbrev kp108p : Nat → Keep := fun _ => { }
theorem ok108p : fnChk env73.P 108 Tryz.f108 1 := by refine ⟨?_, ?_, ?_, ?_⟩ <;> kernel_rfl
def i108pz (y : CSem cpRd) (a0 : Bool) (a1 : Bool) (a2 : Sem shFor) (a3 : Bool) (a4 : Int) (a5 : Int) (a6 : Sem shFor) : Tr (Empty ⊕ Raw) :=
 Tr.chk (bif a0 then a1 && bif a3 then a1 && r4ResC a2.2 else true else true)
 (Tr.br (bif a0 then bif a3 then !r4Res a2.2 else false else false)
  (Tr.chk (inB a5 (List.length y.1)) (Tr.re (AV.str a6.2) (cpHeap cpRd (y.1, a4, y.2.2))))
  (Tr.re (AV.str []) [AO.box [AV.sl shFor y.1, AV.int .i64 y.2.1, AV.kb false]]))
def i108p (y : CSem cpRd) : Tr (Empty ⊕ Raw) :=
 let a0 := decide (y.2.1 < (↑(List.length y.1) : Int))
 let a1 := inB y.2.1 (List.length y.1)
 let a2 := List.getD y.1 (Int.toNat y.2.1) (dflt shFor)
 let a3 := a2.1 == 1
 let a4 := IntKind.i64.wrap (y.2.1 + 1)
 let a5 := IntKind.i64.wrap (a4 - 1)
 let a6 := List.getD y.1 a5.toNat (dflt shFor)
 i108pz y a0 a1 a2 a3 a4 a5 a6
theorem go108p (y : CSem cpRd) : run env73 1 kp108p (Func.results Tryz.f108).toList 400 (bodyOf Tryz.f108) (initSt (Func.ntmps Tryz.f108) [AV.ptr 0 0] (cpHeap cpRd y)) = (i108p y).map (lf Tryz.f108 e0) := by kernel_rfl
def rdNameO (y : CSem cpRd) : Option (HArgs (List.map some [Sh.str]) × CSem cpRd) := outB [Sh.str] cpRd t0 100000000 (i108p y)
def rdNameC (y : CSem cpRd) : Bool := (rdNameO y).isSome
def rdName (y : CSem cpRd) : (Sem Sh.str) × CSem cpRd := (fun r : HArgs (List.map some [Sh.str]) × CSem cpRd => (r.1.1, r.2)) ((rdNameO y).getD (dfltH [Sh.str], dfltC cpRd))
def F108p : FSem := boxF cpRd [] [Sh.str] cpRd (fun y _ => rdNameC y) fun y _ => (((rdName y).1, ()), (rdName y).2)
theorem FOk108p : FOk env73.P env73.gl 108 F108p := FOk_B1 (ps := cpRd) (ks := []) (outs := [Sh.str]) (keep := kp108p) (gas := 400) (n := 100000000) (e := e0) (t := t0) (i := fun y x => i108p y) env73_all env73_mix ok108p (fun y x => go108p y) (on0 _ _ _ _ _) (fun _ _ => by kernel_rfl) (fun _ _ => by kernel_rfl)

def env74 : Env := (((env73.add 132 F132p).add 107 F107p).add 108 F108p)
theorem env74_all : EnvAll env74 := (EnvAll.addS (EnvAll.addS (EnvAll.addS env73_all (SameE.refl env73) FOk132p) ((SameE.refl env73).add _ _) FOk107p) (((SameE.refl env73).add _ _).add _ _) FOk108p)
theorem env74_mix : env74.P.follows .mixedOrders = true := (mix_add (mix_add (mix_add env73_mix _ _) _ _) _ _)
end
open Go Go.Proofs
noncomputable section
set_option maxHeartbeats 4000000

abbrev kp137p : Nat → Keep := fun j => if j = 6 then { slots := [1, 3] } else { }
inductive H137p where
 | h6 (i3 : Int) (ja0 : Sem shInt) (ja1 : TS)
abbrev e137p : H137p → Nat × St
 | .h6 i3 ja0 ja1 => (6, ⟨tm 82 [(1, AV.ptr 0 0), (3, AV.int .i64 i3)], [AO.box [AV.int .i64 ja0, AV.str ja1]]⟩)
theorem ok137p : fnChk env74.P 137 Tryz.f137 1 := by refine ⟨?_, ?_, ?_, ?_⟩ <;> kernel_rfl
def i137p (x0 : Sem shFor) : Tr (H137p ⊕ Raw) :=
 Tr.br (x0.1 == 1) (Tr.chk (r3NameC x0.2) (Tr.re (AV.bool (r3Name x0.2)) []))
 (Tr.br (x0.1 == 2) (Tr.to (H137p.h6 0 x0.1 x0.2))
  (Tr.br (x0.1 == 3) Tr.err (Tr.br (x0.1 == 4) (Tr.re (AV.bool (bif x0.2 == [40] then true else bif x0.2 == [41] then true else bif x0.2 == [44] then true else bif x0.2 == [61] then true else bif x0.2 == [60] then true else bif x0.2 == [43] then true else bif x0.2 == [45] then true else x0.2 == [42])) []) (Tr.re (AV.kb false) []))))
def t137p_6z (i3 : Int) (ja0 : Sem shInt) (ja1 : TS) (a0 : Int) : Tr (H137p ⊕ Raw) :=
 Tr.br (decide (i3 < (↑(List.length ja1) : Int)))
 (Tr.chk (inB i3 (List.length ja1))
  (Tr.chk (r3digitC a0) (Tr.br (!r3digit a0) (Tr.re (AV.kb false) []) (Tr.to (H137p.h6 (IntKind.i64.wrap (i3 + 1)) ja0 ja1)))))
 (Tr.re (AV.bool (bif decide (1 ≤ (↑(List.length ja1) : Int)) then decide ((↑(List.length ja1) : Int) ≤ 19) else false)) [])
def t137p_6 (i3 : Int) (ja0 : Sem shInt) (ja1 : TS) : Tr (H137p ⊕ Raw) :=
 let a0 := (↑(List.getD ja1 i3.toNat 0).toNat : Int)
 t137p_6z i3 ja0 ja1 a0
theorem go137p (x0 : Sem shFor) : run env74 0 kp137p (Func.results Tryz.f137).toList 400 (bodyOf Tryz.f137) (initSt (Func.ntmps Tryz.f137) [datum shFor x0] []) = (i137p x0).map (lf Tryz.f137 e137p) := by kernel_rfl
def t137p : H137p → Tr (H137p ⊕ Raw)
 | .h6 i3 ja0 ja1 => t137p_6 i3 ja0 ja1
theorem on137p : ∀ s, run env74 0 kp137p (Func.results Tryz.f137).toList 400 (headK Tryz.f137 (e137p s).1) (e137p s).2 = (t137p s).map (lf Tryz.f137 e137p)
 | .h6 i3 ja0 ja1 => by kernel_rfl
def r3MayO (x0 : Sem shFor) : Option (HArgs (List.map some [Sh.bool])) := outT [Sh.bool] t137p 100000000 (i137p x0)
def r3MayC (x0 : Sem shFor) : Bool := (r3MayO x0).isSome
def r3May (x0 : Sem shFor) : Sem Sh.bool := (fun r : HArgs (List.map some [Sh.bool]) => r.1) ((r3MayO x0).getD (dfltH [Sh.bool]))
def F137p : FSem := plainC [shFor] [Sh.bool] (fun x => r3MayC x.1) fun x => (r3May x.1, ())
theorem FOk137p : FOk env74.P env74.gl 137 F137p := FOk_T1 (ks := [shFor]) (outs := [Sh.bool]) (keep := kp137p) (gas := 400) (n := 100000000) (e := e137p) (t := t137p) (i := fun x => i137p x.1) env74_all env74_mix ok137p (fun x => go137p x.1) on137p (fun _ => by kernel_rfl) (fun _ => by kernel_rfl)

abbrev kp111p : Nat → Keep := fun _ => { }
theorem ok111p : fnChk env74.P 111 Tryz.f111 2 := by refine ⟨?_, ?_, ?_, ?_⟩ <;> kernel_rfl
def i111pz (_ : CSem cpRd) (x0 : TS) (a0 : Sem shFor.sl × CSem [CP.d shInt, CP.d Sh.bool]) (a1 : Sem Sh.bool × CSem cpRd) : Tr (Empty ⊕ Raw) :=
 Tr.chk (rdPassC a0 x0)
 (Tr.br (!a1.1) (Tr.re (AV.agg [AV.str [], AV.int .i64 0, AV.int .i64 0, AV.str [], AV.str [], AV.nils]) (cpHeap cpRd a1.2))
  (Tr.br (x0 == [87, 72, 69, 82, 69]) Tr.err (Tr.chk (rdMustC (a1.2.1, a1.2.2.1, a1.2.2.2.1, ()) [40]) Tr.err)))
def i111p (y : CSem cpRd) (x0 : TS) : Tr (Empty ⊕ Raw) :=
 let a0 := (y.1, y.2.1, y.2.2.1, ())
 let a1 := rdPass a0 x0
 i111pz y x0 a0 a1
theorem go111p (y : CSem cpRd) (x0 : TS) : run env74 1 kp111p (Func.results Tryz.f111).toList 400 (bodyOf Tryz.f111) (initSt (Func.ntmps Tryz.f111) [AV.ptr 0 0, datum Sh.str x0] (cpHeap cpRd y)) = (i111p y x0).map (lf Tryz.f111 e0) := by kernel_rfl
def rdCondO (y : CSem cpRd) (x0 : TS) : Option (HArgs (List.map some [Sh.expr]) × CSem cpRd) := outB [Sh.expr] cpRd t0 100000000 (i111p y x0)
def rdCondC (y : CSem cpRd) (x0 : TS) : Bool := (rdCondO y x0).isSome
def rdCond (y : CSem cpRd) (x0 : TS) : (Sem Sh.expr) × CSem cpRd := (fun r : HArgs (List.map some [Sh.expr]) × CSem cpRd => (r.1.1, r.2)) ((rdCondO y x0).getD (dfltH [Sh.expr], dfltC cpRd))
def F111p : FSem := boxF cpRd [Sh.str] [Sh.expr] cpRd (fun y x => rdCondC y x.1) fun y x => (((rdCond y x.1).1, ()), (rdCond y x.1).2)
theorem FOk111p : FOk env74.P env74.gl 111 F111p := FOk_B1 (ps := cpRd) (ks := [Sh.str]) (outs := [Sh.expr]) (keep := kp111p) (gas := 400) (n := 100000000) (e := e0) (t := t0) (i := fun y x => i111p y x.1) env74_all env74_mix ok111p (fun y x => go111p y x.1) (on0 _ _ _ _ _) (fun _ _ => by kernel_rfl) (fun _ _ => by kernel_rfl)

abbrev kp79p : Nat → Keep := fun _ => { }
theorem ok79p : fnChk env74.P 79 Tryz.f79 1 := by refine ⟨?_, ?_, ?_, ?_⟩ <;> kernel_rfl
def i79p (x0 : TS) : Tr (Empty ⊕ Raw) :=
 Tr.chk (r3NameC x0 && bif r3Name x0 then r4ResC x0 else true) (Tr.re (AV.bool (bif r3Name x0 then !r4Res x0 else false)) [])
theorem go79p (x0 : TS) : run env74 0 kp79p (Func.results Tryz.f79).toList 400 (bodyOf Tryz.f79) (initSt (Func.ntmps Tryz.f79) [datum Sh.str x0] []) = (i79p x0).map (lf Tryz.f79 e0) := by kernel_rfl
def r5NameO (x0 : TS) : Option (HArgs (List.map some [Sh.bool])) := outT [Sh.bool] t0 100000000 (i79p x0)
def r5NameC (x0 : TS) : Bool := (r5NameO x0).isSome
def r5Name (x0 : TS) : Sem Sh.bool := (fun r : HArgs (List.map some [Sh.bool]) => r.1) ((r5NameO x0).getD (dfltH [Sh.bool]))
def F79p : FSem := plainC [Sh.str] [Sh.bool] (fun x => r5NameC x.1) fun x => (r5Name x.1, ())
theorem FOk79p : FOk env74.P env74.gl 79 F79p := FOk_T1 (ks := [Sh.str]) (outs := [Sh.bool]) (keep := kp79p) (gas := 400) (n := 100000000) (e := e0) (t := t0) (i := fun x => i79p x.1) env74_all env74_mix ok79p (fun x => go79p x.1) (on0 _ _ _ _ _) (fun _ => by kernel_rfl) (fun _ => by kernel_rfl)

def env75 : Env := (((env74.add 137 F137p).add 111 F111p).add 79 F79p)
theorem env75_all : EnvAll env75 := (EnvAll.addS (EnvAll.addS (EnvAll.addS env74_all (SameE.refl env74) FOk137p) ((SameE.refl env74).add _ _) FOk111p) (((SameE.refl env74).add _ _).add _ _) FOk79p)
theorem env75_mix : env75.P.follows .mixedOrders = true := (mix_add (mix_add (mix_add env74_mix _ _) _ _) _ _)
end
open Go Go.Proofs
noncomputable section
set_option maxHeartbeats 4000000

abbrev kp81p : Nat → Keep := fun j => if j = 3 then { slots := [0, 4, 5] } else if j = 11 then { slots := [0, 4, 5, 6, 7, 8] } else if j = 15 then { slots := [0, 4, 5, 6, 7, 8] } else if j = 20 then { slots := [0, 4, 5, 8] } else { }
inductive H81p where
 | h3 (s0 : TS) (i5 : Int)
 | h11 (s0 : TS) (i5 : Int) (i6 : Int) (i7 : Int) (ja0 : Int) (ja1 : List UInt8)
 | h15 (s0 : TS) (i5 : Int) (i6 : Int) (i7 : Int) (ja0 : Int) (ja1 : List UInt8)
 | h20 (s0 : TS) (i5 : Int) (ja0 : Int) (ja1 : List UInt8)
 | h3b (s0 : TS) (i5 : Int) (lh_0 : LF)
 | h11b (s0 : TS) (i5 : Int) (i6 : Int) (i7 : Int) (lh_0 : LF) (jb0 : Int) (jb1 : List UInt8)
 | h15b (s0 : TS) (i5 : Int) (i6 : Int) (i7 : Int) (lh_0 : LF) (jb0 : Int) (jb1 : List UInt8)
 | h20b (s0 : TS) (i5 : Int) (lh_0 : LF) (jb0 : Int) (jb1 : List UInt8)
abbrev e81p : H81p → Nat × St
 | .h3 s0 i5 => (3, ⟨tm 131 [(0, AV.str s0), (4, AV.nils), (5, AV.int .i64 i5)], []⟩)
 | .h11 s0 i5 i6 i7 ja0 ja1 => (11, ⟨tm 131 [(0, AV.str s0), (4, AV.nils), (5, AV.int .i64 i5), (6, AV.int IntKind.u8 i6), (7, AV.int .i64 i7), (8, AV.ptr 0 0)], [AO.box [AV.int .i64 ja0, AV.str ja1]]⟩)
 | .h15 s0 i5 i6 i7 ja0 ja1 => (15, ⟨tm 131 [(0, AV.str s0), (4, AV.nils), (5, AV.int .i64 i5), (6, AV.int IntKind.u8 i6), (7, AV.int .i64 i7), (8, AV.ptr 0 0)], [AO.box [AV.int .i64 ja0, AV.str ja1]]⟩)
 | .h20 s0 i5 ja0 ja1 => (20, ⟨tm 131 [(0, AV.str s0), (4, AV.nils), (5, AV.int .i64 i5), (8, AV.ptr 0 0)], [AO.box [AV.int .i64 ja0, AV.str ja1]]⟩)
 | .h3b s0 i5 lh_0 => (3, ⟨tm 131 [(0, AV.str s0), (4, AV.vec 0), (5, AV.int .i64 i5)], [AO.vec shFor lh_0]⟩)
 | .h11b s0 i5 i6 i7 lh_0 jb0 jb1 => (11, ⟨tm 131 [(0, AV.str s0), (4, AV.vec 0), (5, AV.int .i64 i5), (6, AV.int IntKind.u8 i6), (7, AV.int .i64 i7), (8, AV.ptr 1 0)], [AO.vec shFor lh_0, AO.box [AV.int .i64 jb0, AV.str jb1]]⟩)
 | .h15b s0 i5 i6 i7 lh_0 jb0 jb1 => (15, ⟨tm 131 [(0, AV.str s0), (4, AV.vec 0), (5, AV.int .i64 i5), (6, AV.int IntKind.u8 i6), (7, AV.int .i64 i7), (8, AV.ptr 1 0)], [AO.vec shFor lh_0, AO.box [AV.int .i64 jb0, AV.str jb1]]⟩)
 | .h20b s0 i5 lh_0 jb0 jb1 => (20, ⟨tm 131 [(0, AV.str s0), (4, AV.vec 0), (5, AV.int .i64 i5), (8, AV.ptr 1 0)], [AO.vec shFor lh_0, AO.box [AV.int .i64 jb0, AV.str jb1]]⟩)
theorem ok81p : fnChk env75.P 81 Tryz.f81 1 := by refine ⟨?_, ?_, ?_, ?_⟩ <;> kernel_rfl
def i81p (x0 : TS) : Tr (H81p ⊕ Raw) :=
 Tr.to (H81p.h3 x0 0)
def t81p_3z (s0 : TS) (i5 : Int) (a0 : Int) (a1 : Int) (a2 : List UInt8) (a3 : Sem shInt × Sem Sh.str) (a4 : LF) : Tr (H81p ⊕ Raw) :=
 Tr.br (decide (i5 < (↑(List.length s0) : Int)))
 (Tr.chk (inB i5 (List.length s0))
  (Tr.br (bif a0 == 32 then true else a0 == 10) (Tr.to (H81p.h3 s0 a1)) (Tr.chk (decide (0 ≤ i5) && decide (i5 ≤ a1) && decide (a1 ≤ (↑(List.length s0) : Int))) (Tr.chk (r3letterC a0) (Tr.br (r3letter a0) (Tr.to (H81p.h11 s0 a1 a0 i5 4 a2)) (Tr.chk (r3digitC a0) (Tr.br (r3digit a0) (Tr.to (H81p.h15 s0 a1 a0 i5 4 a2)) (Tr.br (a0 == 39) (Tr.to (H81p.h20 s0 a1 3 [])) (Tr.chk (r3MayC a3)
  (Tr.br (!r3May a3) (Tr.re (AV.tup [AV.nils, AV.kb false]) []) (Tr.chk (decide (a4.length ≤ 1073741824)) (Tr.to (H81p.h3b s0 a1 a4)))))))))))))
 (Tr.re (AV.tup [AV.nils, AV.bool true]) [])
def t81p_3 (s0 : TS) (i5 : Int) : Tr (H81p ⊕ Raw) :=
 let a0 := (↑(List.getD s0 i5.toNat 0).toNat : Int)
 let a1 := IntKind.i64.wrap (i5 + 1)
 let a2 := List.take (a1.toNat - i5.toNat) (List.drop i5.toNat s0)
 let a3 := (4, a2)
 let a4 := [a3]
 t81p_3z s0 i5 a0 a1 a2 a3 a4
def t81p_11z (s0 : TS) (i5 : Int) (i6 : Int) (i7 : Int) (ja0 : Int) (ja1 : List UInt8) (a0 : Bool) (a1 : Int) (a2 : List UInt8) (a3 : Sem shInt × Sem Sh.str) (a4 : LF) : Tr (H81p ⊕ Raw) :=
 Tr.chk (bif a0 then inB i5 (List.length s0) && r3partC a1 else true)
 (Tr.br (bif a0 then r3part a1 else false) (Tr.to (H81p.h11 s0 (IntKind.i64.wrap (i5 + 1)) i6 i7 ja0 ja1))
  (Tr.chk (decide (0 ≤ i7) && decide (i7 ≤ i5) && decide (i5 ≤ (↑(List.length s0) : Int))) (Tr.chk (r3digitC i6) (Tr.br (r3digit i6) (Tr.to (H81p.h15 s0 i5 i6 i7 1 a2)) (Tr.br (i6 == 39) (Tr.to (H81p.h20 s0 i5 3 [])) (Tr.chk (r3MayC a3) (Tr.br (!r3May a3) (Tr.re (AV.tup [AV.nils, AV.kb false]) []) (Tr.chk (decide (a4.length ≤ 1073741824)) (Tr.to (H81p.h3b s0 i5 a4))))))))))
def t81p_11 (s0 : TS) (i5 : Int) (i6 : Int) (i7 : Int) (ja0 : Int) (ja1 : List UInt8) : Tr (H81p ⊕ Raw) :=
 let a0 := decide (i5 < (↑(List.length s0) : Int))
 let a1 := (↑(List.getD s0 i5.toNat 0).toNat : Int)
 let a2 := List.take (i5.toNat - i7.toNat) (List.drop i7.toNat s0)
 let a3 := (1, a2)
 let a4 := [a3]
 t81p_11z s0 i5 i6 i7 ja0 ja1 a0 a1 a2 a3 a4
def t81p_15z (s0 : TS) (i5 : Int) (i6 : Int) (i7 : Int) (ja0 : Int) (ja1 : List UInt8) (a0 : Bool) (a1 : Int) (a2 : Sem shInt × Sem Sh.str) (a3 : LF) : Tr (H81p ⊕ Raw) :=
 Tr.chk (bif a0 then inB i5 (List.length s0) && r3digitC a1 else true)
 (Tr.br (bif a0 then r3digit a1 else false) (Tr.to (H81p.h15 s0 (IntKind.i64.wrap (i5 + 1)) i6 i7 ja0 ja1))
  (Tr.chk (decide (0 ≤ i7) && decide (i7 ≤ i5) && decide (i5 ≤ (↑(List.length s0) : Int))) (Tr.br (i6 == 39) (Tr.to (H81p.h20 s0 i5 3 [])) (Tr.chk (r3MayC a2) (Tr.br (!r3May a2) (Tr.re (AV.tup [AV.nils, AV.kb false]) []) (Tr.chk (decide (a3.length ≤ 1073741824)) (Tr.to (H81p.h3b s0 i5 a3))))))))
def t81p_15 (s0 : TS) (i5 : Int) (i6 : Int) (i7 : Int) (ja0 : Int) (ja1 : List UInt8) : Tr (H81p ⊕ Raw) :=
 let a0 := decide (i5 < (↑(List.length s0) : Int))
 let a1 := (↑(List.getD s0 i5.toNat 0).toNat : Int)
 let a2 := (2, List.take (i5.toNat - i7.toNat) (List.drop i7.toNat s0))
 let a3 := [a2]
 t81p_15z s0 i5 i6 i7 ja0 ja1 a0 a1 a2 a3
def t81p_20z (s0 : TS) (i5 : Int) (ja0 : Int) (ja1 : List UInt8) (a0 : Bool) (a1 : Int) (a2 : Bool) (a3 : Int) (a4 : Bool) (a5 : List UInt8) (a6 : Str) (a7 : LF) : Tr (H81p ⊕ Raw) :=
 Tr.chk (bif a0 then inB i5 (List.length s0) && bif a2 then true else bif a4 then inB a3 (List.length s0) else true else true)
 (Tr.br (bif a0 then bif a2 then true else bif a4 then (↑(List.getD s0 a3.toNat 0).toNat : Int) == 39 else false else false)
  (Tr.chk (decide (0 ≤ i5) && decide (i5 ≤ a3) && decide (a3 ≤ (↑(List.length s0) : Int))) (Tr.chk (decide (ja1.length + a5.length ≤ 1099511627776)) (Tr.chk (inB i5 (List.length s0)) (Tr.br (a1 == 39) (Tr.to (H81p.h20 s0 (IntKind.i64.wrap (a3 + 1)) ja0 a6)) (Tr.to (H81p.h20 s0 a3 ja0 a6))))))
  (Tr.br (decide (i5 ≥ (↑(List.length s0) : Int))) (Tr.re (AV.tup [AV.nils, AV.kb false]) []) (Tr.chk (r3MayC (ja0, ja1)) (Tr.br (!r3May (ja0, ja1)) (Tr.re (AV.tup [AV.nils, AV.kb false]) []) (Tr.chk (decide (a7.length ≤ 1073741824)) (Tr.to (H81p.h3b s0 a3 a7)))))))
def t81p_20 (s0 : TS) (i5 : Int) (ja0 : Int) (ja1 : List UInt8) : Tr (H81p ⊕ Raw) :=
 let a0 := decide (i5 < (↑(List.length s0) : Int))
 let a1 := (↑(List.getD s0 i5.toNat 0).toNat : Int)
 let a2 := a1 != 39
 let a3 := IntKind.i64.wrap (i5 + 1)
 let a4 := decide (a3 < (↑(List.length s0) : Int))
 let a5 := List.take (a3.toNat - i5.toNat) (List.drop i5.toNat s0)
 let a6 := ja1 ++ a5
 let a7 := [(ja0, ja1)]
 t81p_20z s0 i5 ja0 ja1 a0 a1 a2 a3 a4 a5 a6 a7
def t81p_3bz (s0 : TS) (i5 : Int) (lh_0 : LF) (a0 : Int) (a1 : Int) (a2 : List UInt8) (a3 : Sem shInt × Sem Sh.str) (a4 : LF) : Tr (H81p ⊕ Raw) :=
 Tr.br (decide (i5 < (↑(List.length s0) : Int)))
 (Tr.chk (inB i5 (List.length s0))
  (Tr.br (bif a0 == 32 then true else a0 == 10) (Tr.to (H81p.h3b s0 a1 lh_0)) (Tr.chk (decide (0 ≤ i5) && decide (i5 ≤ a1) && decide (a1 ≤ (↑(List.length s0) : Int))) (Tr.chk (r3letterC a0) (Tr.br (r3letter a0) (Tr.to (H81p.h11b s0 a1 a0 i5 lh_0 4 a2)) (Tr.chk (r3digitC a0) (Tr.br (r3digit a0) (Tr.to (H81p.h15b s0 a1 a0 i5 lh_0 4 a2)) (Tr.br (a0 == 39) (Tr.to (H81p.h20b s0 a1 lh_0 3 []))
  (Tr.chk (r3MayC a3) (Tr.br (!r3May a3) (Tr.re (AV.tup [AV.nils, AV.kb false]) []) (Tr.chk (decide (lh_0.length + a4.length ≤ 1073741824)) (Tr.to (H81p.h3b s0 a1 (lh_0 ++ a4))))))))))))))
 (Tr.re (AV.tup [AV.vec 0, AV.bool (decide ((↑lh_0.length : Int) ≤ 400))]) [AO.vec shFor lh_0])
def t81p_3b (s0 : TS) (i5 : Int) (lh_0 : LF) : Tr (H81p ⊕ Raw) :=
 let a0 := (↑(List.getD s0 i5.toNat 0).toNat : Int)
 let a1 := IntKind.i64.wrap (i5 + 1)
 let a2 := List.take (a1.toNat - i5.toNat) (List.drop i5.toNat s0)
 let a3 := (4, a2)
 let a4 := [a3]
 t81p_3bz s0 i5 lh_0 a0 a1 a2 a3 a4
def t81p_11bz (s0 : TS) (i5 : Int) (i6 : Int) (i7 : Int) (lh_0 : LF) (jb0 : Int) (jb1 : List UInt8) (a0 : Bool) (a1 : Int) (a2 : List UInt8) (a3 : Sem shInt × Sem Sh.str) (a4 : LF) : Tr (H81p ⊕ Raw) :=
 Tr.chk (bif a0 then inB i5 (List.length s0) && r3partC a1 else true)
 (Tr.br (bif a0 then r3part a1 else false) (Tr.to (H81p.h11b s0 (IntKind.i64.wrap (i5 + 1)) i6 i7 lh_0 jb0 jb1))
  (Tr.chk (decide (0 ≤ i7) && decide (i7 ≤ i5) && decide (i5 ≤ (↑(List.length s0) : Int))) (Tr.chk (r3digitC i6) (Tr.br (r3digit i6) (Tr.to (H81p.h15b s0 i5 i6 i7 lh_0 1 a2)) (Tr.br (i6 == 39) (Tr.to (H81p.h20b s0 i5 lh_0 3 [])) (Tr.chk (r3MayC a3) (Tr.br (!r3May a3) (Tr.re (AV.tup [AV.nils, AV.kb false]) [])
  (Tr.chk (decide (lh_0.length + a4.length ≤ 1073741824)) (Tr.to (H81p.h3b s0 i5 (lh_0 ++ a4)))))))))))
def t81p_11b (s0 : TS) (i5 : Int) (i6 : Int) (i7 : Int) (lh_0 : LF) (jb0 : Int) (jb1 : List UInt8) : Tr (H81p ⊕ Raw) :=
 let a0 := decide (i5 < (↑(List.length s0) : Int))
 let a1 := (↑(List.getD s0 i5.toNat 0).toNat : Int)
 let a2 := List.take (i5.toNat - i7.toNat) (List.drop i7.toNat s0)
 let a3 := (1, a2)
 let a4 := [a3]
 t81p_11bz s0 i5 i6 i7 lh_0 jb0 jb1 a0 a1 a2 a3 a4
def t81p_15bz (s0 : TS) (i5 : Int) (i6 : Int) (i7 : Int) (lh_0 : LF) (jb0 : Int) (jb1 : List UInt8) (a0 : Bool) (a1 : Int) (a2 : Sem shInt × Sem Sh.str) (a3 : LF) : Tr (H81p ⊕ Raw) :=
 Tr.chk (bif a0 then inB i5 (List.length s0) && r3digitC a1 else true)
 (Tr.br (bif a0 then r3digit a1 else false) (Tr.to (H81p.h15b s0 (IntKind.i64.wrap (i5 + 1)) i6 i7 lh_0 jb0 jb1))
  (Tr.chk (decide (0 ≤ i7) && decide (i7 ≤ i5) && decide (i5 ≤ (↑(List.length s0) : Int))) (Tr.br (i6 == 39) (Tr.to (H81p.h20b s0 i5 lh_0 3 [])) (Tr.chk (r3MayC a2) (Tr.br (!r3May a2) (Tr.re (AV.tup [AV.nils, AV.kb false]) []) (Tr.chk (decide (lh_0.length + a3.length ≤ 1073741824)) (Tr.to (H81p.h3b s0 i5 (lh_0 ++ a3)))))))))
def t81p_15b (s0 : TS) (i5 : Int) (i6 : Int) (i7 : Int) (lh_0 : LF) (jb0 : Int) (jb1 : List UInt8) : Tr (H81p ⊕ Raw) :=
 let a0 := decide (i5 < (↑(List.length s0) : Int))
 let a1 := (↑(List.getD s0 i5.toNat 0).toNat : Int)
 let a2 := (2, List.take (i5.toNat - i7.toNat) (List.drop i7.toNat s0))
 let a3 := [a2]
 t81p_15bz s0 i5 i6 i7 lh_0 jb0 jb1 a0 a1 a2 a3
def t81p_20bz (s0 : TS) (i5 : Int) (lh_0 : LF) (jb0 : Int) (jb1 : List UInt8) (a0 : Bool) (a1 : Int) (a2 : Bool) (a3 : Int) (a4 : Bool) (a5 : List UInt8) (a6 : Str) (a7 : LF) : Tr (H81p ⊕ Raw) :=
 Tr.chk (bif a0 then inB i5 (List.length s0) && bif a2 then true else bif a4 then inB a3 (List.length s0) else true else true)
 (Tr.br (bif a0 then bif a2 then true else bif a4 then (↑(List.getD s0 a3.toNat 0).toNat : Int) == 39 else false else false)
  (Tr.chk (decide (0 ≤ i5) && decide (i5 ≤ a3) && decide (a3 ≤ (↑(List.length s0) : Int))) (Tr.chk (decide (jb1.length + a5.length ≤ 1099511627776)) (Tr.chk (inB i5 (List.length s0)) (Tr.br (a1 == 39) (Tr.to (H81p.h20b s0 (IntKind.i64.wrap (a3 + 1)) lh_0 jb0 a6)) (Tr.to (H81p.h20b s0 a3 lh_0 jb0 a6))))))
  (Tr.br (decide (i5 ≥ (↑(List.length s0) : Int))) (Tr.re (AV.tup [AV.nils, AV.kb false]) []) (Tr.chk (r3MayC (jb0, jb1)) (Tr.br (!r3May (jb0, jb1)) (Tr.re (AV.tup [AV.nils, AV.kb false]) []) (Tr.chk (decide (lh_0.length + a7.length ≤ 1073741824)) (Tr.to (H81p.h3b s0 a3 (lh_0 ++ a7))))))))
def t81p_20b (s0 : TS) (i5 : Int) (lh_0 : LF) (jb0 : Int) (jb1 : List UInt8) : Tr (H81p ⊕ Raw) :=
 let a0 := decide (i5 < (↑(List.length s0) : Int))
 let a1 := (↑(List.getD s0 i5.toNat 0).toNat : Int)
 let a2 := a1 != 39
 let a3 := IntKind.i64.wrap (i5 + 1)
 let a4 := decide (a3 < (↑(List.length s0) : Int))
 let a5 := List.take (a3.toNat - i5.toNat) (List.drop i5.toNat s0)
 let a6 := jb1 ++ a5
 let a7 := [(jb0, jb1)]
 t81p_20bz s0 i5 lh_0 jb0 jb1 a0 a1 a2 a3 a4 a5 a6 a7
theorem go81p (x0 : TS) : run env75 0 kp81p (Func.results Tryz.f81).toList 400 (bodyOf Tryz.f81) (initSt (Func.ntmps Tryz.f81) [datum Sh.str x0] []) = (i81p x0).map (lf Tryz.f81 e81p) := by kernel_rfl
def t81p : H81p → Tr (H81p ⊕ Raw)
 | .h3 s0 i5 => t81p_3 s0 i5
 | .h11 s0 i5 i6 i7 ja0 ja1 => t81p_11 s0 i5 i6 i7 ja0 ja1
 | .h15 s0 i5 i6 i7 ja0 ja1 => t81p_15 s0 i5 i6 i7 ja0 ja1
 | .h20 s0 i5 ja0 ja1 => t81p_20 s0 i5 ja0 ja1
 | .h3b s0 i5 lh_0 => t81p_3b s0 i5 lh_0
 | .h11b s0 i5 i6 i7 lh_0 jb0 jb1 => t81p_11b s0 i5 i6 i7 lh_0 jb0 jb1
 | .h15b s0 i5 i6 i7 lh_0 jb0 jb1 => t81p_15b s0 i5 i6 i7 lh_0 jb0 jb1
 | .h20b s0 i5 lh_0 jb0 jb1 => t81p_20b s0 i5 lh_0 jb0 jb1
theorem on81p : ∀ s, run env75 0 kp81p (Func.results Tryz.f81).toList 400 (headK Tryz.f81 (e81p s).1) (e81p s).2 = (t81p s).map (lf Tryz.f81 e81p)
 | .h3 s0 i5 => by kernel_rfl
 | .h11 s0 i5 i6 i7 ja0 ja1 => by kernel_rfl
 | .h15 s0 i5 i6 i7 ja0 ja1 => by kernel_rfl
 | .h20 s0 i5 ja0 ja1 => by kernel_rfl
 | .h3b s0 i5 lh_0 => by kernel_rfl
 | .h11b s0 i5 i6 i7 lh_0 jb0 jb1 => by kernel_rfl
 | .h15b s0 i5 i6 i7 lh_0 jb0 jb1 => by kernel_rfl
 | .h20b s0 i5 lh_0 jb0 jb1 => by kernel_rfl
def r3CutO (x0 : TS) : Option (HArgs (List.map some [shFor.sl, Sh.bool])) := outT [shFor.sl, Sh.bool] t81p 100000000 (i81p x0)
def r3CutC (x0 : TS) : Bool := (r3CutO x0).isSome
def r3Cut (x0 : TS) : Sem shFor.sl × Sem Sh.bool := (fun r : HArgs (List.map some [shFor.sl, Sh.bool]) => (r.1, r.2.1)) ((r3CutO x0).getD (dfltH [shFor.sl, Sh.bool]))
def F81p : FSem := plainC [Sh.str] [shFor.sl, Sh.bool] (fun x => r3CutC x.1) fun x => ((r3Cut x.1).1, (r3Cut x.1).2, ())
theorem FOk81p : FOk env75.P env75.gl 81 F81p := FOk_T1 (ks := [Sh.str]) (outs := [shFor.sl, Sh.bool]) (keep := kp81p) (gas := 400) (n := 100000000) (e := e81p) (t := t81p) (i := fun x => i81p x.1) env75_all env75_mix ok81p (fun x => go81p x.1) on81p (fun _ => by kernel_rfl) (fun _ => by kernel_rfl)

abbrev kp127p : Nat → Keep := fun _ => { }
theorem ok127p : fnChk env75.P 127 Tryz.f127 2 := by refine ⟨?_, ?_, ?_, ?_⟩ <;> kernel_rfl
def i127p (x0 : Sem Sh.expr) (_ : TS) : Tr (Empty ⊕ Raw) :=
 Tr.br (ExprT.op x0 == [])
 (Tr.chk (r4SameC (etaE x0) (ExprT.mk [] (0, 0, []) [] [])) (Tr.re (AV.tup [AV.str [], AV.bool (r4Same (etaE x0) (ExprT.mk [] (0, 0, []) [] []))]) [])) Tr.err
theorem go127p (x0 : Sem Sh.expr) (x1 : TS) : run env75 0 kp127p (Func.results Tryz.f127).toList 400 (bodyOf Tryz.f127) (initSt (Func.ntmps Tryz.f127) [datum Sh.expr x0, datum Sh.str x1] []) = (i127p x0 x1).map (lf Tryz.f127 e0) := by kernel_rfl
def r5condO (x0 : Sem Sh.expr) (x1 : TS) : Option (HArgs (List.map some [Sh.str, Sh.bool])) := outT [Sh.str, Sh.bool] t0 100000000 (i127p x0 x1)
def r5condC (x0 : Sem Sh.expr) (x1 : TS) : Bool := (r5condO x0 x1).isSome
def r5cond (x0 : Sem Sh.expr) (x1 : TS) : Sem Sh.str × Sem Sh.bool := (fun r : HArgs (List.map some [Sh.str, Sh.bool]) => (r.1, r.2.1)) ((r5condO x0 x1).getD (dfltH [Sh.str, Sh.bool]))
def F127p : FSem := plainC [Sh.expr, Sh.str] [Sh.str, Sh.bool] (fun x => r5condC x.1 x.2.1) fun x => ((r5cond x.1 x.2.1).1, (r5cond x.1 x.2.1).2, ())
theorem FOk127p : FOk env75.P env75.gl 127 F127p := FOk_T1 (ks := [Sh.expr, Sh.str]) (outs := [Sh.str, Sh.bool]) (keep := kp127p) (gas := 400) (n := 100000000) (e := e0) (t := t0) (i := fun x => i127p x.1 x.2.1) env75_all env75_mix ok127p (fun x => go127p x.1 x.2.1) (on0 _ _ _ _ _) (fun _ => by kernel_rfl) (fun _ => by kernel_rfl)

abbrev kp131p : Nat → Keep := fun j => if j = 3 then { slots := [0, 4, 5] } else { }
inductive H131p where
 | h3 (l0 : LS) (s4 : List UInt8) (i5 : Int)
abbrev e131p : H131p → Nat × St
 | .h3 l0 s4 i5 => (3, ⟨tm 37 [(0, AV.sl Sh.str l0), (4, AV.str s4), (5, AV.int .i64 i5)], []⟩)
theorem ok131p : fnChk env75.P 131 Tryz.f131 1 := by refine ⟨?_, ?_, ?_, ?_⟩ <;> kernel_rfl
def i131p (x0 : Sem Sh.str.sl) : Tr (H131p ⊕ Raw) :=
 Tr.to (H131p.h3 x0 [] 0)
def t131p_3z (l0 : LS) (s4 : List UInt8) (i5 : Int) (a0 : TS) (a1 : Str) (a2 : Int) (a3 : Bool) : Tr (H131p ⊕ Raw) :=
 Tr.br (decide (i5 < (↑l0.length : Int)))
 (Tr.chk (inB i5 l0.length)
  (Tr.chk (r5NameC a0) (Tr.br (!r5Name a0) (Tr.re (AV.tup [AV.str [], AV.kb false]) []) (Tr.br (decide (i5 > 0)) (Tr.chk (decide (s4.length + [32, 44, 32].length ≤ 1099511627776)) (Tr.chk (inB i5 l0.length) (Tr.chk (decide (List.length a1 + List.length a0 ≤ 1099511627776)) (Tr.to (H131p.h3 l0 (a1 ++ a0) a2)))))
  (Tr.chk (inB i5 l0.length) (Tr.chk (decide (s4.length + List.length a0 ≤ 1099511627776)) (Tr.to (H131p.h3 l0 (s4 ++ a0) a2))))))))
 (Tr.re (AV.tup [AV.str (bif a3 then s4 else s4), AV.bool (bif a3 then decide ((↑l0.length : Int) ≤ 8) else false)]) [])
def t131p_3 (l0 : LS) (s4 : List UInt8) (i5 : Int) : Tr (H131p ⊕ Raw) :=
 let a0 := l0.getD i5.toNat (dflt Sh.str)
 let a1 := s4 ++ [32, 44, 32]
 let a2 := IntKind.i64.wrap (i5 + 1)
 let a3 := decide (1 ≤ (↑l0.length : Int))
 t131p_3z l0 s4 i5 a0 a1 a2 a3
theorem go131p (x0 : Sem Sh.str.sl) : run env75 0 kp131p (Func.results Tryz.f131).toList 400 (bodyOf Tryz.f131) (initSt (Func.ntmps Tryz.f131) [datum Sh.str.sl x0] []) = (i131p x0).map (lf Tryz.f131 e131p) := by kernel_rfl
def t131p : H131p → Tr (H131p ⊕ Raw)
 | .h3 l0 s4 i5 => t131p_3 l0 s4 i5
theorem on131p : ∀ s, run env75 0 kp131p (Func.results Tryz.f131).toList 400 (headK Tryz.f131 (e131p s).1) (e131p s).2 = (t131p s).map (lf Tryz.f131 e131p)
 | .h3 l0 s4 i5 => by kernel_rfl
def r5namesO (x0 : Sem Sh.str.sl) : Option (HArgs (List.map some [Sh.str, Sh.bool])) := outT [Sh.str, Sh.bool] t131p 100000000 (i131p x0)
def r5namesC (x0 : Sem Sh.str.sl) : Bool := (r5namesO x0).isSome
def r5names (x0 : Sem Sh.str.sl) : Sem Sh.str × Sem Sh.bool := (fun r : HArgs (List.map some [Sh.str, Sh.bool]) => (r.1, r.2.1)) ((r5namesO x0).getD (dfltH [Sh.str, Sh.bool]))
def F131p : FSem := plainC [Sh.str.sl] [Sh.str, Sh.bool] (fun x => r5namesC x.1) fun x => ((r5names x.1).1, (r5names x.1).2, ())
theorem FOk131p : FOk env75.P env75.gl 131 F131p := FOk_T1 (ks := [Sh.str.sl]) (outs := [Sh.str, Sh.bool]) (keep := kp131p) (gas := 400) (n := 100000000) (e := e131p) (t := t131p) (i := fun x => i131p x.1) env75_all env75_mix ok131p (fun x => go131p x.1) on131p (fun _ => by kernel_rfl) (fun _ => by kernel_rfl)

def env76 : Env := (((env75.add 81 F81p).add 127 F127p).add 131 F131p)
theorem env76_all : EnvAll env76 := (EnvAll.addS (EnvAll.addS (EnvAll.addS env75_all (SameE.refl env75) FOk81p) ((SameE.refl env75).add _ _) FOk127p) (((SameE.refl env75).add _ _).add _ _) FOk131p)
theorem env76_mix : env76.P.follows .mixedOrders = true := (mix_add (mix_add (mix_add env75_mix _ _) _ _) _ _)
end
open Go Go.Proofs
noncomputable section
set_option maxHeartbeats 4000000
abbrev cpSr : List CP := [.d .str, .d .str, .d .str, .nil, .nil, .d .str, .nil, .nil, .d .str, .d shInt, .d shInt, .d .str, .d .str, .nil, .d (.sl shVal), .nil, .d .str, .d shInt, .d shInt, .d .str, .d .str, .nil, .d .str]
abbrev cpSu : List CP := [.d .str, .d .str, .d .str, .nil, .nil, .d .str, .nil, .nil, .d .str, .d shInt, .d shInt, .d .str, .d .str, .nil, .nil, .d (.sl shSet), .d .expr, .d .str]

abbrev kp78p : Nat → Keep := fun j => if j = 15 then { slots := [1, 3, 5, 12, 13] } else if j = 27 then { slots := [1, 3, 5, 8, 9, 14, 15] } else { }
inductive H78p where
 | h15 (s12 : List UInt8) (i13 : Int) (z0 : CSem cpS) (z1 : CSem cpSz) (z2 : CSem cpSr)
 | h27 (s8 : TS) (b9 : Sem Sh.bool) (s14 : List UInt8) (i15 : Int) (z0 : CSem cpS) (z1 : CSem cpSz) (z2 : CSem cpSu)
abbrev e78p : H78p → Nat × St
 | .h15 s12 i13 z0 z1 z2 => (15, ⟨tm 430 [(1, AV.ptr 0 0), (3, AV.ptr 1 0), (5, AV.ptr 2 0), (12, AV.str s12), (13, AV.int .i64 i13)], [AO.box (cpN [] cpS z0), AO.box (cpN [] cpSz z1), AO.box (cpN [] cpSr z2)]⟩)
 | .h27 s8 b9 s14 i15 z0 z1 z2 => (27, ⟨tm 430 [(1, AV.ptr 0 0), (3, AV.ptr 1 0), (5, AV.ptr 2 0), (8, AV.str s8), (9, AV.bool b9), (14, AV.str s14), (15, AV.int .i64 i15)], [AO.box (cpN [] cpS z0), AO.box (cpN [] cpSz z1), AO.box (cpN [] cpSu z2)]⟩)
theorem ok78p : fnChk env76.P 78 Tryz.f78 1 := by refine ⟨?_, ?_, ?_, ?_⟩ <;> kernel_rfl
def i78pz (x0 : Sem shStmt) (a0 : ExprT) (a1 : ExprT) (a2 : Sem Sh.str × Sem Sh.bool) (a3 : Str) (a4 : Str) (a5 : Str) (a6 : Str) (a7 : Str) (a8 : Str) (a9 : Sem Sh.str × Sem Sh.bool) (a10 : Str) (a11 : Str) (a12 : Sem Sh.str × Sem Sh.bool) (a13 : Bool) (a14 : Sem Sh.bool) (a15 : Str) (a16 : Str) (a17 : Str) (a18 : Str) (a19 : Str) (a20 : Str) (a21 : Str) (a22 : Bool) (a23 : Sem Sh.bool) (a24 : Str) (a25 : Str) (a26 : Str) (a27 : Bool) (a28 : Str) (a29 : TS) (a30 : Str) (a31 : Bool) (a32 : Str) (a33 : TS) (a34 : Str) (a35 : Str) (a36 : Str) (a37 : Str) (a38 : Str) (a39 : Str) (a40 : Str) (a41 : Str) (a42 : Str) : Tr (H78p ⊕ Raw) :=
 Tr.chk (r5condC a0 [])
 (Tr.chk (r5condC a1 [87, 72, 69, 82, 69])
  (Tr.br (x0.1 == [99, 114, 101, 97, 116, 101]) Tr.err (Tr.br (x0.1 == [100, 114, 111, 112]) (Tr.chk (decide ([68, 82, 79, 80, 32, 84, 65, 66, 76, 69, 32].length + List.length x0.2.1 ≤ 1099511627776)) (Tr.re (AV.tup [AV.str ([68, 82, 79, 80, 32, 84, 65, 66, 76, 69, 32] ++ x0.2.1), AV.agg
  [AV.str x0.1, AV.str x0.2.1, AV.str [], AV.nils, AV.nils, AV.str [], AV.nils, AV.nils, AV.str [], AV.int .i64 0, AV.int .i64 0, AV.str [], AV.str [], AV.nils, AV.nils, AV.nils, AV.str [], AV.int .i64 0, AV.int .i64 0, AV.str [], AV.str [], AV.nils, AV.str []], AV.kb true]) [])) (Tr.br (x0.1 == [105, 110, 115, 101, 114, 116]) (Tr.to
  (H78p.h15 [] 0 (x0, ()) ([], [], [], [], [], 0, 0, [], [], [], 0, 0, [], [], [], ()) (x0.1, x0.2.1, [], [], [], 0, 0, [], [], x0.2.2.2.2.2.2.2.2.2.1, [], 0, 0, [], [], [], ()))) (Tr.br (x0.1 == [117, 112, 100, 97, 116, 101]) (Tr.to (H78p.h27 a2.1 a2.2 [] 0 (x0, ()) ([], [], [], [], [], 0, 0, [], [], [], 0, 0, [], [], [], ()) (x0.1, x0.2.1, [], [], [], 0, 0, [], [], x0.2.2.2.2.2.2.2.2.2.2.1,
  x0.2.2.2.2.2.2.2.2.2.2.2.1, [], ()))) (Tr.br (x0.1 == [100, 101, 108, 101, 116, 101]) (Tr.chk (decide ([68, 69, 76, 69, 84, 69, 32, 70, 82, 79, 77, 32].length + List.length x0.2.1 ≤ 1099511627776)) (Tr.chk (decide (List.length a3 + List.length a2.1 ≤ 1099511627776)) (Tr.re (AV.tup [AV.str (a3 ++ a2.1), AV.agg
  [AV.str x0.1, AV.str x0.2.1, AV.str [], AV.nils, AV.nils, AV.str [], AV.nils, AV.nils, AV.str [], AV.int .i64 0, AV.int .i64 0, AV.str [], AV.str [], AV.nils, AV.nils, AV.nils, AV.str (ExprT.op x0.2.2.2.2.2.2.2.2.2.2.2.1), AV.int .i64 (ExprT.v x0.2.2.2.2.2.2.2.2.2.2.2.1).1, AV.int .i64 (ExprT.v x0.2.2.2.2.2.2.2.2.2.2.2.1).2.1, AV.str (ExprT.v x0.2.2.2.2.2.2.2.2.2.2.2.1).2.2,
  AV.str (ExprT.s x0.2.2.2.2.2.2.2.2.2.2.2.1), AV.sl Sh.expr (ExprT.l x0.2.2.2.2.2.2.2.2.2.2.2.1), AV.str []], AV.bool a2.2]) []))) (Tr.br (x0.1 == [115, 101, 108, 101, 99, 116]) (Tr.chk (decide ([83, 69, 76, 69, 67, 84, 32, 42, 32, 70, 82, 79, 77, 32].length + List.length x0.2.1 ≤ 1099511627776)) (Tr.chk (decide (List.length a4 + List.length a2.1 ≤ 1099511627776)) (Tr.re (AV.tup
  [AV.str (a4 ++ a2.1), AV.agg [AV.str x0.1, AV.str x0.2.1, AV.str [], AV.nils, AV.nils, AV.str [], AV.nils, AV.nils, AV.str [], AV.int .i64 0, AV.int .i64 0, AV.str [], AV.str [], AV.nils, AV.nils, AV.nils, AV.str (ExprT.op x0.2.2.2.2.2.2.2.2.2.2.2.1), AV.int .i64 (ExprT.v x0.2.2.2.2.2.2.2.2.2.2.2.1).1, AV.int .i64 (ExprT.v x0.2.2.2.2.2.2.2.2.2.2.2.1).2.1,
  AV.str (ExprT.v x0.2.2.2.2.2.2.2.2.2.2.2.1).2.2, AV.str (ExprT.s x0.2.2.2.2.2.2.2.2.2.2.2.1), AV.sl Sh.expr (ExprT.l x0.2.2.2.2.2.2.2.2.2.2.2.1), AV.str []], AV.bool a2.2]) []))) (Tr.br (x0.1 == [99, 111, 112, 121]) (Tr.chk (r5namesC x0.2.2.2.1) (Tr.chk (decide ([77, 73, 71, 82, 65, 84, 69, 32, 67, 79, 80, 89, 32].length + List.length x0.2.1 ≤ 1099511627776))
  (Tr.chk (decide (List.length a5 + [32, 70, 82, 79, 77, 32].length ≤ 1099511627776)) (Tr.chk (decide (List.length a6 + List.length x0.2.2.1 ≤ 1099511627776)) (Tr.chk (decide (List.length a7 + [32, 40, 32].length ≤ 1099511627776)) (Tr.chk (decide (List.length a8 + List.length a9.1 ≤ 1099511627776)) (Tr.chk (decide (List.length a10 + [32, 41].length ≤ 1099511627776))
  (Tr.chk (decide (List.length a11 + List.length a12.1 ≤ 1099511627776)) (Tr.br a9.2 (Tr.br a12.2 (Tr.chk a13 (Tr.re (AV.tup [AV.str (a11 ++ a12.1), AV.agg [AV.str x0.1, AV.str x0.2.1, AV.str x0.2.2.1, AV.sl Sh.str x0.2.2.2.1, AV.nils, AV.str [], AV.nils, AV.nils, AV.str (ExprT.op x0.2.2.2.2.2.2.2.2.1), AV.int .i64 (ExprT.v x0.2.2.2.2.2.2.2.2.1).1, AV.int .i64 (ExprT.v x0.2.2.2.2.2.2.2.2.1).2.1,
  AV.str (ExprT.v x0.2.2.2.2.2.2.2.2.1).2.2, AV.str (ExprT.s x0.2.2.2.2.2.2.2.2.1), AV.sl Sh.expr (ExprT.l x0.2.2.2.2.2.2.2.2.1), AV.nils, AV.nils, AV.str [], AV.int .i64 0, AV.int .i64 0, AV.str [], AV.str [], AV.nils, AV.str []], AV.bool a14]) [])) (Tr.re (AV.tup [AV.str (a11 ++ a12.1), AV.agg [AV.str x0.1, AV.str x0.2.1, AV.str x0.2.2.1, AV.sl Sh.str x0.2.2.2.1, AV.nils, AV.str [],
  AV.nils, AV.nils, AV.str (ExprT.op x0.2.2.2.2.2.2.2.2.1), AV.int .i64 (ExprT.v x0.2.2.2.2.2.2.2.2.1).1, AV.int .i64 (ExprT.v x0.2.2.2.2.2.2.2.2.1).2.1, AV.str (ExprT.v x0.2.2.2.2.2.2.2.2.1).2.2, AV.str (ExprT.s x0.2.2.2.2.2.2.2.2.1), AV.sl Sh.expr (ExprT.l x0.2.2.2.2.2.2.2.2.1), AV.nils, AV.nils, AV.str [], AV.int .i64 0, AV.int .i64 0, AV.str [], AV.str [], AV.nils, AV.str []], AV.kb false])
  [])) (Tr.re (AV.tup [AV.str (a11 ++ a12.1), AV.agg [AV.str x0.1, AV.str x0.2.1, AV.str x0.2.2.1, AV.sl Sh.str x0.2.2.2.1, AV.nils, AV.str [], AV.nils, AV.nils, AV.str (ExprT.op x0.2.2.2.2.2.2.2.2.1), AV.int .i64 (ExprT.v x0.2.2.2.2.2.2.2.2.1).1, AV.int .i64 (ExprT.v x0.2.2.2.2.2.2.2.2.1).2.1, AV.str (ExprT.v x0.2.2.2.2.2.2.2.2.1).2.2, AV.str (ExprT.s x0.2.2.2.2.2.2.2.2.1),
  AV.sl Sh.expr (ExprT.l x0.2.2.2.2.2.2.2.2.1), AV.nils, AV.nils, AV.str [], AV.int .i64 0, AV.int .i64 0, AV.str [], AV.str [], AV.nils, AV.str []], AV.kb false]) [])))))))))) (Tr.br (x0.1 == [106, 111, 105, 110]) (Tr.chk (decide ([77, 73, 71, 82, 65, 84, 69, 32, 74, 79, 73, 78, 32].length + List.length x0.2.1 ≤ 1099511627776))
  (Tr.chk (decide (List.length a15 + [32, 70, 82, 79, 77, 32].length ≤ 1099511627776)) (Tr.chk (decide (List.length a16 + List.length x0.2.2.1 ≤ 1099511627776)) (Tr.chk (decide (List.length a17 + [32, 44, 32].length ≤ 1099511627776)) (Tr.chk (decide (List.length a18 + List.length x0.2.2.2.2.2.2.2.2.2.2.2.2 ≤ 1099511627776))
  (Tr.chk (decide (List.length a19 + [32, 79, 78, 32].length ≤ 1099511627776)) (Tr.chk (decide (List.length a20 + List.length x0.2.2.2.2.2.1 ≤ 1099511627776)) (Tr.chk (decide (List.length a21 + List.length a12.1 ≤ 1099511627776)) (Tr.br a12.2 (Tr.chk a13 (Tr.br a14 (Tr.chk a22 (Tr.br a23 (Tr.chk (r5NameC x0.2.2.2.2.2.1) (Tr.re (AV.tup [AV.str (a21 ++ a12.1), AV.agg
  [AV.str x0.1, AV.str x0.2.1, AV.str x0.2.2.1, AV.nils, AV.nils, AV.str x0.2.2.2.2.2.1, AV.nils, AV.nils, AV.str (ExprT.op x0.2.2.2.2.2.2.2.2.1), AV.int .i64 (ExprT.v x0.2.2.2.2.2.2.2.2.1).1, AV.int .i64 (ExprT.v x0.2.2.2.2.2.2.2.2.1).2.1, AV.str (ExprT.v x0.2.2.2.2.2.2.2.2.1).2.2, AV.str (ExprT.s x0.2.2.2.2.2.2.2.2.1), AV.sl Sh.expr (ExprT.l x0.2.2.2.2.2.2.2.2.1), AV.nils, AV.nils, AV.str [],
  AV.int .i64 0, AV.int .i64 0, AV.str [], AV.str [], AV.nils, AV.str x0.2.2.2.2.2.2.2.2.2.2.2.2], AV.bool (r5Name x0.2.2.2.2.2.1)]) [])) (Tr.re (AV.tup [AV.str (a21 ++ a12.1), AV.agg [AV.str x0.1, AV.str x0.2.1, AV.str x0.2.2.1, AV.nils, AV.nils, AV.str x0.2.2.2.2.2.1, AV.nils, AV.nils, AV.str (ExprT.op x0.2.2.2.2.2.2.2.2.1), AV.int .i64 (ExprT.v x0.2.2.2.2.2.2.2.2.1).1,
  AV.int .i64 (ExprT.v x0.2.2.2.2.2.2.2.2.1).2.1, AV.str (ExprT.v x0.2.2.2.2.2.2.2.2.1).2.2, AV.str (ExprT.s x0.2.2.2.2.2.2.2.2.1), AV.sl Sh.expr (ExprT.l x0.2.2.2.2.2.2.2.2.1), AV.nils, AV.nils, AV.str [], AV.int .i64 0, AV.int .i64 0, AV.str [], AV.str [], AV.nils, AV.str x0.2.2.2.2.2.2.2.2.2.2.2.2], AV.kb false]) []))) (Tr.re (AV.tup [AV.str (a21 ++ a12.1), AV.agg
  [AV.str x0.1, AV.str x0.2.1, AV.str x0.2.2.1, AV.nils, AV.nils, AV.str x0.2.2.2.2.2.1, AV.nils, AV.nils, AV.str (ExprT.op x0.2.2.2.2.2.2.2.2.1), AV.int .i64 (ExprT.v x0.2.2.2.2.2.2.2.2.1).1, AV.int .i64 (ExprT.v x0.2.2.2.2.2.2.2.2.1).2.1, AV.str (ExprT.v x0.2.2.2.2.2.2.2.2.1).2.2, AV.str (ExprT.s x0.2.2.2.2.2.2.2.2.1), AV.sl Sh.expr (ExprT.l x0.2.2.2.2.2.2.2.2.1), AV.nils, AV.nils, AV.str [],
  AV.int .i64 0, AV.int .i64 0, AV.str [], AV.str [], AV.nils, AV.str x0.2.2.2.2.2.2.2.2.2.2.2.2], AV.kb false]) []))) (Tr.re (AV.tup [AV.str (a21 ++ a12.1), AV.agg [AV.str x0.1, AV.str x0.2.1, AV.str x0.2.2.1, AV.nils, AV.nils, AV.str x0.2.2.2.2.2.1, AV.nils, AV.nils, AV.str (ExprT.op x0.2.2.2.2.2.2.2.2.1), AV.int .i64 (ExprT.v x0.2.2.2.2.2.2.2.2.1).1,
  AV.int .i64 (ExprT.v x0.2.2.2.2.2.2.2.2.1).2.1, AV.str (ExprT.v x0.2.2.2.2.2.2.2.2.1).2.2, AV.str (ExprT.s x0.2.2.2.2.2.2.2.2.1), AV.sl Sh.expr (ExprT.l x0.2.2.2.2.2.2.2.2.1), AV.nils, AV.nils, AV.str [], AV.int .i64 0, AV.int .i64 0, AV.str [], AV.str [], AV.nils, AV.str x0.2.2.2.2.2.2.2.2.2.2.2.2], AV.kb false]) [])))))))))) (Tr.br (x0.1 == [103, 114, 111, 117, 112])
  (Tr.br ((↑(List.length x0.2.2.2.1) : Int) != 2) (Tr.re (AV.tup [AV.str [], AV.agg [AV.str x0.1, AV.str x0.2.1, AV.str x0.2.2.1, AV.sl Sh.str x0.2.2.2.1, AV.nils, AV.str [], AV.nils, AV.nils, AV.str (ExprT.op x0.2.2.2.2.2.2.2.2.1), AV.int .i64 (ExprT.v x0.2.2.2.2.2.2.2.2.1).1, AV.int .i64 (ExprT.v x0.2.2.2.2.2.2.2.2.1).2.1,
  AV.str (ExprT.v x0.2.2.2.2.2.2.2.2.1).2.2, AV.str (ExprT.s x0.2.2.2.2.2.2.2.2.1), AV.sl Sh.expr (ExprT.l x0.2.2.2.2.2.2.2.2.1), AV.nils, AV.nils, AV.str [], AV.int .i64 0, AV.int .i64 0, AV.str [], AV.str [], AV.nils, AV.str []], AV.kb false]) []) (Tr.chk (decide ([77, 73, 71, 82, 65, 84, 69, 32, 71, 82, 79, 85, 80, 32].length + List.length x0.2.1 ≤ 1099511627776))
  (Tr.chk (decide (List.length a24 + [32, 70, 82, 79, 77, 32].length ≤ 1099511627776)) (Tr.chk (decide (List.length a25 + List.length x0.2.2.1 ≤ 1099511627776)) (Tr.chk (decide (List.length a26 + [32, 66, 89, 32].length ≤ 1099511627776)) (Tr.chk a27 (Tr.chk (decide (List.length a28 + List.length a29 ≤ 1099511627776))
  (Tr.chk (decide (List.length a30 + [32, 83, 85, 77, 32].length ≤ 1099511627776)) (Tr.chk a31 (Tr.chk (decide (List.length a32 + List.length a33 ≤ 1099511627776)) (Tr.chk (decide (List.length a34 + List.length a12.1 ≤ 1099511627776)) (Tr.br a12.2 (Tr.chk a13 (Tr.br a14 (Tr.chk a27 (Tr.chk (r5NameC a29) (Tr.br (r5Name a29) (Tr.chk a31 (Tr.chk (r5NameC a33) (Tr.re (AV.tup [AV.str (a34 ++ a12.1),
  AV.agg [AV.str x0.1, AV.str x0.2.1, AV.str x0.2.2.1, AV.sl Sh.str x0.2.2.2.1, AV.nils, AV.str [], AV.nils, AV.nils, AV.str (ExprT.op x0.2.2.2.2.2.2.2.2.1), AV.int .i64 (ExprT.v x0.2.2.2.2.2.2.2.2.1).1, AV.int .i64 (ExprT.v x0.2.2.2.2.2.2.2.2.1).2.1, AV.str (ExprT.v x0.2.2.2.2.2.2.2.2.1).2.2, AV.str (ExprT.s x0.2.2.2.2.2.2.2.2.1), AV.sl Sh.expr (ExprT.l x0.2.2.2.2.2.2.2.2.1), AV.nils, AV.nils,
  AV.str [], AV.int .i64 0, AV.int .i64 0, AV.str [], AV.str [], AV.nils, AV.str []], AV.bool (r5Name a33)]) []))) (Tr.re (AV.tup [AV.str (a34 ++ a12.1), AV.agg [AV.str x0.1, AV.str x0.2.1, AV.str x0.2.2.1, AV.sl Sh.str x0.2.2.2.1, AV.nils, AV.str [], AV.nils, AV.nils, AV.str (ExprT.op x0.2.2.2.2.2.2.2.2.1), AV.int .i64 (ExprT.v x0.2.2.2.2.2.2.2.2.1).1,
  AV.int .i64 (ExprT.v x0.2.2.2.2.2.2.2.2.1).2.1, AV.str (ExprT.v x0.2.2.2.2.2.2.2.2.1).2.2, AV.str (ExprT.s x0.2.2.2.2.2.2.2.2.1), AV.sl Sh.expr (ExprT.l x0.2.2.2.2.2.2.2.2.1), AV.nils, AV.nils, AV.str [], AV.int .i64 0, AV.int .i64 0, AV.str [], AV.str [], AV.nils, AV.str []], AV.kb false]) [])))) (Tr.re (AV.tup [AV.str (a34 ++ a12.1), AV.agg
  [AV.str x0.1, AV.str x0.2.1, AV.str x0.2.2.1, AV.sl Sh.str x0.2.2.2.1, AV.nils, AV.str [], AV.nils, AV.nils, AV.str (ExprT.op x0.2.2.2.2.2.2.2.2.1), AV.int .i64 (ExprT.v x0.2.2.2.2.2.2.2.2.1).1, AV.int .i64 (ExprT.v x0.2.2.2.2.2.2.2.2.1).2.1, AV.str (ExprT.v x0.2.2.2.2.2.2.2.2.1).2.2, AV.str (ExprT.s x0.2.2.2.2.2.2.2.2.1),
  AV.sl Sh.expr (ExprT.l x0.2.2.2.2.2.2.2.2.1), AV.nils, AV.nils, AV.str [], AV.int .i64 0, AV.int .i64 0, AV.str [], AV.str [], AV.nils, AV.str []], AV.kb false]) []))) (Tr.re (AV.tup [AV.str (a34 ++ a12.1), AV.agg [AV.str x0.1, AV.str x0.2.1, AV.str x0.2.2.1, AV.sl Sh.str x0.2.2.2.1, AV.nils, AV.str [], AV.nils, AV.nils, AV.str (ExprT.op x0.2.2.2.2.2.2.2.2.1),
  AV.int .i64 (ExprT.v x0.2.2.2.2.2.2.2.2.1).1, AV.int .i64 (ExprT.v x0.2.2.2.2.2.2.2.2.1).2.1, AV.str (ExprT.v x0.2.2.2.2.2.2.2.2.1).2.2, AV.str (ExprT.s x0.2.2.2.2.2.2.2.2.1), AV.sl Sh.expr (ExprT.l x0.2.2.2.2.2.2.2.2.1), AV.nils, AV.nils, AV.str [], AV.int .i64 0, AV.int .i64 0, AV.str [], AV.str [], AV.nils, AV.str []], AV.kb false]) []))))))))))))) (Tr.br (x0.1 == [114, 101, 97, 100])
  (Tr.chk (decide ([71, 82, 65, 78, 84, 32, 82, 69, 65, 68, 32, 79, 78, 32].length + List.length x0.2.1 ≤ 1099511627776)) (Tr.chk (decide (List.length a35 + [32, 84, 79, 32].length ≤ 1099511627776)) (Tr.chk (decide (List.length a36 + List.length x0.2.2.2.2.2.2.2.2.2.2.2.2 ≤ 1099511627776)) (Tr.chk a22 (Tr.re (AV.tup [AV.str (a36 ++ x0.2.2.2.2.2.2.2.2.2.2.2.2), AV.agg
  [AV.str x0.1, AV.str x0.2.1, AV.str [], AV.nils, AV.nils, AV.str [], AV.nils, AV.nils, AV.str [], AV.int .i64 0, AV.int .i64 0, AV.str [], AV.str [], AV.nils, AV.nils, AV.nils, AV.str [], AV.int .i64 0, AV.int .i64 0, AV.str [], AV.str [], AV.nils, AV.str x0.2.2.2.2.2.2.2.2.2.2.2.2], AV.bool a23]) []))))) (Tr.br (x0.1 == [119, 114, 105, 116, 101])
  (Tr.chk (decide ([71, 82, 65, 78, 84, 32, 87, 82, 73, 84, 69, 32, 79, 78, 32].length + List.length x0.2.1 ≤ 1099511627776)) (Tr.chk (decide (List.length a37 + [32, 84, 79, 32].length ≤ 1099511627776)) (Tr.chk (decide (List.length a38 + List.length x0.2.2.2.2.2.2.2.2.2.2.2.2 ≤ 1099511627776)) (Tr.chk a22 (Tr.re (AV.tup [AV.str (a38 ++ x0.2.2.2.2.2.2.2.2.2.2.2.2), AV.agg
  [AV.str x0.1, AV.str x0.2.1, AV.str [], AV.nils, AV.nils, AV.str [], AV.nils, AV.nils, AV.str [], AV.int .i64 0, AV.int .i64 0, AV.str [], AV.str [], AV.nils, AV.nils, AV.nils, AV.str [], AV.int .i64 0, AV.int .i64 0, AV.str [], AV.str [], AV.nils, AV.str x0.2.2.2.2.2.2.2.2.2.2.2.2], AV.bool a23]) []))))) (Tr.br (x0.1 == [117, 110, 114, 101, 97, 100])
  (Tr.chk (decide ([82, 69, 86, 79, 75, 69, 32, 82, 69, 65, 68, 32, 79, 78, 32].length + List.length x0.2.1 ≤ 1099511627776)) (Tr.chk (decide (List.length a39 + [32, 70, 82, 79, 77, 32].length ≤ 1099511627776)) (Tr.chk (decide (List.length a40 + List.length x0.2.2.2.2.2.2.2.2.2.2.2.2 ≤ 1099511627776)) (Tr.chk a22 (Tr.re (AV.tup [AV.str (a40 ++ x0.2.2.2.2.2.2.2.2.2.2.2.2), AV.agg
  [AV.str x0.1, AV.str x0.2.1, AV.str [], AV.nils, AV.nils, AV.str [], AV.nils, AV.nils, AV.str [], AV.int .i64 0, AV.int .i64 0, AV.str [], AV.str [], AV.nils, AV.nils, AV.nils, AV.str [], AV.int .i64 0, AV.int .i64 0, AV.str [], AV.str [], AV.nils, AV.str x0.2.2.2.2.2.2.2.2.2.2.2.2], AV.bool a23]) []))))) (Tr.br (x0.1 == [117, 110, 119, 114, 105, 116, 101]) (Tr.chk
  (decide ([82, 69, 86, 79, 75, 69, 32, 87, 82, 73, 84, 69, 32, 79, 78, 32].length + List.length x0.2.1 ≤ 1099511627776)) (Tr.chk (decide (List.length a41 + [32, 70, 82, 79, 77, 32].length ≤ 1099511627776)) (Tr.chk (decide (List.length a42 + List.length x0.2.2.2.2.2.2.2.2.2.2.2.2 ≤ 1099511627776)) (Tr.chk a22 (Tr.re (AV.tup [AV.str (a42 ++ x0.2.2.2.2.2.2.2.2.2.2.2.2), AV.agg
  [AV.str x0.1, AV.str x0.2.1, AV.str [], AV.nils, AV.nils, AV.str [], AV.nils, AV.nils, AV.str [], AV.int .i64 0, AV.int .i64 0, AV.str [], AV.str [], AV.nils, AV.nils, AV.nils, AV.str [], AV.int .i64 0, AV.int .i64 0, AV.str [], AV.str [], AV.nils, AV.str x0.2.2.2.2.2.2.2.2.2.2.2.2], AV.bool a23]) []))))) (Tr.re (AV.tup [AV.str [], AV.agg
  [AV.str x0.1, AV.str x0.2.1, AV.str [], AV.nils, AV.nils, AV.str [], AV.nils, AV.nils, AV.str [], AV.int .i64 0, AV.int .i64 0, AV.str [], AV.str [], AV.nils, AV.nils, AV.nils, AV.str [], AV.int .i64 0, AV.int .i64 0, AV.str [], AV.str [], AV.nils, AV.str []], AV.kb false]) [])))))))))))))))
def i78p (x0 : Sem shStmt) : Tr (H78p ⊕ Raw) :=
 let a0 := etaE x0.2.2.2.2.2.2.2.2.1
 let a1 := etaE x0.2.2.2.2.2.2.2.2.2.2.2.1
 let a2 := r5cond a1 [87, 72, 69, 82, 69]
 let a3 := [68, 69, 76, 69, 84, 69, 32, 70, 82, 79, 77, 32] ++ x0.2.1
 let a4 := [83, 69, 76, 69, 67, 84, 32, 42, 32, 70, 82, 79, 77, 32] ++ x0.2.1
 let a5 := [77, 73, 71, 82, 65, 84, 69, 32, 67, 79, 80, 89, 32] ++ x0.2.1
 let a6 := a5 ++ [32, 70, 82, 79, 77, 32]
 let a7 := a6 ++ x0.2.2.1
 let a8 := a7 ++ [32, 40, 32]
 let a9 := r5names x0.2.2.2.1
 let a10 := a8 ++ a9.1
 let a11 := a10 ++ [32, 41]
 let a12 := r5cond a0 []
 let a13 := r5NameC x0.2.2.1
 let a14 := r5Name x0.2.2.1
 let a15 := [77, 73, 71, 82, 65, 84, 69, 32, 74, 79, 73, 78, 32] ++ x0.2.1
 let a16 := a15 ++ [32, 70, 82, 79, 77, 32]
 let a17 := a16 ++ x0.2.2.1
 let a18 := a17 ++ [32, 44, 32]
 let a19 := a18 ++ x0.2.2.2.2.2.2.2.2.2.2.2.2
 let a20 := a19 ++ [32, 79, 78, 32]
 let a21 := a20 ++ x0.2.2.2.2.2.1
 let a22 := r5NameC x0.2.2.2.2.2.2.2.2.2.2.2.2
 let a23 := r5Name x0.2.2.2.2.2.2.2.2.2.2.2.2
 let a24 := [77, 73, 71, 82, 65, 84, 69, 32, 71, 82, 79, 85, 80, 32] ++ x0.2.1
 let a25 := a24 ++ [32, 70, 82, 79, 77, 32]
 let a26 := a25 ++ x0.2.2.1
 let a27 := inB 0 (List.length x0.2.2.2.1)
 let a28 := a26 ++ [32, 66, 89, 32]
 let a29 := List.getD x0.2.2.2.1 (Int.toNat 0) (dflt Sh.str)
 let a30 := a28 ++ a29
 let a31 := inB 1 (List.length x0.2.2.2.1)
 let a32 := a30 ++ [32, 83, 85, 77, 32]
 let a33 := List.getD x0.2.2.2.1 (Int.toNat 1) (dflt Sh.str)
 let a34 := a32 ++ a33
 let a35 := [71, 82, 65, 78, 84, 32, 82, 69, 65, 68, 32, 79, 78, 32] ++ x0.2.1
 let a36 := a35 ++ [32, 84, 79, 32]
 let a37 := [71, 82, 65, 78, 84, 32, 87, 82, 73, 84, 69, 32, 79, 78, 32] ++ x0.2.1
 let a38 := a37 ++ [32, 84, 79, 32]
 let a39 := [82, 69, 86, 79, 75, 69, 32, 82, 69, 65, 68, 32, 79, 78, 32] ++ x0.2.1
 let a40 := a39 ++ [32, 70, 82, 79, 77, 32]
 let a41 := [82, 69, 86, 79, 75, 69, 32, 87, 82, 73, 84, 69, 32, 79, 78, 32] ++ x0.2.1
 let a42 := a41 ++ [32, 70, 82, 79, 77, 32]
 i78pz x0 a0 a1 a2 a3 a4 a5 a6 a7 a8 a9 a10 a11 a12 a13 a14 a15 a16 a17 a18 a19 a20 a21 a22 a23 a24 a25 a26 a27 a28 a29 a30 a31 a32 a33 a34 a35 a36 a37 a38 a39 a40 a41 a42
def t78p_15z (s12 : List UInt8) (i13 : Int) (z0 : CSem cpS) (_ : CSem cpSz) (z2 : CSem cpSr) (a0 : Int) (a1 : Str) (a2 : Str) (a3 : Str) : Tr (H78p ⊕ Raw) :=
 Tr.br (decide (i13 < a0)) (Tr.chk (inB i13 (List.length z0.1.2.2.2.2.2.2.2.2.2.1)) Tr.err)
 (Tr.chk (decide ([73, 78, 83, 69, 82, 84, 32, 73, 78, 84, 79, 32].length + List.length z0.1.2.1 ≤ 1099511627776))
  (Tr.chk (decide (List.length a1 + [32, 86, 65, 76, 85, 69, 83, 32, 40, 32].length ≤ 1099511627776)) (Tr.chk (decide (List.length a2 + s12.length ≤ 1099511627776)) (Tr.chk (decide (List.length a3 + [32, 41].length ≤ 1099511627776)) (Tr.br (decide (1 ≤ a0)) (Tr.re (AV.tup [AV.str (a3 ++ [32, 41]), AV.agg
  [AV.str z2.1, AV.str z2.2.1, AV.str z2.2.2.1, AV.nils, AV.nils, AV.str z2.2.2.2.1, AV.nils, AV.nils, AV.str z2.2.2.2.2.1, AV.int .i64 z2.2.2.2.2.2.1, AV.int .i64 z2.2.2.2.2.2.2.1, AV.str z2.2.2.2.2.2.2.2.1, AV.str z2.2.2.2.2.2.2.2.2.1, AV.nils, AV.sl shVal z2.2.2.2.2.2.2.2.2.2.1, AV.nils, AV.str z2.2.2.2.2.2.2.2.2.2.2.1, AV.int .i64 z2.2.2.2.2.2.2.2.2.2.2.2.1,
  AV.int .i64 z2.2.2.2.2.2.2.2.2.2.2.2.2.1, AV.str z2.2.2.2.2.2.2.2.2.2.2.2.2.2.1, AV.str z2.2.2.2.2.2.2.2.2.2.2.2.2.2.2.1, AV.nils, AV.str z2.2.2.2.2.2.2.2.2.2.2.2.2.2.2.2.1], AV.bool (decide (a0 ≤ 12))]) []) (Tr.re (AV.tup [AV.str (a3 ++ [32, 41]), AV.agg [AV.str z2.1, AV.str z2.2.1, AV.str z2.2.2.1, AV.nils, AV.nils, AV.str z2.2.2.2.1, AV.nils, AV.nils,
  AV.str z2.2.2.2.2.1, AV.int .i64 z2.2.2.2.2.2.1, AV.int .i64 z2.2.2.2.2.2.2.1, AV.str z2.2.2.2.2.2.2.2.1, AV.str z2.2.2.2.2.2.2.2.2.1, AV.nils, AV.sl shVal z2.2.2.2.2.2.2.2.2.2.1, AV.nils, AV.str z2.2.2.2.2.2.2.2.2.2.2.1, AV.int .i64 z2.2.2.2.2.2.2.2.2.2.2.2.1, AV.int .i64 z2.2.2.2.2.2.2.2.2.2.2.2.2.1, AV.str z2.2.2.2.2.2.2.2.2.2.2.2.2.2.1, AV.str z2.2.2.2.2.2.2.2.2.2.2.2.2.2.2.1,
  AV.nils, AV.str z2.2.2.2.2.2.2.2.2.2.2.2.2.2.2.2.1], AV.kb false]) []))))))
def t78p_15 (s12 : List UInt8) (i13 : Int) (z0 : CSem cpS) (z1 : CSem cpSz) (z2 : CSem cpSr) : Tr (H78p ⊕ Raw) :=
 let a0 := (↑(List.length z0.1.2.2.2.2.2.2.2.2.2.1) : Int)
 let a1 := [73, 78, 83, 69, 82, 84, 32, 73, 78, 84, 79, 32] ++ z0.1.2.1
 let a2 := a1 ++ [32, 86, 65, 76, 85, 69, 83, 32, 40, 32]
 let a3 := a2 ++ s12
 t78p_15z s12 i13 z0 z1 z2 a0 a1 a2 a3
def t78p_27z (s8 : TS) (b9 : Sem Sh.bool) (s14 : List UInt8) (i15 : Int) (z0 : CSem cpS) (_ : CSem cpSz) (z2 : CSem cpSu) (a0 : Int) (a1 : Bool) (a2 : Sem shSet) (a3 : Str) (a4 : Str) (a5 : Str) : Tr (H78p ⊕ Raw) :=
 Tr.br (decide (i15 < a0))
 (Tr.chk a1
  (Tr.chk (r5NameC a2.1) (Tr.br (!r5Name a2.1) (Tr.re (AV.tup [AV.str [], AV.agg [AV.str z2.1, AV.str z2.2.1, AV.str z2.2.2.1, AV.nils, AV.nils, AV.str z2.2.2.2.1, AV.nils, AV.nils, AV.str z2.2.2.2.2.1, AV.int .i64 z2.2.2.2.2.2.1, AV.int .i64 z2.2.2.2.2.2.2.1, AV.str z2.2.2.2.2.2.2.2.1, AV.str z2.2.2.2.2.2.2.2.2.1, AV.nils, AV.nils,
  AV.sl (Sh.str.pr Sh.expr) z2.2.2.2.2.2.2.2.2.2.1, AV.str (ExprT.op z2.2.2.2.2.2.2.2.2.2.2.1), AV.int .i64 (ExprT.v z2.2.2.2.2.2.2.2.2.2.2.1).1, AV.int .i64 (ExprT.v z2.2.2.2.2.2.2.2.2.2.2.1).2.1, AV.str (ExprT.v z2.2.2.2.2.2.2.2.2.2.2.1).2.2, AV.str (ExprT.s z2.2.2.2.2.2.2.2.2.2.2.1), AV.sl Sh.expr (ExprT.l z2.2.2.2.2.2.2.2.2.2.2.1), AV.str z2.2.2.2.2.2.2.2.2.2.2.2.1], AV.kb false]) [])
  (Tr.chk a1 Tr.err))))
 (Tr.chk (decide ([85, 80, 68, 65, 84, 69, 32].length + List.length z0.1.2.1 ≤ 1099511627776))
  (Tr.chk (decide (List.length a3 + [32, 83, 69, 84, 32].length ≤ 1099511627776)) (Tr.chk (decide (List.length a4 + s14.length ≤ 1099511627776)) (Tr.chk (decide (List.length a5 + List.length s8 ≤ 1099511627776)) (Tr.br b9 (Tr.br (decide (1 ≤ a0)) (Tr.re (AV.tup [AV.str (a5 ++ s8), AV.agg [AV.str z2.1, AV.str z2.2.1, AV.str z2.2.2.1, AV.nils, AV.nils, AV.str z2.2.2.2.1, AV.nils, AV.nils,
  AV.str z2.2.2.2.2.1, AV.int .i64 z2.2.2.2.2.2.1, AV.int .i64 z2.2.2.2.2.2.2.1, AV.str z2.2.2.2.2.2.2.2.1, AV.str z2.2.2.2.2.2.2.2.2.1, AV.nils, AV.nils, AV.sl (Sh.str.pr Sh.expr) z2.2.2.2.2.2.2.2.2.2.1, AV.str (ExprT.op z2.2.2.2.2.2.2.2.2.2.2.1), AV.int .i64 (ExprT.v z2.2.2.2.2.2.2.2.2.2.2.1).1, AV.int .i64 (ExprT.v z2.2.2.2.2.2.2.2.2.2.2.1).2.1, AV.str (ExprT.v z2.2.2.2.2.2.2.2.2.2.2.1).2.2,
  AV.str (ExprT.s z2.2.2.2.2.2.2.2.2.2.2.1), AV.sl Sh.expr (ExprT.l z2.2.2.2.2.2.2.2.2.2.2.1), AV.str z2.2.2.2.2.2.2.2.2.2.2.2.1], AV.bool (decide (a0 ≤ 8))]) []) (Tr.re (AV.tup [AV.str (a5 ++ s8), AV.agg [AV.str z2.1, AV.str z2.2.1, AV.str z2.2.2.1, AV.nils, AV.nils, AV.str z2.2.2.2.1, AV.nils, AV.nils, AV.str z2.2.2.2.2.1, AV.int .i64 z2.2.2.2.2.2.1, AV.int .i64 z2.2.2.2.2.2.2.1,
  AV.str z2.2.2.2.2.2.2.2.1, AV.str z2.2.2.2.2.2.2.2.2.1, AV.nils, AV.nils, AV.sl (Sh.str.pr Sh.expr) z2.2.2.2.2.2.2.2.2.2.1, AV.str (ExprT.op z2.2.2.2.2.2.2.2.2.2.2.1), AV.int .i64 (ExprT.v z2.2.2.2.2.2.2.2.2.2.2.1).1, AV.int .i64 (ExprT.v z2.2.2.2.2.2.2.2.2.2.2.1).2.1, AV.str (ExprT.v z2.2.2.2.2.2.2.2.2.2.2.1).2.2,
  AV.str (ExprT.s z2.2.2.2.2.2.2.2.2.2.2.1), AV.sl Sh.expr (ExprT.l z2.2.2.2.2.2.2.2.2.2.2.1), AV.str z2.2.2.2.2.2.2.2.2.2.2.2.1], AV.kb false]) [])) (Tr.re (AV.tup [AV.str (a5 ++ s8), AV.agg [AV.str z2.1, AV.str z2.2.1, AV.str z2.2.2.1, AV.nils, AV.nils, AV.str z2.2.2.2.1, AV.nils, AV.nils, AV.str z2.2.2.2.2.1, AV.int .i64 z2.2.2.2.2.2.1, AV.int .i64 z2.2.2.2.2.2.2.1,
  AV.str z2.2.2.2.2.2.2.2.1, AV.str z2.2.2.2.2.2.2.2.2.1, AV.nils, AV.nils, AV.sl (Sh.str.pr Sh.expr) z2.2.2.2.2.2.2.2.2.2.1, AV.str (ExprT.op z2.2.2.2.2.2.2.2.2.2.2.1), AV.int .i64 (ExprT.v z2.2.2.2.2.2.2.2.2.2.2.1).1, AV.int .i64 (ExprT.v z2.2.2.2.2.2.2.2.2.2.2.1).2.1, AV.str (ExprT.v z2.2.2.2.2.2.2.2.2.2.2.1).2.2, AV.str (ExprT.s z2.2.2.2.2.2.2.2.2.2.2.1),
  AV.sl Sh.expr (ExprT.l z2.2.2.2.2.2.2.2.2.2.2.1), AV.str z2.2.2.2.2.2.2.2.2.2.2.2.1], AV.kb false]) []))))))
def t78p_27 (s8 : TS) (b9 : Sem Sh.bool) (s14 : List UInt8) (i15 : Int) (z0 : CSem cpS) (z1 : CSem cpSz) (z2 : CSem cpSu) : Tr (H78p ⊕ Raw) :=
 let a0 := (↑(List.length z0.1.2.2.2.2.2.2.2.2.2.2.1) : Int)
 let a1 := inB i15 (List.length z0.1.2.2.2.2.2.2.2.2.2.2.1)
 let a2 := List.getD z0.1.2.2.2.2.2.2.2.2.2.2.1 i15.toNat (dflt shSet)
 let a3 := [85, 80, 68, 65, 84, 69, 32] ++ z0.1.2.1
 let a4 := a3 ++ [32, 83, 69, 84, 32]
 let a5 := a4 ++ s14
 t78p_27z s8 b9 s14 i15 z0 z1 z2 a0 a1 a2 a3 a4 a5
theorem go78p (x0 : Sem shStmt) : run env76 0 kp78p (Func.results Tryz.f78).toList 400 (bodyOf Tryz.f78) (initSt (Func.ntmps Tryz.f78) [datum shStmt x0] []) = (i78p x0).map (lf Tryz.f78 e78p) := by kernel_rfl
def t78p : H78p → Tr (H78p ⊕ Raw)
 | .h15 s12 i13 z0 z1 z2 => t78p_15 s12 i13 z0 z1 z2
 | .h27 s8 b9 s14 i15 z0 z1 z2 => t78p_27 s8 b9 s14 i15 z0 z1 z2
theorem on78p : ∀ s, run env76 0 kp78p (Func.results Tryz.f78).toList 400 (headK Tryz.f78 (e78p s).1) (e78p s).2 = (t78p s).map (lf Tryz.f78 e78p)
 | .h15 s12 i13 z0 z1 z2 => by kernel_rfl
 | .h27 s8 b9 s14 i15 z0 z1 z2 => by kernel_rfl
def r5writeO (x0 : Sem shStmt) : Option (HArgs (List.map some [Sh.str, shStmt, Sh.bool])) := outT [Sh.str, shStmt, Sh.bool] t78p 100000000 (i78p x0)
def r5writeC (x0 : Sem shStmt) : Bool := (r5writeO x0).isSome
def r5write (x0 : Sem shStmt) : Sem Sh.str × Sem shStmt × Sem Sh.bool := (fun r : HArgs (List.map some [Sh.str, shStmt, Sh.bool]) => (r.1, r.2.1, r.2.2.1)) ((r5writeO x0).getD (dfltH [Sh.str, shStmt, Sh.bool]))
def F78p : FSem := plainC [shStmt] [Sh.str, shStmt, Sh.bool] (fun x => r5writeC x.1) fun x => ((r5write x.1).1, (r5write x.1).2.1, (r5write x.1).2.2, ())
theorem FOk78p : FOk env76.P env76.gl 78 F78p := FOk_T1 (ks := [shStmt]) (outs := [Sh.str, shStmt, Sh.bool]) (keep := kp78p) (gas := 400) (n := 100000000) (e := e78p) (t := t78p) (i := fun x => i78p x.1) env76_all env76_mix ok78p (fun x => go78p x.1) on78p (fun _ => by kernel_rfl) (fun _ => by kernel_rfl)

def env77 : Env := (env76.add 78 F78p)
theorem env77_all : EnvAll env77 := (EnvAll.addS env76_all (SameE.refl env76) FOk78p)
theorem env77_mix : env77.P.follows .mixedOrders = true := (mix_add env76_mix _ _)
end
open Go Go.Proofs
noncomputable section
set_option maxHeartbeats 4000000

abbrev kp39p : Nat → Keep := fun _ => { }
theorem ok39p : fnChk env77.P 39 Tryz.f39 1 := by refine ⟨?_, ?_, ?_, ?_⟩ <;> kernel_rfl
def i39pz (x0 : Sem shStmt) (a0 : Sem Sh.str × Sem (Sh.str.pr (Sh.str.pr (Sh.str.sl.pr (shCol.sl.pr (Sh.str.pr (Sh.str.sl.pr (shRef.sl.pr (Sh.expr.pr (shVal.sl.pr (shSet.sl.pr (Sh.expr.pr Sh.str)))))))))))) (a1 : Sem Sh.str × Sem shStmt × Sem Sh.bool) (a2 : Bool) (a3 : Bool) (a4 : Sem Sh.str × Sem (Sh.str.pr (Sh.str.pr (Sh.str.sl.pr (shCol.sl.pr (Sh.str.pr (Sh.str.sl.pr (shRef.sl.pr (Sh.expr.pr (shVal.sl.pr (shSet.sl.pr (Sh.expr.pr Sh.str)))))))))))) (a5 : Sem shFor.sl × Sem Sh.bool) : Tr (Empty ⊕ Raw) :=
 Tr.chk (r5writeC a0)
 (Tr.chk (bif a2 then true else r5NameC x0.2.1 && bif a3 then true else r5SameC a4 a0)
  (Tr.br (bif a2 then true else bif a3 then true else !r5Same a4 a0) (Tr.re (AV.tup [AV.str [], AV.kb false]) []) (Tr.chk (r3CutC a1.1) (Tr.br (!a5.2) (Tr.re (AV.tup [AV.str [], AV.kb false]) []) (Tr.re (AV.tup [AV.str a1.1, AV.kb true]) [])))))
def i39p (x0 : Sem shStmt) : Tr (Empty ⊕ Raw) :=
 let a0 := (x0.1, x0.2.1, x0.2.2.1, x0.2.2.2.1, x0.2.2.2.2.1, x0.2.2.2.2.2.1, x0.2.2.2.2.2.2.1, x0.2.2.2.2.2.2.2.1, etaE x0.2.2.2.2.2.2.2.2.1, x0.2.2.2.2.2.2.2.2.2.1, x0.2.2.2.2.2.2.2.2.2.2.1, etaE x0.2.2.2.2.2.2.2.2.2.2.2.1, x0.2.2.2.2.2.2.2.2.2.2.2.2)
 let a1 := r5write a0
 let a2 := !a1.2.2
 let a3 := !r5Name x0.2.1
 let a4 := (a1.2.1.1, a1.2.1.2.1, a1.2.1.2.2.1, a1.2.1.2.2.2.1, a1.2.1.2.2.2.2.1, a1.2.1.2.2.2.2.2.1, a1.2.1.2.2.2.2.2.2.1, a1.2.1.2.2.2.2.2.2.2.1, etaE a1.2.1.2.2.2.2.2.2.2.2.1, a1.2.1.2.2.2.2.2.2.2.2.2.1, a1.2.1.2.2.2.2.2.2.2.2.2.2.1, etaE a1.2.1.2.2.2.2.2.2.2.2.2.2.2.1, a1.2.1.2.2.2.2.2.2.2.2.2.2.2.2)
 let a5 := r3Cut a1.1
 i39pz x0 a0 a1 a2 a3 a4 a5
theorem go39p (x0 : Sem shStmt) : run env77 0 kp39p (Func.results Tryz.f39).toList 400 (bodyOf Tryz.f39) (initSt (Func.ntmps Tryz.f39) [datum shStmt x0] []) = (i39p x0).map (lf Tryz.f39 e0) := by kernel_rfl
def r5TextO (x0 : Sem shStmt) : Option (HArgs (List.map some [Sh.str, Sh.bool])) := outT [Sh.str, Sh.bool] t0 100000000 (i39p x0)
def r5TextC (x0 : Sem shStmt) : Bool := (r5TextO x0).isSome
def r5Text (x0 : Sem shStmt) : Sem Sh.str × Sem Sh.bool := (fun r : HArgs (List.map some [Sh.str, Sh.bool]) => (r.1, r.2.1)) ((r5TextO x0).getD (dfltH [Sh.str, Sh.bool]))
def F39p : FSem := plainC [shStmt] [Sh.str, Sh.bool] (fun x => r5TextC x.1) fun x => ((r5Text x.1).1, (r5Text x.1).2, ())
theorem FOk39p : FOk env77.P env77.gl 39 F39p := FOk_T1 (ks := [shStmt]) (outs := [Sh.str, Sh.bool]) (keep := kp39p) (gas := 400) (n := 100000000) (e := e0) (t := t0) (i := fun x => i39p x.1) env77_all env77_mix ok39p (fun x => go39p x.1) (on0 _ _ _ _ _) (fun _ => by kernel_rfl) (fun _ => by kernel_rfl)

def env78 : Env := (env77.add 39 F39p)
theorem env78_all : EnvAll env78 := (EnvAll.addS env77_all (SameE.refl env77) FOk39p)
theorem env78_mix : env78.P.follows .mixedOrders = true := (mix_add env77_mix _ _)
end
open Go

theorem HpOk.cells {C : Ctx} {w : World} {U : Nat → Prop} {ρ : Nat → Option Value} {hp : Nat → AO} {k : Nat} {cs cs' : List AV} (hH : HpOk C w U ρ hp) (hk : hp k = .box cs)
  (hr : ∀ vals, RvL w U ρ cs vals → RvL w U ρ cs' vals) : HpOk C w U ρ (fun j => if j = k then .box cs' else hp j) := by
 have hown : ∀ id b, ownsB ρ id (if id = k then .box cs' else hp id) b → ownsB ρ id (hp id) b := by
  intro id b ho
  by_cases hid : id = k
  ·subst hid
   rw [if_pos rfl] at ho
   rw [hk]
   obtain ⟨_, v, hv, hb⟩ := ho
   exact ⟨rfl, v, hv, hb⟩
  ·rw [if_neg hid] at ho; exact ho
 refine ⟨fun id => ?_, fun id1 id2 b o1 o2 => hH.inj id1 id2 b (hown _ _ o1) (hown _ _ o2), fun id b o => hH.blk id b (hown _ _ o)⟩
 by_cases hid : id = k
 ·subst hid
  have h0 := hH.ob id
  rw [hk] at h0
  obtain ⟨b, T, vals, h1, h2, h3, h4, h5⟩ := h0
  simp only [if_true]
  exact ⟨b, T, vals, h1, h2, h3, hr _ h4, h5⟩
 ·simp only [if_neg hid]
  exact hH.ob id

def cpHeap2 (ps qs : List CP) (y : CSem ps) (z : CSem qs) : List AO := .box (cpCells 2 ps y) :: .box (cpCells (2 + cpCount ps) qs z) :: (cpObjs ps y ++ cpObjs qs z)

theorem cpHeap2_length (ps qs : List CP) (y : CSem ps) (z : CSem qs) : (cpHeap2 ps qs y z).length = cpCount ps + cpCount qs + 2 := by
 simp [cpHeap2, cpObjs_length]

theorem HpOk.box2 {C : Ctx} {w : World} {U : Nat → Prop} {ρ : Nat → Option Value} {cs ds : List AV} {os : List AO} {ps qs : List CP} {y : CSem ps} {z : CSem qs} (hH : HpOk C w U ρ (fun j => ((AO.box cs :: AO.box ds :: os).getD j .dead))) (hl : os.length = cpCount ps + cpCount qs)
  (hm : cpMatch (hpOf (.box cs :: .box ds :: os)) 2 ps cs = some y) (hm2 : cpMatch (hpOf (.box cs :: .box ds :: os)) (2 + cpCount ps) qs ds = some z) : HpOk C w U ρ (fun j => (cpHeap2 ps qs y z).getD j .dead) := by
 have h1 := hH.cells (k := 0) (cs := cs) (cs' := cpCells 2 ps y) rfl (fun vals h => (cpMatch_ok ps 2 cs y vals hm h).1)
 have h2 := h1.cells (k := 1) (cs := ds) (cs' := cpCells (2 + cpCount ps) qs z) rfl (fun vals h => (cpMatch_ok qs _ ds z vals hm2 h).1)
 obtain ⟨b0, T0, v0, _, _, _, r0, _⟩ := hH.ob 0
 obtain ⟨b1, T1, v1, _, _, _, r1, _⟩ := hH.ob 1
 have k1 := (cpMatch_ok ps 2 cs y v0.toList hm r0).2
 have k2 := (cpMatch_ok qs _ ds z v1.toList hm2 r1).2
 have e : (fun j => (cpHeap2 ps qs y z).getD j .dead) = fun j => if j = 1 then .box (cpCells (2 + cpCount ps) qs z) else if j = 0 then .box (cpCells 2 ps y) else (AO.box cs :: AO.box ds :: os).getD j .dead := by
  funext j
  match j with
  | 0 => rfl
  | 1 => rfl
  | j + 2 =>
   rw [if_neg (by omega), if_neg (by omega)]
   simp only [cpHeap2, List.getD_cons_succ]
   by_cases hj : j < cpCount ps
   ·have hj' : j < (cpObjs ps y).length := by rw [cpObjs_length]; exact hj
    have := k1 j _ (List.getElem?_eq_getElem hj')
    simp only [hpOf, Nat.add_comm 2 j, List.getD_cons_succ] at this
    rw [this, List.getD_eq_getElem?_getD, List.getElem?_append_left hj', List.getElem?_eq_getElem hj']
    rfl
   ·by_cases hj2 : j < cpCount ps + cpCount qs
    ·have hj' : j - cpCount ps < (cpObjs qs z).length := by rw [cpObjs_length]; omega
     have := k2 (j - cpCount ps) _ (List.getElem?_eq_getElem hj')
     rw [show 2 + cpCount ps + (j - cpCount ps) = j + 2 by omega] at this
     simp only [hpOf, List.getD_cons_succ] at this
     rw [this, List.getD_eq_getElem?_getD, List.getElem?_append_right (by rw [cpObjs_length]; omega), cpObjs_length, List.getElem?_eq_getElem hj']
     rfl
    ·rw [List.getD_eq_getElem?_getD, List.getD_eq_getElem?_getD, List.getElem?_eq_none (by simp [cpObjs_length]; omega), List.getElem?_eq_none (by omega)]
 rw [e]
 exact h2

def boxRes2 (ps qs : List CP) (outs : List Sh) (r : AV) (h : List AO) : Option (HArgs (outs.map some) × CSem ps × CSem qs) := match h with
 | .box cs :: .box ds :: os => if os.length = cpCount ps + cpCount qs then match resOf [] outs r, cpMatch (hpOf (.box cs :: .box ds :: os)) 2 ps cs, cpMatch (hpOf (.box cs :: .box ds :: os)) (2 + cpCount ps) qs ds with
   | some a, some y, some z => some (a, y, z)
   | _, _, _ => none
  else none
 | _ => none

def box2G (ps qs : List CP) (ks outs : List Sh) (ps' qs' : List CP) (c : CSem ps → CSem qs → HArgs (ks.map some) → Bool) (g : CSem ps → CSem qs → HArgs (ks.map some) → HArgs (outs.map some) × CSem ps' × CSem qs') : GSem (none :: none :: ks.map some) := fun x h => match x.1, x.2.1, h with
 | .ptr 0 0, .ptr 1 0, .box cs :: .box ds :: os => if os.length = cpCount ps + cpCount qs then match cpMatch (hpOf (.box cs :: .box ds :: os)) 2 ps cs, cpMatch (hpOf (.box cs :: .box ds :: os)) (2 + cpCount ps) qs ds with
   | some y, some z => .chk (c y z x.2.2) (.ok (resAV outs (g y z x.2.2).1, cpHeap2 ps' qs' (g y z x.2.2).2.1 (g y z x.2.2).2.2))
   | _, _ => .err
  else .err
 | _, _, _ => .err

def box2F (ps qs : List CP) (ks outs : List Sh) (ps' qs' : List CP) (c : CSem ps → CSem qs → HArgs (ks.map some) → Bool) (g : CSem ps → CSem qs → HArgs (ks.map some) → HArgs (outs.map some) × CSem ps' × CSem qs') : FSem := liftF (none :: none :: ks.map some) (box2G ps qs ks outs ps' qs' c g)

theorem FOk_box2 {E : Env} {k : FuncId} {f : Func} {ps qs : List CP} {ks outs : List Sh} {ps' qs' : List CP} {c : CSem ps → CSem qs → HArgs (ks.map some) → Bool} {g : CSem ps → CSem qs → HArgs (ks.map some) → HArgs (outs.map some) × CSem ps' × CSem qs'} (hf : fnChk E.P k f (ks.length + 2))
  (h : ∀ y z x, c y z x = true → ∀ C : Ctx, (∀ id, cpCount ps + cpCount qs + 2 ≤ id → C.ρ0 id = none) → Reach E C k (bodyOf f) (initSt f.ntmps (.ptr 0 0 :: .ptr 1 0 :: avs (ks.map some) x) (cpHeap2 ps qs y z)) (fun r h => boxRes2 ps' qs' outs r h = some (g y z x))) :
  FOk E.P E.gl k (box2F ps qs ks outs ps' qs' c g) := by
 refine FOk_of (by simpa using hf) fun x h0 res hx C hC => ?_
 obtain ⟨x0, x1, x⟩ := x
 unfold box2G at hx
 simp only at hx
 split at hx
 ·rename_i cs ds os
  split at hx
  ·rename_i hos
   split at hx
   ·rename_i y z hy hz
    simp only [Tr.val] at hx
    split at hx
    ·rename_i hc
     simp only [Option.some.injEq] at hx
     subst hx
     have hR := h y z x hc C (fun id hid => hC id (by simpa [hos] using hid))
     intro b cs' a w U ρ h1 h2 hcn hW
     have hH : HpOk C w U ρ (fun j => ((AO.box cs :: AO.box ds :: os).getD j .dead)) := hcn.hp
     have hcn' : Cn C (initSt f.ntmps (.ptr 0 0 :: .ptr 1 0 :: avs (ks.map some) x) (cpHeap2 ps qs y z)) a w U ρ :=
      ⟨hcn.tm, hH.box2 hos hy hz, fun id hid => hcn.new id (by have hid : (cpHeap2 ps qs y z).length ≤ id := hid; rw [cpHeap2_length] at hid; simpa [initSt, hos] using hid), hcn.df, hcn.r0⟩
     obtain ⟨e, w', fr, ⟨v, r, h', U', ρ', he, hq, hrv, hH', hnew, hr0, hWd⟩, hcm, hf', hl⟩ := hR b cs' a w U ρ h1 h2 hcn' hW
     unfold boxRes2 at hq
     split at hq
     ·rename_i cs2 ds2 os2
      split at hq
      ·rename_i hos2
       split at hq
       ·rename_i a' y' z' ha' hy' hz'
        simp only [Option.some.injEq] at hq
        refine ⟨e, w', fr, ⟨v, _, _, U', ρ', he, by rw [← hq], resOf_nil ha' hrv, hH'.box2 hos2 hy' hz', fun id hid => hnew id (by rw [cpHeap2_length] at hid; simpa [hos2] using hid), hr0, hWd⟩, hcm, hf', hl⟩
       ·cases hq
      ·cases hq
     ·cases hq
    ·simp at hx
   ·simp at hx
  ·simp at hx
 ·simp at hx

def outB2 {σ : Type} (outs : List Sh) (ps' qs' : List CP) (t : σ → Tr (σ ⊕ Raw)) (n : Nat) (i : Tr (σ ⊕ Raw)) : Option (HArgs (outs.map some) × CSem ps' × CSem qs') := (runT t n i).bind fun r => boxRes2 ps' qs' outs r.1 r.2

theorem FOk_B2 {σ : Type} {E : Env} {k : FuncId} {f : Func} {ps qs : List CP} {ks outs : List Sh} {ps' qs' : List CP} {keep : Nat → Keep} {gas n : Nat} {e : σ → Nat × St} {t : σ → Tr (σ ⊕ Raw)} {i : CSem ps → CSem qs → HArgs (ks.map some) → Tr (σ ⊕ Raw)} {c : CSem ps → CSem qs → HArgs (ks.map some) → Bool} {g : CSem ps → CSem qs → HArgs (ks.map some) → HArgs (outs.map some) × CSem ps' × CSem qs'}
  (hE : EnvAll E) (hm : E.P.follows .mixedOrders = true) (hf : fnChk E.P k f (ks.length + 2)) (hgo : ∀ y z x, run E (cpCount ps + cpCount qs + 2) keep f.results.toList gas (bodyOf f) (initSt f.ntmps (.ptr 0 0 :: .ptr 1 0 :: avs (ks.map some) x) (cpHeap2 ps qs y z)) = (i y z x).map (lf f e))
  (hon : ∀ s, run E (cpCount ps + cpCount qs + 2) keep f.results.toList gas (headK f (e s).1) (e s).2 = (t s).map (lf f e))
  (hc : ∀ y z x, c y z x = (outB2 outs ps' qs' t n (i y z x)).isSome) (hg : ∀ y z x, g y z x = (outB2 outs ps' qs' t n (i y z x)).getD (dfltH outs, dfltC ps', dfltC qs')) : FOk E.P E.gl k (box2F ps qs ks outs ps' qs' c g) := by
 refine FOk_box2 hf fun y z x hcx C hC => ?_
 rw [hc, Option.isSome_iff_exists] at hcx
 obtain ⟨u, hu⟩ := hcx
 rw [hg, hu]
 unfold outB2 at hu
 rw [Option.bind_eq_some_iff] at hu
 obtain ⟨r, h1, h2⟩ := hu
 exact iterR_ok (Q := fun r h => boxRes2 ps' qs' outs r h = some u) hE hm hf hC (n + 1) _ _ r (by rw [iterR_runT hon (hgo y z x)]; exact h1) h2

end Cad
