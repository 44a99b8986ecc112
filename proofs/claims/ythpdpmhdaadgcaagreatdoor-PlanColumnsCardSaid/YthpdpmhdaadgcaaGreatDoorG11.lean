/- Which tables may be. What is asked of tables holds. Which rows fit. What is asked of rows holds. The library's functions over texts. slices.Clone: what it answers is memory of its own. schema.copied is its argument, of what is not too deep. Functions from plain data and a function to plain data. Statements: words of columns, tokens. Statements: parts. -/
import Derived.Test.YthpdpmhdaadgcaaGreatDoorG10
import Derived.Test.YthpdpmhdaadgcaaGreatDoorG09
namespace Cad
open Go Go.Proofs

abbrev kp8 : Nat → Keep := fun j => if j = 4 then { slots := [1, 27, 28, 29] } else if j = 11 then { slots := [1, 5, 59, 60, 61] } else if j = 17 then { slots := [1, 5, 71, 72, 73] } else { }
abbrev s8_4 (l27 : LC) (i28 : Int) (i29 : Int) (ja0 : TS) (ja1 : LC) (ja2 : Sem shInt) (ja3 : LI) (ja4 : LF) (ja5 : Str) (ja6 : Int) (ja7 : Int) (ja8 : Str) (ja9 : Str) (ja10 : LX) : St := { tmps := [ny, AV.ptr 0 0, ny, ny, ny, ny, ny, ny, ny, ny, ny, ny, ny, ny, ny, ny, ny, ny, ny, ny, ny, ny, ny, ny, ny, ny, ny, AV.sl shCol l27, ai i28, ai i29, ny, ny, ny, ny, ny, ny, ny, ny, ny, ny, ny, ny, ny, ny, ny, ny, ny, ny, ny, ny, ny, ny, ny, ny, ny, ny, ny, ny, ny, ny, ny, ny, ny, ny, ny, ny, ny, ny, ny, ny, ny, ny, ny, ny, ny, ny, ny, ny, ny, ny, ny, ny, ny, ny, ny, ny, ny, ny, ny, ny, ny, ny, ny, ny, ny, ny, ny, ny, ny, ny, ny, ny, ny, ny, ny, ny, ny, ny, ny, ny], heap := [AO.box [AV.str ja0, AV.sl shCol ja1, ai ja2, AV.sl shInt ja3, AV.sl shFor ja4, AV.str ja5, ai ja6, ai ja7, AV.str ja8, AV.str ja9, AV.sl Sh.expr ja10]] }
theorem ok8 : fnChk (env28).P 18 Tryz.f18 1 := by refine ⟨?_, ?_, ?_, ?_⟩ <;> kernel_rfl
theorem go8 (x0 : Sem shTable) : run (env28) 0 kp8 (Func.results Tryz.f18).toList 400 (bodyOf Tryz.f18) (initSt (Func.ntmps Tryz.f18) [datum shTable x0] []) = Tr.br (bif !nameOk x0.1 then true else bif decide ((↑(List.length x0.2.1) : Int) < 1) then true else decide ((↑(List.length x0.2.1) : Int) > 8)) (Tr.ok (Leaf.ret (AV.kb false) [])) (Tr.ok (Leaf.head 4 (headK Tryz.f18 4) (s8_4 x0.2.1 (↑(List.length x0.2.1) : Int) 0 x0.1 x0.2.1 x0.2.2.1 x0.2.2.2.1 x0.2.2.2.2.1 (ExprT.op x0.2.2.2.2.2) (ExprT.v x0.2.2.2.2.2).1 (ExprT.v x0.2.2.2.2.2).2.1 (ExprT.v x0.2.2.2.2.2).2.2 (ExprT.s x0.2.2.2.2.2) (ExprT.l x0.2.2.2.2.2)))) := by kernel_rfl
abbrev s8_11 (l59 : LI) (i60 : Int) (i61 : Int) (ja0 : TS) (ja1 : LC) (ja2 : Sem shInt) (ja3 : LI) (ja4 : LF) (ja5 : Str) (ja6 : Int) (ja7 : Int) (ja8 : Str) (ja9 : Str) (ja10 : LX) : St := { tmps := [ny, AV.ptr 0 0, ny, ny, ny, AV.clo (Fn.func 47) [] [AV.ptr 0 0], ny, ny, ny, ny, ny, ny, ny, ny, ny, ny, ny, ny, ny, ny, ny, ny, ny, ny, ny, ny, ny, ny, ny, ny, ny, ny, ny, ny, ny, ny, ny, ny, ny, ny, ny, ny, ny, ny, ny, ny, ny, ny, ny, ny, ny, ny, ny, ny, ny, ny, ny, ny, ny, AV.sl shInt l59, ai i60, ai i61, ny, ny, ny, ny, ny, ny, ny, ny, ny, ny, ny, ny, ny, ny, ny, ny, ny, ny, ny, ny, ny, ny, ny, ny, ny, ny, ny, ny, ny, ny, ny, ny, ny, ny, ny, ny, ny, ny, ny, ny, ny, ny, ny, ny, ny, ny, ny, ny], heap := [AO.box [AV.str ja0, AV.sl shCol ja1, ai ja2, AV.sl shInt ja3, AV.sl shFor ja4, AV.str ja5, ai ja6, ai ja7, AV.str ja8, AV.str ja9, AV.sl Sh.expr ja10]] }
theorem on8_4 (l27 : LC) (i28 : Int) (i29 : Int) (ja0 : TS) (ja1 : LC) (ja2 : Sem shInt) (ja3 : LI) (ja4 : LF) (ja5 : Str) (ja6 : Int) (ja7 : Int) (ja8 : Str) (ja9 : Str) (ja10 : LX) : run (env28) 0 kp8 (Func.results Tryz.f18).toList 400 (headK Tryz.f18 4) (s8_4 l27 i28 i29 ja0 ja1 ja2 ja3 ja4 ja5 ja6 ja7 ja8 ja9 ja10) = Tr.br (decide (i29 < i28)) (Tr.chk (inB i29 l27.length) (Tr.br (bif !nameOk (l27.getD i29.toNat (dflt shCol)).1 then true else bif decide ((l27.getD i29.toNat (dflt shCol)).2.1 < 1) then true else bif decide ((l27.getD i29.toNat (dflt shCol)).2.1 > 3) then true else tPlace (ja0, ja1, ja2, ja3, ja4, ExprT.mk ja5 (ja6, ja7, ja8) ja9 ja10) (l27.getD i29.toNat (dflt shCol)).1 != i29) (Tr.ok (Leaf.ret (AV.kb false) [])) (Tr.ok (Leaf.head 4 (headK Tryz.f18 4) (s8_4 l27 i28 (IntKind.i64.wrap (i29 + 1)) ja0 ja1 ja2 ja3 ja4 ja5 ja6 ja7 ja8 ja9 ja10))))) (Tr.ok (Leaf.head 11 (headK Tryz.f18 11) (s8_11 ja3 (↑ja3.length : Int) 0 ja0 ja1 ja2 ja3 ja4 ja5 ja6 ja7 ja8 ja9 ja10))) := by kernel_rfl
abbrev s8_17 (l71 : LF) (i72 : Int) (i73 : Int) (ja0 : TS) (ja1 : LC) (ja2 : Sem shInt) (ja3 : LI) (ja4 : LF) (ja5 : Str) (ja6 : Int) (ja7 : Int) (ja8 : Str) (ja9 : Str) (ja10 : LX) : St := { tmps := [ny, AV.ptr 0 0, ny, ny, ny, AV.clo (Fn.func 47) [] [AV.ptr 0 0], ny, ny, ny, ny, ny, ny, ny, ny, ny, ny, ny, ny, ny, ny, ny, ny, ny, ny, ny, ny, ny, ny, ny, ny, ny, ny, ny, ny, ny, ny, ny, ny, ny, ny, ny, ny, ny, ny, ny, ny, ny, ny, ny, ny, ny, ny, ny, ny, ny, ny, ny, ny, ny, ny, ny, ny, ny, ny, ny, ny, ny, ny, ny, ny, ny, AV.sl shFor l71, ai i72, ai i73, ny, ny, ny, ny, ny, ny, ny, ny, ny, ny, ny, ny, ny, ny, ny, ny, ny, ny, ny, ny, ny, ny, ny, ny, ny, ny, ny, ny, ny, ny, ny, ny, ny, ny, ny, ny], heap := [AO.box [AV.str ja0, AV.sl shCol ja1, ai ja2, AV.sl shInt ja3, AV.sl shFor ja4, AV.str ja5, ai ja6, ai ja7, AV.str ja8, AV.str ja9, AV.sl Sh.expr ja10]] }
theorem on8_11 (l59 : LI) (i60 : Int) (i61 : Int) (ja0 : TS) (ja1 : LC) (ja2 : Sem shInt) (ja3 : LI) (ja4 : LF) (ja5 : Str) (ja6 : Int) (ja7 : Int) (ja8 : Str) (ja9 : Str) (ja10 : LX) : run (env28) 0 kp8 (Func.results Tryz.f18).toList 400 (headK Tryz.f18 11) (s8_11 l59 i60 i61 ja0 ja1 ja2 ja3 ja4 ja5 ja6 ja7 ja8 ja9 ja10) = Tr.br (decide (i61 < i60)) (Tr.chk (inB i61 l59.length) (Tr.br (!bif decide (l59.getD i61.toNat (dflt shInt) ≥ 0) then decide (l59.getD i61.toNat (dflt shInt) < (↑ja1.length : Int)) else false) (Tr.ok (Leaf.ret (AV.kb false) [])) (Tr.ok (Leaf.head 11 (headK Tryz.f18 11) (s8_11 l59 i60 (IntKind.i64.wrap (i61 + 1)) ja0 ja1 ja2 ja3 ja4 ja5 ja6 ja7 ja8 ja9 ja10))))) (Tr.ok (Leaf.head 17 (headK Tryz.f18 17) (s8_17 ja4 (↑ja4.length : Int) 0 ja0 ja1 ja2 ja3 ja4 ja5 ja6 ja7 ja8 ja9 ja10))) := by kernel_rfl
theorem on8_17 (l71 : LF) (i72 : Int) (i73 : Int) (ja0 : TS) (ja1 : LC) (ja2 : Sem shInt) (ja3 : LI) (ja4 : LF) (ja5 : Str) (ja6 : Int) (ja7 : Int) (ja8 : Str) (ja9 : Str) (ja10 : LX) : run (env28) 0 kp8 (Func.results Tryz.f18).toList 400 (headK Tryz.f18 17) (s8_17 l71 i72 i73 ja0 ja1 ja2 ja3 ja4 ja5 ja6 ja7 ja8 ja9 ja10) = Tr.br (decide (i73 < i72)) (Tr.chk (inB i73 l71.length) (Tr.br (!bif decide ((l71.getD i73.toNat (dflt shFor)).1 ≥ 0) then decide ((l71.getD i73.toNat (dflt shFor)).1 < (↑ja1.length : Int)) else false) (Tr.ok (Leaf.ret (AV.kb false) [])) (Tr.br (!nameOk (l71.getD i73.toNat (dflt shFor)).2) (Tr.ok (Leaf.ret (AV.kb false) [])) (Tr.ok (Leaf.head 17 (headK Tryz.f18 17) (s8_17 l71 i72 (IntKind.i64.wrap (i73 + 1)) ja0 ja1 ja2 ja3 ja4 ja5 ja6 ja7 ja8 ja9 ja10)))))) (Tr.br (bif decide (ja2 ≥ 0) then decide (ja2 < (↑ja1.length : Int)) else false) (Tr.chk (inB ja2 ja1.length) (Tr.br (ja1.getD (Int.toNat ja2) (dflt shCol)).2.2 (Tr.ok (Leaf.ret (AV.bool (sCheck (ExprT.mk ja5 (ja6, ja7, ja8) ja9 ja10) ja1 == 0)) [])) (Tr.ok (Leaf.ret (AV.kb false) [])))) (Tr.ok (Leaf.ret (AV.kb false) []))) := by kernel_rfl
def tMay_17 (ja0 : TS) (ja1 : LC) (ja2 : Sem shInt) (ja3 : LI) (ja4 : LF) (ja5 : Str) (ja6 : Int) (ja7 : Int) (ja8 : Str) (ja9 : Str) (ja10 : LX) : List (Sem shFor) → Int → Sem Sh.bool
 | [], _ => (if (bif decide (ja2 ≥ 0) then decide (ja2 < (↑ja1.length : Int)) else false) = true then
 if (ja1.getD (Int.toNat ja2) (dflt shCol)).2.2 = true then
  sCheck (ExprT.mk ja5 (ja6, ja7, ja8) ja9 ja10) ja1 == 0
 else false
else false)
 | x :: r, i73 => (if (!bif decide (x.1 ≥ 0) then decide (x.1 < (↑ja1.length : Int)) else false) = true then false
else if (!nameOk x.2) = true then false else tMay_17 ja0 ja1 ja2 ja3 ja4 ja5 ja6 ja7 ja8 ja9 ja10 r (i73 + 1))
def tMayC_17 (ja0 : TS) (ja1 : LC) (ja2 : Sem shInt) (ja3 : LI) (ja4 : LF) (ja5 : Str) (ja6 : Int) (ja7 : Int) (ja8 : Str) (ja9 : Str) (ja10 : LX) : List (Sem shFor) → Int → Bool
 | [], _ => (if (bif decide (ja2 ≥ 0) then decide (ja2 < (↑ja1.length : Int)) else false) = true then if inB ja2 ja1.length = true then true else false
else true)
 | x :: r, i73 => (if (!bif decide (x.1 ≥ 0) then decide (x.1 < (↑ja1.length : Int)) else false) = true then true
else if (!nameOk x.2) = true then true else tMayC_17 ja0 ja1 ja2 ja3 ja4 ja5 ja6 ja7 ja8 ja9 ja10 r (i73 + 1))
theorem at8_17 {C : Ctx} (hC : ∀ id, C.ρ0 id = none) (ja0 : TS) (ja1 : LC) (ja2 : Sem shInt) (ja3 : LI) (ja4 : LF) (ja5 : Str) (ja6 : Int) (ja7 : Int) (ja8 : Str) (ja9 : Str) (ja10 : LX) (l71 : LF) (hl : l71.length ≤ maxStr) : ∀ (m i : Nat), l71.length - i = m → i ≤ l71.length → tMayC_17 ja0 ja1 ja2 ja3 ja4 ja5 ja6 ja7 ja8 ja9 ja10 (l71.drop i) i = true →
  Reach (env28) C 18 (headK Tryz.f18 17) (s8_17 l71 (l71.length : Int) (i : Int) ja0 ja1 ja2 ja3 ja4 ja5 ja6 ja7 ja8 ja9 ja10) (fun r h => resOf h [Sh.bool] r = some (tMay_17 ja0 ja1 ja2 ja3 ja4 ja5 ja6 ja7 ja8 ja9 ja10 (l71.drop i) i, ())) := by
 intro m
 induction m with
 | zero =>
  intro i hm hi hc
  obtain rfl : i = l71.length := by omega
  rw [List.drop_length] at hc ⊢
  refine reach_ok env28_all env28_mix (ok8) (fun id _ => hC id) (on8_17 _ _ _ _ _ _ _ _ _ _ _ _ _ _) ?_
  rw [tMayC_17] at hc
  generalize hy : tMay_17 ja0 ja1 ja2 ja3 ja4 ja5 ja6 ja7 ja8 ja9 ja10 [] _ = y
  rw [tMay_17] at hy
  simp only [lt_dec', Tr.val_brF]
  repeat' (first | with_reducible refine obr hy hc (fun _ hy hc => ?_) (fun _ hy hc => ?_) | with_reducible refine obr1 hy (fun _ hy => ?_) (fun _ hy => ?_) | with_reducible refine ochk hc (fun hc => ?_) | with_reducible refine OptOk_chkT ?_)
  all_goals (subst hy; first | (change Reach _ _ _ _ _ _; apply at8_4s hC <;> first | assumption | exact hc) | (change Reach _ _ _ _ _ _; apply at8_11s hC <;> first | assumption | exact hc) | rfl)
 | succ m IH =>
  intro i hm hi hc
  have hlt : i < l71.length := by omega
  have IH := IH (i + 1)
  have hcast : ((i : Int) + 1) = ((i + 1 : Nat) : Int) := by omega
  have hwr := wrap_add i (by omega)
  rw [List.drop_eq_getElem_cons hlt] at hc ⊢
  refine reach_ok env28_all env28_mix (ok8) (fun id _ => hC id) (on8_17 _ _ _ _ _ _ _ _ _ _ _ _ _ _) ?_
  rw [tMayC_17] at hc
  generalize hy : tMay_17 ja0 ja1 ja2 ja3 ja4 ja5 ja6 ja7 ja8 ja9 ja10 (l71[i] :: l71.drop (i + 1)) (i : Int) = y
  rw [tMay_17] at hy
  simp only [lt_dec hlt, inB_of hlt, getD_at l71 _ hlt, hwr, Tr.val_brT, Tr.val_chkT]
  clear hwr
  simp only [hcast] at hy
  try simp only [hcast] at hc
  repeat' (first | with_reducible refine obr hy hc (fun _ hy hc => ?_) (fun _ hy hc => ?_) | with_reducible refine obr1 hy (fun _ hy => ?_) (fun _ hy => ?_) | with_reducible refine ochk hc (fun hc => ?_) | with_reducible refine OptOk_chkT ?_)
  all_goals (subst hy; first | (change Reach _ _ _ _ _ _; apply IH <;> first | omega | assumption) | (change Reach _ _ _ _ _ _; apply at8_4s hC <;> first | assumption | exact hc) | (change Reach _ _ _ _ _ _; apply at8_11s hC <;> first | assumption | exact hc) | rfl)
theorem at8_17s {C : Ctx} (hC : ∀ id, C.ρ0 id = none) (ja0 : TS) (ja1 : LC) (ja2 : Sem shInt) (ja3 : LI) (ja4 : LF) (ja5 : Str) (ja6 : Int) (ja7 : Int) (ja8 : Str) (ja9 : Str) (ja10 : LX) (l71 : LF) (hc : tMayC_17 ja0 ja1 ja2 ja3 ja4 ja5 ja6 ja7 ja8 ja9 ja10 l71 0 = true) :
  Reach (env28) C 18 (headK Tryz.f18 17) (s8_17 l71 (l71.length : Int) 0 ja0 ja1 ja2 ja3 ja4 ja5 ja6 ja7 ja8 ja9 ja10) (fun r h => resOf h [Sh.bool] r = some (tMay_17 ja0 ja1 ja2 ja3 ja4 ja5 ja6 ja7 ja8 ja9 ja10 l71 0, ())) :=
 Reach.len 71 (shInt.pr Sh.str) l71 rfl fun hl => at8_17 hC ja0 ja1 ja2 ja3 ja4 ja5 ja6 ja7 ja8 ja9 ja10 l71 hl _ 0 rfl (Nat.zero_le _) hc
def tMay_11 (ja0 : TS) (ja1 : LC) (ja2 : Sem shInt) (ja3 : LI) (ja4 : LF) (ja5 : Str) (ja6 : Int) (ja7 : Int) (ja8 : Str) (ja9 : Str) (ja10 : LX) : List (Sem shInt) → Int → Sem Sh.bool
 | [], _ => (tMay_17 ja0 ja1 ja2 ja3 ja4 ja5 ja6 ja7 ja8 ja9 ja10 ja4 0)
 | x :: r, i61 => (if (!bif decide (x ≥ 0) then decide (x < (↑ja1.length : Int)) else false) = true then false
else tMay_11 ja0 ja1 ja2 ja3 ja4 ja5 ja6 ja7 ja8 ja9 ja10 r (i61 + 1))
def tMayC_11 (ja0 : TS) (ja1 : LC) (ja2 : Sem shInt) (ja3 : LI) (ja4 : LF) (ja5 : Str) (ja6 : Int) (ja7 : Int) (ja8 : Str) (ja9 : Str) (ja10 : LX) : List (Sem shInt) → Int → Bool
 | [], _ => (tMayC_17 ja0 ja1 ja2 ja3 ja4 ja5 ja6 ja7 ja8 ja9 ja10 ja4 0)
 | x :: r, i61 => (if (!bif decide (x ≥ 0) then decide (x < (↑ja1.length : Int)) else false) = true then true
else tMayC_11 ja0 ja1 ja2 ja3 ja4 ja5 ja6 ja7 ja8 ja9 ja10 r (i61 + 1))
theorem at8_11 {C : Ctx} (hC : ∀ id, C.ρ0 id = none) (ja0 : TS) (ja1 : LC) (ja2 : Sem shInt) (ja3 : LI) (ja4 : LF) (ja5 : Str) (ja6 : Int) (ja7 : Int) (ja8 : Str) (ja9 : Str) (ja10 : LX) (l59 : LI) (hl : l59.length ≤ maxStr) : ∀ (m i : Nat), l59.length - i = m → i ≤ l59.length → tMayC_11 ja0 ja1 ja2 ja3 ja4 ja5 ja6 ja7 ja8 ja9 ja10 (l59.drop i) i = true →
  Reach (env28) C 18 (headK Tryz.f18 11) (s8_11 l59 (l59.length : Int) (i : Int) ja0 ja1 ja2 ja3 ja4 ja5 ja6 ja7 ja8 ja9 ja10) (fun r h => resOf h [Sh.bool] r = some (tMay_11 ja0 ja1 ja2 ja3 ja4 ja5 ja6 ja7 ja8 ja9 ja10 (l59.drop i) i, ())) := by
 intro m
 induction m with
 | zero =>
  intro i hm hi hc
  obtain rfl : i = l59.length := by omega
  rw [List.drop_length] at hc ⊢
  refine reach_ok env28_all env28_mix (ok8) (fun id _ => hC id) (on8_11 _ _ _ _ _ _ _ _ _ _ _ _ _ _) ?_
  rw [tMayC_11] at hc
  generalize hy : tMay_11 ja0 ja1 ja2 ja3 ja4 ja5 ja6 ja7 ja8 ja9 ja10 [] _ = y
  rw [tMay_11] at hy
  simp only [lt_dec', Tr.val_brF]
  repeat' (first | with_reducible refine obr hy hc (fun _ hy hc => ?_) (fun _ hy hc => ?_) | with_reducible refine obr1 hy (fun _ hy => ?_) (fun _ hy => ?_) | with_reducible refine ochk hc (fun hc => ?_) | with_reducible refine OptOk_chkT ?_)
  all_goals (subst hy; first | (change Reach _ _ _ _ _ _; apply at8_4s hC <;> first | assumption | exact hc) | (change Reach _ _ _ _ _ _; apply at8_17s hC <;> first | assumption | exact hc) | rfl)
 | succ m IH =>
  intro i hm hi hc
  have hlt : i < l59.length := by omega
  have IH := IH (i + 1)
  have hcast : ((i : Int) + 1) = ((i + 1 : Nat) : Int) := by omega
  have hwr := wrap_add i (by omega)
  rw [List.drop_eq_getElem_cons hlt] at hc ⊢
  refine reach_ok env28_all env28_mix (ok8) (fun id _ => hC id) (on8_11 _ _ _ _ _ _ _ _ _ _ _ _ _ _) ?_
  rw [tMayC_11] at hc
  generalize hy : tMay_11 ja0 ja1 ja2 ja3 ja4 ja5 ja6 ja7 ja8 ja9 ja10 (l59[i] :: l59.drop (i + 1)) (i : Int) = y
  rw [tMay_11] at hy
  simp only [lt_dec hlt, inB_of hlt, getD_at l59 _ hlt, hwr, Tr.val_brT, Tr.val_chkT]
  clear hwr
  simp only [hcast] at hy
  try simp only [hcast] at hc
  repeat' (first | with_reducible refine obr hy hc (fun _ hy hc => ?_) (fun _ hy hc => ?_) | with_reducible refine obr1 hy (fun _ hy => ?_) (fun _ hy => ?_) | with_reducible refine ochk hc (fun hc => ?_) | with_reducible refine OptOk_chkT ?_)
  all_goals (subst hy; first | (change Reach _ _ _ _ _ _; apply IH <;> first | omega | assumption) | (change Reach _ _ _ _ _ _; apply at8_4s hC <;> first | assumption | exact hc) | (change Reach _ _ _ _ _ _; apply at8_17s hC <;> first | assumption | exact hc) | rfl)
theorem at8_11s {C : Ctx} (hC : ∀ id, C.ρ0 id = none) (ja0 : TS) (ja1 : LC) (ja2 : Sem shInt) (ja3 : LI) (ja4 : LF) (ja5 : Str) (ja6 : Int) (ja7 : Int) (ja8 : Str) (ja9 : Str) (ja10 : LX) (l59 : LI) (hc : tMayC_11 ja0 ja1 ja2 ja3 ja4 ja5 ja6 ja7 ja8 ja9 ja10 l59 0 = true) :
  Reach (env28) C 18 (headK Tryz.f18 11) (s8_11 l59 (l59.length : Int) 0 ja0 ja1 ja2 ja3 ja4 ja5 ja6 ja7 ja8 ja9 ja10) (fun r h => resOf h [Sh.bool] r = some (tMay_11 ja0 ja1 ja2 ja3 ja4 ja5 ja6 ja7 ja8 ja9 ja10 l59 0, ())) :=
 Reach.len 59 (Sh.int IntKind.i64) l59 rfl fun hl => at8_11 hC ja0 ja1 ja2 ja3 ja4 ja5 ja6 ja7 ja8 ja9 ja10 l59 hl _ 0 rfl (Nat.zero_le _) hc
def tMay_4 (ja0 : TS) (ja1 : LC) (ja2 : Sem shInt) (ja3 : LI) (ja4 : LF) (ja5 : Str) (ja6 : Int) (ja7 : Int) (ja8 : Str) (ja9 : Str) (ja10 : LX) : List (Sem shCol) → Int → Sem Sh.bool
 | [], _ => (tMay_11 ja0 ja1 ja2 ja3 ja4 ja5 ja6 ja7 ja8 ja9 ja10 ja3 0)
 | x :: r, i29 => (if
  (bif !nameOk x.1 then true
   else
    bif decide (x.2.1 < 1) then true
    else
     bif decide (x.2.1 > 3) then true
     else tPlace (ja0, ja1, ja2, ja3, ja4, ExprT.mk ja5 (ja6, ja7, ja8) ja9 ja10) x.1 != i29) =
   true then
 false
else tMay_4 ja0 ja1 ja2 ja3 ja4 ja5 ja6 ja7 ja8 ja9 ja10 r (i29 + 1))
def tMayC_4 (ja0 : TS) (ja1 : LC) (ja2 : Sem shInt) (ja3 : LI) (ja4 : LF) (ja5 : Str) (ja6 : Int) (ja7 : Int) (ja8 : Str) (ja9 : Str) (ja10 : LX) : List (Sem shCol) → Int → Bool
 | [], _ => (tMayC_11 ja0 ja1 ja2 ja3 ja4 ja5 ja6 ja7 ja8 ja9 ja10 ja3 0)
 | x :: r, i29 => (if
  (bif !nameOk x.1 then true
   else
    bif decide (x.2.1 < 1) then true
    else
     bif decide (x.2.1 > 3) then true
     else tPlace (ja0, ja1, ja2, ja3, ja4, ExprT.mk ja5 (ja6, ja7, ja8) ja9 ja10) x.1 != i29) =
   true then
 true
else tMayC_4 ja0 ja1 ja2 ja3 ja4 ja5 ja6 ja7 ja8 ja9 ja10 r (i29 + 1))
theorem at8_4 {C : Ctx} (hC : ∀ id, C.ρ0 id = none) (ja0 : TS) (ja1 : LC) (ja2 : Sem shInt) (ja3 : LI) (ja4 : LF) (ja5 : Str) (ja6 : Int) (ja7 : Int) (ja8 : Str) (ja9 : Str) (ja10 : LX) (l27 : LC) (hl : l27.length ≤ maxStr) : ∀ (m i : Nat), l27.length - i = m → i ≤ l27.length → tMayC_4 ja0 ja1 ja2 ja3 ja4 ja5 ja6 ja7 ja8 ja9 ja10 (l27.drop i) i = true →
  Reach (env28) C 18 (headK Tryz.f18 4) (s8_4 l27 (l27.length : Int) (i : Int) ja0 ja1 ja2 ja3 ja4 ja5 ja6 ja7 ja8 ja9 ja10) (fun r h => resOf h [Sh.bool] r = some (tMay_4 ja0 ja1 ja2 ja3 ja4 ja5 ja6 ja7 ja8 ja9 ja10 (l27.drop i) i, ())) := by
 intro m
 induction m with
 | zero =>
  intro i hm hi hc
  obtain rfl : i = l27.length := by omega
  rw [List.drop_length] at hc ⊢
  refine reach_ok env28_all env28_mix (ok8) (fun id _ => hC id) (on8_4 _ _ _ _ _ _ _ _ _ _ _ _ _ _) ?_
  rw [tMayC_4] at hc
  generalize hy : tMay_4 ja0 ja1 ja2 ja3 ja4 ja5 ja6 ja7 ja8 ja9 ja10 [] _ = y
  rw [tMay_4] at hy
  simp only [lt_dec', Tr.val_brF]
  repeat' (first | with_reducible refine obr hy hc (fun _ hy hc => ?_) (fun _ hy hc => ?_) | with_reducible refine obr1 hy (fun _ hy => ?_) (fun _ hy => ?_) | with_reducible refine ochk hc (fun hc => ?_) | with_reducible refine OptOk_chkT ?_)
  all_goals (subst hy; first | (change Reach _ _ _ _ _ _; apply at8_11s hC <;> first | assumption | exact hc) | (change Reach _ _ _ _ _ _; apply at8_17s hC <;> first | assumption | exact hc) | rfl)
 | succ m IH =>
  intro i hm hi hc
  have hlt : i < l27.length := by omega
  have IH := IH (i + 1)
  have hcast : ((i : Int) + 1) = ((i + 1 : Nat) : Int) := by omega
  have hwr := wrap_add i (by omega)
  rw [List.drop_eq_getElem_cons hlt] at hc ⊢
  refine reach_ok env28_all env28_mix (ok8) (fun id _ => hC id) (on8_4 _ _ _ _ _ _ _ _ _ _ _ _ _ _) ?_
  rw [tMayC_4] at hc
  generalize hy : tMay_4 ja0 ja1 ja2 ja3 ja4 ja5 ja6 ja7 ja8 ja9 ja10 (l27[i] :: l27.drop (i + 1)) (i : Int) = y
  rw [tMay_4] at hy
  simp only [lt_dec hlt, inB_of hlt, getD_at l27 _ hlt, hwr, Tr.val_brT, Tr.val_chkT]
  clear hwr
  simp only [hcast] at hy
  try simp only [hcast] at hc
  repeat' (first | with_reducible refine obr hy hc (fun _ hy hc => ?_) (fun _ hy hc => ?_) | with_reducible refine obr1 hy (fun _ hy => ?_) (fun _ hy => ?_) | with_reducible refine ochk hc (fun hc => ?_) | with_reducible refine OptOk_chkT ?_)
  all_goals (subst hy; first | (change Reach _ _ _ _ _ _; apply IH <;> first | omega | assumption) | (change Reach _ _ _ _ _ _; apply at8_11s hC <;> first | assumption | exact hc) | (change Reach _ _ _ _ _ _; apply at8_17s hC <;> first | assumption | exact hc) | rfl)
theorem at8_4s {C : Ctx} (hC : ∀ id, C.ρ0 id = none) (ja0 : TS) (ja1 : LC) (ja2 : Sem shInt) (ja3 : LI) (ja4 : LF) (ja5 : Str) (ja6 : Int) (ja7 : Int) (ja8 : Str) (ja9 : Str) (ja10 : LX) (l27 : LC) (hc : tMayC_4 ja0 ja1 ja2 ja3 ja4 ja5 ja6 ja7 ja8 ja9 ja10 l27 0 = true) :
  Reach (env28) C 18 (headK Tryz.f18 4) (s8_4 l27 (l27.length : Int) 0 ja0 ja1 ja2 ja3 ja4 ja5 ja6 ja7 ja8 ja9 ja10) (fun r h => resOf h [Sh.bool] r = some (tMay_4 ja0 ja1 ja2 ja3 ja4 ja5 ja6 ja7 ja8 ja9 ja10 l27 0, ())) :=
 Reach.len 27 (shCol) l27 rfl fun hl => at8_4 hC ja0 ja1 ja2 ja3 ja4 ja5 ja6 ja7 ja8 ja9 ja10 l27 hl _ 0 rfl (Nat.zero_le _) hc
def tMay (x0 : Sem shTable) : Sem Sh.bool := (if (bif !nameOk x0.1 then true else bif decide ((↑(List.length x0.2.1) : Int) < 1) then true else decide ((↑(List.length x0.2.1) : Int) > 8)) = true then false else tMay_4 x0.1 x0.2.1 x0.2.2.1 x0.2.2.2.1 x0.2.2.2.2.1 (ExprT.op x0.2.2.2.2.2) (ExprT.v x0.2.2.2.2.2).1 (ExprT.v x0.2.2.2.2.2).2.1 (ExprT.v x0.2.2.2.2.2).2.2 (ExprT.s x0.2.2.2.2.2) (ExprT.l x0.2.2.2.2.2) x0.2.1 0)
def tMayC (x0 : Sem shTable) : Bool := (if (bif !nameOk x0.1 then true else bif decide ((↑(List.length x0.2.1) : Int) < 1) then true else decide ((↑(List.length x0.2.1) : Int) > 8)) = true then true else tMayC_4 x0.1 x0.2.1 x0.2.2.1 x0.2.2.2.1 x0.2.2.2.2.1 (ExprT.op x0.2.2.2.2.2) (ExprT.v x0.2.2.2.2.2).1 (ExprT.v x0.2.2.2.2.2).2.1 (ExprT.v x0.2.2.2.2.2).2.2 (ExprT.s x0.2.2.2.2.2) (ExprT.l x0.2.2.2.2.2) x0.2.1 0)
def F8 : FSem := plainC [shTable] [Sh.bool] (fun x => tMayC x.1) fun x => (tMay x.1, ())
theorem FOk8 : FOk (env28).P (env28).gl 18 F8 := by
 refine FOk_plainC (ok8) fun x hc C hC => ?_
 unfold tMayC at hc
 refine reach_ok env28_all env28_mix (ok8) (fun id _ => hC id) (go8 x.1) ?_
 generalize hy : tMay x.1 = y
 unfold tMay at hy
 try simp only [ExprT.eta]
 repeat' (first | with_reducible refine obr hy hc (fun _ hy hc => ?_) (fun _ hy hc => ?_) | with_reducible refine obr1 hy (fun _ hy => ?_) (fun _ hy => ?_) | with_reducible refine ochk hc (fun hc => ?_) | with_reducible refine OptOk_chkT ?_)
 all_goals (subst hy; first | (change Reach _ _ _ _ _ _; apply at8_4s hC <;> first | assumption | exact hc) | (change Reach _ _ _ _ _ _; apply at8_11s hC <;> first | assumption | exact hc) | (change Reach _ _ _ _ _ _; apply at8_17s hC <;> first | assumption | exact hc) | rfl)

noncomputable def env29 : Env := (env28.add 18 F8)
theorem env29_all : EnvAll env29 := (EnvAll.addS env28_all (SameE.refl env28) FOk8)
theorem env29_mix : env29.P.follows .mixedOrders = true := (mix_add env28_mix _ _)
open Go Go.Proofs

theorem tMayC_17_true {a0 a1 a2 a3 a4 a5 a6 a7 a8 a9 b0} : ∀ (l : List (Sem shFor)) (i : Int), tMayC_17 a0 a1 a2 a3 a4 a5 a6 a7 a8 a9 b0 l i = true
 | [], i => by
  rw [tMayC_17]
  split
  ·rename_i h
   rw [if_pos]
   cases h1 : decide (a2 ≥ 0) <;> simp_all [inB]
  ·rfl
 | x :: r, i => by
  rw [tMayC_17]
  repeat' split
  all_goals first | rfl | exact tMayC_17_true r (i + 1)
theorem tMayC_11_true {a0 a1 a2 a3 a4 a5 a6 a7 a8 a9 b0} : ∀ (l : List (Sem shInt)) (i : Int), tMayC_11 a0 a1 a2 a3 a4 a5 a6 a7 a8 a9 b0 l i = true
 | [], i => by rw [tMayC_11]; exact tMayC_17_true _ _
 | x :: r, i => by
  rw [tMayC_11]
  repeat' split
  all_goals first | rfl | exact tMayC_11_true r (i + 1)
theorem tMayC_4_true {a0 a1 a2 a3 a4 a5 a6 a7 a8 a9 b0} : ∀ (l : List (Sem shCol)) (i : Int), tMayC_4 a0 a1 a2 a3 a4 a5 a6 a7 a8 a9 b0 l i = true
 | [], i => by rw [tMayC_4]; exact tMayC_11_true _ _
 | x :: r, i => by
  rw [tMayC_4]
  split
  ·rfl
  ·exact tMayC_4_true r (i + 1)
theorem tMayC_true (t : Sem shTable) : tMayC t = true := by
 unfold tMayC
 split
 ·rfl
 ·exact tMayC_4_true _ _
def F8t : FSem := plainT [shTable] [Sh.bool] fun x => (tMay x.1, ())
theorem FOk8t : FOk env29.P env29.gl 18 F8t := FOk_tot FOk8 fun x => tMayC_true x.1

noncomputable def env30 : Env := (env29.add 18 F8t)
theorem env30_all : EnvAll env30 := (EnvAll.addS env29_all (SameE.refl env29) FOk8t)
theorem env30_mix : env30.P.follows .mixedOrders = true := (mix_add env29_mix _ _)
open Go Go.Proofs

abbrev kp10 : Nat → Keep := fun j => if j = 4 then { slots := [1, 2, 19, 20, 21] } else if j = 10 then { slots := [1, 2, 30, 31] } else { }
abbrev s10_4 (l1 : LV) (l19 : LV) (i20 : Int) (i21 : Int) (ja0 : TS) (ja1 : LC) (ja2 : Sem shInt) (ja3 : LI) (ja4 : LF) (ja5 : Str) (ja6 : Int) (ja7 : Int) (ja8 : Str) (ja9 : Str) (ja10 : LX) : St := { tmps := [ny, AV.sl shVal l1, AV.ptr 0 0, ny, ny, ny, ny, ny, ny, ny, ny, ny, ny, ny, ny, ny, ny, ny, ny, AV.sl shVal l19, ai i20, ai i21, ny, ny, ny, ny, ny, ny, ny, ny, ny, ny, ny, ny, ny, ny, ny, ny, ny, ny, ny, ny, ny, ny, ny, ny, ny, ny, ny, ny, ny, ny, ny, ny, ny, ny, ny, ny, ny, ny, ny, ny, ny, ny, ny, ny, ny, ny, ny, ny, ny, ny, ny, ny, ny, ny, ny, ny, ny], heap := [AO.box [AV.str ja0, AV.sl shCol ja1, ai ja2, AV.sl shInt ja3, AV.sl shFor ja4, AV.str ja5, ai ja6, ai ja7, AV.str ja8, AV.str ja9, AV.sl Sh.expr ja10]] }
theorem ok10 : fnChk (env30).P 121 Tryz.f121 2 := by refine ⟨?_, ?_, ?_, ?_⟩ <;> kernel_rfl
theorem go10 (x0 : Sem shTable) (x1 : Sem shVal.sl) : run (env30) 0 kp10 (Func.results Tryz.f121).toList 400 (bodyOf Tryz.f121) (initSt (Func.ntmps Tryz.f121) [datum shTable x0, datum shVal.sl x1] []) = Tr.br (bif !tMay (x0.1, x0.2.1, x0.2.2.1, x0.2.2.2.1, x0.2.2.2.2.1, etaE x0.2.2.2.2.2) then true else (↑(List.length x1) : Int) != (↑(List.length x0.2.1) : Int)) (Tr.ok (Leaf.ret (ai 1) [])) (Tr.ok (Leaf.head 4 (headK Tryz.f121 4) (s10_4 x1 x1 (↑(List.length x1) : Int) 0 x0.1 x0.2.1 x0.2.2.1 x0.2.2.2.1 x0.2.2.2.2.1 (ExprT.op x0.2.2.2.2.2) (ExprT.v x0.2.2.2.2.2).1 (ExprT.v x0.2.2.2.2.2).2.1 (ExprT.v x0.2.2.2.2.2).2.2 (ExprT.s x0.2.2.2.2.2) (ExprT.l x0.2.2.2.2.2)))) := by kernel_rfl
abbrev s10_10 (l1 : LV) (i30 : Int) (i31 : Int) (ja0 : TS) (ja1 : LC) (ja2 : Sem shInt) (ja3 : LI) (ja4 : LF) (ja5 : Str) (ja6 : Int) (ja7 : Int) (ja8 : Str) (ja9 : Str) (ja10 : LX) : St := { tmps := [ny, AV.sl shVal l1, AV.ptr 0 0, ny, ny, ny, ny, ny, ny, ny, ny, ny, ny, ny, ny, ny, ny, ny, ny, ny, ny, ny, ny, ny, ny, ny, ny, ny, ny, ny, ai i30, ai i31, ny, ny, ny, ny, ny, ny, ny, ny, ny, ny, ny, ny, ny, ny, ny, ny, ny, ny, ny, ny, ny, ny, ny, ny, ny, ny, ny, ny, ny, ny, ny, ny, ny, ny, ny, ny, ny, ny, ny, ny, ny, ny, ny, ny, ny, ny, ny], heap := [AO.box [AV.str ja0, AV.sl shCol ja1, ai ja2, AV.sl shInt ja3, AV.sl shFor ja4, AV.str ja5, ai ja6, ai ja7, AV.str ja8, AV.str ja9, AV.sl Sh.expr ja10]] }
theorem on10_4 (l1 : LV) (l19 : LV) (i20 : Int) (i21 : Int) (ja0 : TS) (ja1 : LC) (ja2 : Sem shInt) (ja3 : LI) (ja4 : LF) (ja5 : Str) (ja6 : Int) (ja7 : Int) (ja8 : Str) (ja9 : Str) (ja10 : LX) : run (env30) 0 kp10 (Func.results Tryz.f121).toList 400 (headK Tryz.f121 4) (s10_4 l1 l19 i20 i21 ja0 ja1 ja2 ja3 ja4 ja5 ja6 ja7 ja8 ja9 ja10) = Tr.br (decide (i21 < i20)) (Tr.chk (inB i21 l19.length) (Tr.br (!vMay (l19.getD i21.toNat (dflt shVal))) (Tr.ok (Leaf.ret (ai 1) [])) (Tr.ok (Leaf.head 4 (headK Tryz.f121 4) (s10_4 l1 l19 i20 (IntKind.i64.wrap (i21 + 1)) ja0 ja1 ja2 ja3 ja4 ja5 ja6 ja7 ja8 ja9 ja10))))) (Tr.ok (Leaf.head 10 (headK Tryz.f121 10) (s10_10 l1 (↑l1.length : Int) 0 ja0 ja1 ja2 ja3 ja4 ja5 ja6 ja7 ja8 ja9 ja10))) := by kernel_rfl
theorem on10_10 (l1 : LV) (i30 : Int) (i31 : Int) (ja0 : TS) (ja1 : LC) (ja2 : Sem shInt) (ja3 : LI) (ja4 : LF) (ja5 : Str) (ja6 : Int) (ja7 : Int) (ja8 : Str) (ja9 : Str) (ja10 : LX) : run (env30) 0 kp10 (Func.results Tryz.f121).toList 400 (headK Tryz.f121 10) (s10_10 l1 i30 i31 ja0 ja1 ja2 ja3 ja4 ja5 ja6 ja7 ja8 ja9 ja10) = Tr.br (decide (i31 < i30)) (Tr.chk (inB i31 l1.length && bif (l1.getD i31.toNat (dflt shVal)).1 == 0 then inB i31 ja1.length else true) (Tr.br (bif (l1.getD i31.toNat (dflt shVal)).1 == 0 then (ja1.getD i31.toNat (dflt shCol)).2.2 else false) (Tr.ok (Leaf.ret (ai 8) [])) (Tr.chk (inB i31 l1.length && bif (l1.getD i31.toNat (dflt shVal)).1 != 0 then inB i31 l1.length && inB i31 ja1.length else true) (Tr.br (bif (l1.getD i31.toNat (dflt shVal)).1 != 0 then (l1.getD i31.toNat (dflt shVal)).1 != (ja1.getD i31.toNat (dflt shCol)).2.1 else false) (Tr.ok (Leaf.ret (ai 5) [])) (Tr.ok (Leaf.head 10 (headK Tryz.f121 10) (s10_10 l1 i30 (IntKind.i64.wrap (i31 + 1)) ja0 ja1 ja2 ja3 ja4 ja5 ja6 ja7 ja8 ja9 ja10))))))) (Tr.br ((eEval (ExprT.mk ja5 (ja6, ja7, ja8) ja9 ja10) ja1 l1).1 == 3 && ((eEval (ExprT.mk ja5 (ja6, ja7, ja8) ja9 ja10) ja1 l1).2.1 == 0 && ((eEval (ExprT.mk ja5 (ja6, ja7, ja8) ja9 ja10) ja1 l1).2.2 == [] && true))) (Tr.ok (Leaf.ret (ai 9) [])) (Tr.ok (Leaf.ret (ai 0) []))) := by kernel_rfl
def tFits_10 (ja0 : TS) (ja1 : LC) (ja2 : Sem shInt) (ja3 : LI) (ja4 : LF) (ja5 : Str) (ja6 : Int) (ja7 : Int) (ja8 : Str) (ja9 : Str) (ja10 : LX) (l1 : LV) : List (Sem shVal) → Int → Sem shInt
 | [], _ => (if
  ((eEval (ExprT.mk ja5 (ja6, ja7, ja8) ja9 ja10) ja1 l1).1 == 3 &&
    ((eEval (ExprT.mk ja5 (ja6, ja7, ja8) ja9 ja10) ja1 l1).2.1 == 0 &&
     ((eEval (ExprT.mk ja5 (ja6, ja7, ja8) ja9 ja10) ja1 l1).2.2 == [] && true))) =
   true then
 9
else 0)
 | x :: r, i31 => (if (bif x.1 == 0 then (ja1.getD i31.toNat (dflt shCol)).2.2 else false) = true then 8
else
 if (bif x.1 != 0 then x.1 != (ja1.getD i31.toNat (dflt shCol)).2.1 else false) = true then 5
 else tFits_10 ja0 ja1 ja2 ja3 ja4 ja5 ja6 ja7 ja8 ja9 ja10 l1 r (i31 + 1))
def tFitsC_10 (ja0 : TS) (ja1 : LC) (ja2 : Sem shInt) (ja3 : LI) (ja4 : LF) (ja5 : Str) (ja6 : Int) (ja7 : Int) (ja8 : Str) (ja9 : Str) (ja10 : LX) (l1 : LV) : List (Sem shVal) → Int → Bool
 | [], _ => (true)
 | x :: r, i31 => (if (inB i31 l1.length && bif x.1 == 0 then inB i31 ja1.length else true) = true then
 if (bif x.1 == 0 then (ja1.getD i31.toNat (dflt shCol)).2.2 else false) = true then true
 else
  if (inB i31 l1.length && bif x.1 != 0 then inB i31 l1.length && inB i31 ja1.length else true) = true then
   if (bif x.1 != 0 then x.1 != (ja1.getD i31.toNat (dflt shCol)).2.1 else false) = true then true
   else tFitsC_10 ja0 ja1 ja2 ja3 ja4 ja5 ja6 ja7 ja8 ja9 ja10 l1 r (i31 + 1)
  else false
else false)
theorem at10_10 {C : Ctx} (hC : ∀ id, C.ρ0 id = none) (ja0 : TS) (ja1 : LC) (ja2 : Sem shInt) (ja3 : LI) (ja4 : LF) (ja5 : Str) (ja6 : Int) (ja7 : Int) (ja8 : Str) (ja9 : Str) (ja10 : LX) (l1 : LV) (hl : l1.length ≤ maxStr) : ∀ (m i : Nat), l1.length - i = m → i ≤ l1.length → tFitsC_10 ja0 ja1 ja2 ja3 ja4 ja5 ja6 ja7 ja8 ja9 ja10 l1 (l1.drop i) i = true →
  Reach (env30) C 121 (headK Tryz.f121 10) (s10_10 l1 (l1.length : Int) (i : Int) ja0 ja1 ja2 ja3 ja4 ja5 ja6 ja7 ja8 ja9 ja10) (fun r h => resOf h [shInt] r = some (tFits_10 ja0 ja1 ja2 ja3 ja4 ja5 ja6 ja7 ja8 ja9 ja10 l1 (l1.drop i) i, ())) := by
 intro m
 induction m with
 | zero =>
  intro i hm hi hc
  obtain rfl : i = l1.length := by omega
  rw [List.drop_length] at hc ⊢
  refine reach_ok env30_all env30_mix (ok10) (fun id _ => hC id) (on10_10 _ _ _ _ _ _ _ _ _ _ _ _ _ _) ?_
  rw [tFitsC_10] at hc
  generalize hy : tFits_10 ja0 ja1 ja2 ja3 ja4 ja5 ja6 ja7 ja8 ja9 ja10 l1 [] _ = y
  rw [tFits_10] at hy
  simp only [lt_dec', Tr.val_brF]
  repeat' (first | with_reducible refine obr hy hc (fun _ hy hc => ?_) (fun _ hy hc => ?_) | with_reducible refine obr1 hy (fun _ hy => ?_) (fun _ hy => ?_) | with_reducible refine ochk hc (fun hc => ?_) | with_reducible refine OptOk_chkT ?_)
  all_goals (subst hy; first | (change Reach _ _ _ _ _ _; apply at10_4s hC <;> first | assumption | exact hc) | rfl)
 | succ m IH =>
  intro i hm hi hc
  have hlt : i < l1.length := by omega
  have IH := IH (i + 1)
  have hcast : ((i : Int) + 1) = ((i + 1 : Nat) : Int) := by omega
  have hwr := wrap_add i (by omega)
  rw [List.drop_eq_getElem_cons hlt] at hc ⊢
  refine reach_ok env30_all env30_mix (ok10) (fun id _ => hC id) (on10_10 _ _ _ _ _ _ _ _ _ _ _ _ _ _) ?_
  rw [tFitsC_10] at hc
  generalize hy : tFits_10 ja0 ja1 ja2 ja3 ja4 ja5 ja6 ja7 ja8 ja9 ja10 l1 (l1[i] :: l1.drop (i + 1)) (i : Int) = y
  rw [tFits_10] at hy
  simp only [lt_dec hlt, inB_of hlt, getD_at l1 _ hlt, hwr, Tr.val_brT]
  clear hwr
  try simp only [inB_of hlt] at hy
  simp only [hcast] at hy
  try simp only [inB_of hlt] at hc
  try simp only [hcast] at hc
  repeat' (first | with_reducible refine obr hy hc (fun _ hy hc => ?_) (fun _ hy hc => ?_) | with_reducible refine obr1 hy (fun _ hy => ?_) (fun _ hy => ?_) | with_reducible refine ochk hc (fun hc => ?_) | with_reducible refine OptOk_chkT ?_)
  all_goals (subst hy; first | (change Reach _ _ _ _ _ _; apply IH <;> first | omega | assumption) | (change Reach _ _ _ _ _ _; apply at10_4s hC <;> first | assumption | exact hc) | rfl)
theorem at10_10s {C : Ctx} (hC : ∀ id, C.ρ0 id = none) (ja0 : TS) (ja1 : LC) (ja2 : Sem shInt) (ja3 : LI) (ja4 : LF) (ja5 : Str) (ja6 : Int) (ja7 : Int) (ja8 : Str) (ja9 : Str) (ja10 : LX) (l1 : LV) (hc : tFitsC_10 ja0 ja1 ja2 ja3 ja4 ja5 ja6 ja7 ja8 ja9 ja10 l1 l1 0 = true) :
  Reach (env30) C 121 (headK Tryz.f121 10) (s10_10 l1 (l1.length : Int) 0 ja0 ja1 ja2 ja3 ja4 ja5 ja6 ja7 ja8 ja9 ja10) (fun r h => resOf h [shInt] r = some (tFits_10 ja0 ja1 ja2 ja3 ja4 ja5 ja6 ja7 ja8 ja9 ja10 l1 l1 0, ())) :=
 Reach.len 1 (shVal) l1 rfl fun hl => at10_10 hC ja0 ja1 ja2 ja3 ja4 ja5 ja6 ja7 ja8 ja9 ja10 l1 hl _ 0 rfl (Nat.zero_le _) hc
def tFits_4 (l1 : LV) (ja0 : TS) (ja1 : LC) (ja2 : Sem shInt) (ja3 : LI) (ja4 : LF) (ja5 : Str) (ja6 : Int) (ja7 : Int) (ja8 : Str) (ja9 : Str) (ja10 : LX) : List (Sem shVal) → Int → Sem shInt
 | [], _ => (tFits_10 ja0 ja1 ja2 ja3 ja4 ja5 ja6 ja7 ja8 ja9 ja10 l1 l1 0)
 | x :: r, i21 => (if (!vMay x) = true then 1 else tFits_4 l1 ja0 ja1 ja2 ja3 ja4 ja5 ja6 ja7 ja8 ja9 ja10 r (i21 + 1))
def tFitsC_4 (l1 : LV) (ja0 : TS) (ja1 : LC) (ja2 : Sem shInt) (ja3 : LI) (ja4 : LF) (ja5 : Str) (ja6 : Int) (ja7 : Int) (ja8 : Str) (ja9 : Str) (ja10 : LX) : List (Sem shVal) → Int → Bool
 | [], _ => (tFitsC_10 ja0 ja1 ja2 ja3 ja4 ja5 ja6 ja7 ja8 ja9 ja10 l1 l1 0)
 | x :: r, i21 => (if (!vMay x) = true then true else tFitsC_4 l1 ja0 ja1 ja2 ja3 ja4 ja5 ja6 ja7 ja8 ja9 ja10 r (i21 + 1))
theorem at10_4 {C : Ctx} (hC : ∀ id, C.ρ0 id = none) (l1 : LV) (ja0 : TS) (ja1 : LC) (ja2 : Sem shInt) (ja3 : LI) (ja4 : LF) (ja5 : Str) (ja6 : Int) (ja7 : Int) (ja8 : Str) (ja9 : Str) (ja10 : LX) (l19 : LV) (hl : l19.length ≤ maxStr) : ∀ (m i : Nat), l19.length - i = m → i ≤ l19.length → tFitsC_4 l1 ja0 ja1 ja2 ja3 ja4 ja5 ja6 ja7 ja8 ja9 ja10 (l19.drop i) i = true →
  Reach (env30) C 121 (headK Tryz.f121 4) (s10_4 l1 l19 (l19.length : Int) (i : Int) ja0 ja1 ja2 ja3 ja4 ja5 ja6 ja7 ja8 ja9 ja10) (fun r h => resOf h [shInt] r = some (tFits_4 l1 ja0 ja1 ja2 ja3 ja4 ja5 ja6 ja7 ja8 ja9 ja10 (l19.drop i) i, ())) := by
 intro m
 induction m with
 | zero =>
  intro i hm hi hc
  obtain rfl : i = l19.length := by omega
  rw [List.drop_length] at hc ⊢
  refine reach_ok env30_all env30_mix (ok10) (fun id _ => hC id) (on10_4 _ _ _ _ _ _ _ _ _ _ _ _ _ _ _) ?_
  rw [tFitsC_4] at hc
  generalize hy : tFits_4 l1 ja0 ja1 ja2 ja3 ja4 ja5 ja6 ja7 ja8 ja9 ja10 [] _ = y
  rw [tFits_4] at hy
  simp only [lt_dec', Tr.val_brF]
  repeat' (first | with_reducible refine obr hy hc (fun _ hy hc => ?_) (fun _ hy hc => ?_) | with_reducible refine obr1 hy (fun _ hy => ?_) (fun _ hy => ?_) | with_reducible refine ochk hc (fun hc => ?_) | with_reducible refine OptOk_chkT ?_)
  all_goals (subst hy; first | (change Reach _ _ _ _ _ _; apply at10_10s hC <;> first | assumption | exact hc) | rfl)
 | succ m IH =>
  intro i hm hi hc
  have hlt : i < l19.length := by omega
  have IH := IH (i + 1)
  have hcast : ((i : Int) + 1) = ((i + 1 : Nat) : Int) := by omega
  have hwr := wrap_add i (by omega)
  rw [List.drop_eq_getElem_cons hlt] at hc ⊢
  refine reach_ok env30_all env30_mix (ok10) (fun id _ => hC id) (on10_4 _ _ _ _ _ _ _ _ _ _ _ _ _ _ _) ?_
  rw [tFitsC_4] at hc
  generalize hy : tFits_4 l1 ja0 ja1 ja2 ja3 ja4 ja5 ja6 ja7 ja8 ja9 ja10 (l19[i] :: l19.drop (i + 1)) (i : Int) = y
  rw [tFits_4] at hy
  simp only [lt_dec hlt, inB_of hlt, getD_at l19 _ hlt, hwr, Tr.val_brT, Tr.val_chkT]
  clear hwr
  try simp only [inB_of hlt] at hy
  simp only [hcast] at hy
  try simp only [inB_of hlt] at hc
  try simp only [hcast] at hc
  repeat' (first | with_reducible refine obr hy hc (fun _ hy hc => ?_) (fun _ hy hc => ?_) | with_reducible refine obr1 hy (fun _ hy => ?_) (fun _ hy => ?_) | with_reducible refine ochk hc (fun hc => ?_) | with_reducible refine OptOk_chkT ?_)
  all_goals (subst hy; first | (change Reach _ _ _ _ _ _; apply IH <;> first | omega | assumption) | (change Reach _ _ _ _ _ _; apply at10_10s hC <;> first | assumption | exact hc) | rfl)
theorem at10_4s {C : Ctx} (hC : ∀ id, C.ρ0 id = none) (l1 : LV) (ja0 : TS) (ja1 : LC) (ja2 : Sem shInt) (ja3 : LI) (ja4 : LF) (ja5 : Str) (ja6 : Int) (ja7 : Int) (ja8 : Str) (ja9 : Str) (ja10 : LX) (l19 : LV) (hc : tFitsC_4 l1 ja0 ja1 ja2 ja3 ja4 ja5 ja6 ja7 ja8 ja9 ja10 l19 0 = true) :
  Reach (env30) C 121 (headK Tryz.f121 4) (s10_4 l1 l19 (l19.length : Int) 0 ja0 ja1 ja2 ja3 ja4 ja5 ja6 ja7 ja8 ja9 ja10) (fun r h => resOf h [shInt] r = some (tFits_4 l1 ja0 ja1 ja2 ja3 ja4 ja5 ja6 ja7 ja8 ja9 ja10 l19 0, ())) :=
 Reach.len 19 (shVal) l19 rfl fun hl => at10_4 hC l1 ja0 ja1 ja2 ja3 ja4 ja5 ja6 ja7 ja8 ja9 ja10 l19 hl _ 0 rfl (Nat.zero_le _) hc
def tFits (x0 : Sem shTable) (x1 : Sem shVal.sl) : Sem shInt := (if (bif !tMay x0 then true else (↑(List.length x1) : Int) != (↑(List.length x0.2.1) : Int)) = true then 1 else tFits_4 x1 x0.1 x0.2.1 x0.2.2.1 x0.2.2.2.1 x0.2.2.2.2.1 (ExprT.op x0.2.2.2.2.2) (ExprT.v x0.2.2.2.2.2).1 (ExprT.v x0.2.2.2.2.2).2.1 (ExprT.v x0.2.2.2.2.2).2.2 (ExprT.s x0.2.2.2.2.2) (ExprT.l x0.2.2.2.2.2) x1 0)
def tFitsC (x0 : Sem shTable) (x1 : Sem shVal.sl) : Bool := (if (bif !tMay x0 then true else (↑(List.length x1) : Int) != (↑(List.length x0.2.1) : Int)) = true then true else tFitsC_4 x1 x0.1 x0.2.1 x0.2.2.1 x0.2.2.2.1 x0.2.2.2.2.1 (ExprT.op x0.2.2.2.2.2) (ExprT.v x0.2.2.2.2.2).1 (ExprT.v x0.2.2.2.2.2).2.1 (ExprT.v x0.2.2.2.2.2).2.2 (ExprT.s x0.2.2.2.2.2) (ExprT.l x0.2.2.2.2.2) x1 0)
def F10 : FSem := plainC [shTable, shVal.sl] [shInt] (fun x => tFitsC x.1 x.2.1) fun x => (tFits x.1 x.2.1, ())
theorem FOk10 : FOk (env30).P (env30).gl 121 F10 := by
 refine FOk_plainC (ok10) fun x hc C hC => ?_
 unfold tFitsC at hc
 refine reach_ok env30_all env30_mix (ok10) (fun id _ => hC id) (go10 x.1 x.2.1) ?_
 generalize hy : tFits x.1 x.2.1 = y
 unfold tFits at hy
 try simp only [ExprT.eta]
 repeat' (first | with_reducible refine obr hy hc (fun _ hy hc => ?_) (fun _ hy hc => ?_) | with_reducible refine obr1 hy (fun _ hy => ?_) (fun _ hy => ?_) | with_reducible refine ochk hc (fun hc => ?_) | with_reducible refine OptOk_chkT ?_)
 all_goals (subst hy; first | (change Reach _ _ _ _ _ _; apply at10_4s hC <;> first | assumption | exact hc) | (change Reach _ _ _ _ _ _; apply at10_10s hC <;> first | assumption | exact hc) | rfl)

noncomputable def env31 : Env := (env30.add 121 F10)
theorem env31_all : EnvAll env31 := (EnvAll.addS env30_all (SameE.refl env30) FOk10)
theorem env31_mix : env31.P.follows .mixedOrders = true := (mix_add env30_mix _ _)
open Go Go.Proofs

theorem tFitsC_10_true {a0 a2 a3 a4 a5 a6 a7 a8 a9 b0} {cols : List (Sem shCol)} {row : List (Sem shVal)} (hl : row.length = cols.length) : ∀ (l : List (Sem shVal)) (i : Nat), i + l.length = row.length → tFitsC_10 a0 cols a2 a3 a4 a5 a6 a7 a8 a9 b0 row l i = true
 | [], i, _ => rfl
 | x :: r, i, h => by
  have h1 : i < row.length := by simp at h; omega
  have h2 : i < cols.length := by omega
  have ih := tFitsC_10_true (a0 := a0) (a2 := a2) (a3 := a3) (a4 := a4) (a5 := a5) (a6 := a6) (a7 := a7) (a8 := a8) (a9 := a9) (b0 := b0) hl r (i + 1) (by simp at h; omega)
  rw [tFitsC_10]
  simp only [inB_of h1, inB_of h2]
  rw [if_pos (by cases x.1 == 0 <;> rfl)]
  split
  ·rfl
  ·rw [if_pos (by cases x.1 != 0 <;> rfl)]
   split
   ·rfl
   ·exact ih
theorem tFitsC_4_true {a0 a2 a3 a4 a5 a6 a7 a8 a9 b0} {cols : List (Sem shCol)} {row : List (Sem shVal)} (hl : row.length = cols.length) : ∀ (l : List (Sem shVal)) (i : Int), tFitsC_4 row a0 cols a2 a3 a4 a5 a6 a7 a8 a9 b0 l i = true
 | [], i => by rw [tFitsC_4]; exact tFitsC_10_true hl row 0 (by simp)
 | x :: r, i => by
  rw [tFitsC_4]
  split
  ·rfl
  ·exact tFitsC_4_true hl r (i + 1)
theorem tFitsC_true (t : Sem shTable) (row : List (Sem shVal)) : tFitsC t row = true := by
 unfold tFitsC
 split
 ·rfl
 ·rename_i h
  refine tFitsC_4_true ?_ _ _
  cases hm : tMay t
  ·rw [hm] at h; simp at h
  ·rw [hm] at h
   simp at h
   omega
def F10t : FSem := plainT [shTable, shVal.sl] [shInt] fun x => (tFits x.1 x.2.1, ())
theorem FOk10t : FOk env31.P env31.gl 121 F10t := FOk_tot FOk10 fun x => tFitsC_true x.1 x.2.1

noncomputable def env32 : Env := (env31.add 121 F10t)
theorem env32_all : EnvAll env32 := (EnvAll.addS env31_all (SameE.refl env31) FOk10t)
theorem env32_mix : env32.P.follows .mixedOrders = true := (mix_add env31_mix _ _)
open Go Go.Proofs

open Go.RowKit Go.Lib in
theorem FOk63C : FOk env32.P env32.gl 186 (plainC [.str, .str] [.bool] (fun x => x.2.1.length == 1) fun x => (decide (0 ≤ Lib.indexByte x.1 (x.2.1.headD 0)), ())) := by
 refine FOk_calls ⟨Tryz.f186, by kernel_rfl, by kernel_rfl, by kernel_rfl⟩ fun x h0 res hx => ?_
 unfold plainCG at hx
 split at hx
 ·simp only [Tr.val] at hx
  split at hx
  ·rename_i hc
   simp only [Option.some.injEq] at hx
   subst hx
   obtain ⟨s, sub, u⟩ := x
   have hc : (sub.length == 1) = true := hc
   match sub, hc with
   | [c], _ =>
    intro C w U ρ vals _ hr hH hnew hr0 hW
    have hl := hr.len
    match vals, hl, hr with
    | [v1, v2], _, hr =>
     have h1 := hr.rv 0 (.str s) v1 rfl rfl
     have h2 := hr.rv 1 (.str [c]) v2 rfl rfl
     cases h1 with
     | str _ hs =>
     cases h2 with
     | str _ hs2 =>
     refine (Tryz.strings_Contains_one ⟨s.toArray⟩ c w).mono ?_
     rintro e w' ⟨rfl, rfl⟩
     exact post_below hH hnew hr0 hW (Below.refl _ _) (.bool _)
  ·cases hx
 ·simp at hx
def F63 : FSem := plainC [.str, .str] [.bool] (fun x => x.2.1.length == 1) fun x => (decide (0 ≤ Lib.indexByte x.1 (x.2.1.headD 0)), ())
theorem FOk63 : FOk env32.P env32.gl 186 F63 := FOk63C

def F89 : FSem := plainC [.str] [.str] (fun x => decide (x.1.length ≤ 140737488355328) && x.1.all fun b => decide (b.toNat < 128)) fun x => (Lib.toUpperA x.1, ())
open Go.RowKit Go.Lib in
theorem FOk89 : FOk env32.P env32.gl 161 F89 := by
 refine FOk_calls ⟨Tryz.f161, by kernel_rfl, by kernel_rfl, by kernel_rfl⟩ fun x h0 res hx => ?_
 unfold plainCG at hx
 split at hx
 ·simp only [Tr.val] at hx
  split at hx
  ·rename_i hc
   simp only [Option.some.injEq] at hx
   subst hx
   obtain ⟨s, u⟩ := x
   have hc : (decide (s.length ≤ 140737488355328) && s.all fun b => decide (b.toNat < 128)) = true := hc
   simp only [Bool.and_eq_true, decide_eq_true_eq] at hc
   obtain ⟨hc0, hc⟩ := hc
   intro C w U ρ vals _ hr hH hnew hr0 hW
   have hl := hr.len
   match vals, hl, hr with
   | [v1], _, hr =>
    have h1 := hr.rv 0 (.str s) v1 rfl rfl
    cases h1 with
    | str _ hs =>
    refine (Tryz.strings_ToUpper_ascii ⟨s.toArray⟩ w (by simpa [ByteArray.size] using hc0) (fun j b hj => ?_)).mono ?_
    ·have hm : b ∈ s := List.mem_of_getElem? (by simpa using hj)
     simp only [List.all_eq_true, decide_eq_true_eq] at hc
     exact hc b hm
    ·rintro e w' ⟨rfl, hb⟩
     have hbb := post_below (r := .str (Lib.toUpperA s)) hH hnew hr0 hW hb (.str _ (by simpa [Lib.toUpperA] using hs))
     exact hbb
  ·cases hx
 ·simp at hx

def digF : Nat → Nat → Str
 | 0, _ => []
 | f + 1, n => if n < 10 then [UInt8.ofNat (48 + n)] else digF f (n / 10) ++ [UInt8.ofNat (48 + n % 10)]
def itoaF (n : Int) : Str := if n < 0 then 45 :: digF 20 n.natAbs else digF 20 n.natAbs
theorem digF_ok : ∀ (f n : Nat), n < 10 ^ f → 0 < f → digF f n = Lib.decDigits n
 | 0, _, _, h => by omega
 | f + 1, n, h, _ => by
  rw [digF, Lib.decDigits]
  split
  ·rfl
  ·rename_i hn
   have hf : 0 < f := by
    cases f with
    | zero => simp at h; omega
    | succ f => omega
   rw [digF_ok f (n / 10) (by rw [Nat.pow_succ] at h; omega) hf]
theorem digF_len : ∀ (f n : Nat), (digF f n).length ≤ f
 | 0, _ => by simp [digF]
 | f + 1, n => by
  rw [digF]
  split
  ·simp
  ·have := digF_len f (n / 10)
   simp; omega
theorem itoaF_len (n : Int) : (itoaF n).length ≤ 21 := by
 unfold itoaF
 have := digF_len 20 n.natAbs
 split <;> simp <;> omega
theorem itoaF_ok (n : Int) (h : IntOk .i64 n) : Lib.itoa n = itoaF n := by
 have h1 : -9223372036854775808 ≤ n := h.1
 have h2 : n ≤ 9223372036854775807 := h.2
 unfold Lib.itoa itoaF
 split
 ·rw [digF_ok 20 _ (by omega) (by omega)]
 ·rw [digF_ok 20 _ (by omega) (by omega)]
  congr 1
  omega
def F125 : FSem := plainC [shInt, shInt] [.str] (fun x => x.2.1 == 10) fun x => (itoaF x.1, ())
open Go.RowKit Go.Lib in
theorem FOk125 : FOk env32.P env32.gl 213 F125 := by
 refine FOk_calls ⟨Tryz.f213, by kernel_rfl, by kernel_rfl, by kernel_rfl⟩ fun x h0 res hx => ?_
 unfold plainCG at hx
 split at hx
 ·simp only [Tr.val] at hx
  split at hx
  ·rename_i hc
   simp only [Option.some.injEq] at hx
   subst hx
   obtain ⟨n, b, u⟩ := x
   have hc : (b == 10) = true := hc
   simp only [beq_iff_eq] at hc
   subst hc
   intro C w U ρ vals _ hr hH hnew hr0 hW
   have hl := hr.len
   match vals, hl, hr with
   | [v1, v2], _, hr =>
    have h1 := hr.rv 0 (.int .i64 n) v1 rfl rfl
    have h2 := hr.rv 1 (.int .i64 10) v2 rfl rfl
    cases h1 with
    | int _ _ hn =>
    cases h2
    have h5 : Rv w U (fun _ => none) (.tab .u64 pow10L) (.pointer (some ⟨5, 0, none⟩)) := hW.gl 5
    have htab : Lib.TabIs Tryz.prog w "internal/strconv.uint64pow10" .u64 Lib.pow10Tab := by
     cases h5 with
     | tab _ _ _ T fr hb hU =>
     have hg : Tryz.prog.globalNamed "internal/strconv.uint64pow10" = some 5 := by kernel_rfl
     have ht : Lib.pow10Tab = pow10L := by decide +kernel
     unfold Lib.TabIs World.var?
     rw [hg, ht]
     simp only [Option.bind_some, hb]
    refine (Tryz.strconv_FormatInt_10 n hn.1 hn.2 w htab).mono ?_
    rintro e w' ⟨rfl, k, os, rfl⟩
    rw [itoaF_ok n hn]
    exact post_below (r := .str (itoaF n)) hH hnew hr0 hW ⟨rfl, rfl, rfl, by show w.heap.size ≤ (w.heap ++ os).size; simp, fun j hj => by show (w.heap ++ os)[j]? = w.heap[j]?; rw [Array.getElem?_append_left hj]⟩ (.str _ (by have := itoaF_len n; unfold maxStr; omega))
  ·cases hx
 ·simp at hx

theorem replaceK_len (old new : Str) : ∀ (k : Nat) (s : Str), (Lib.replaceK old new k s).length ≤ s.length + k * new.length
 | 0, s => by simp [Lib.replaceK]
 | k + 1, s => by
  rw [Lib.replaceK]
  split
  ·omega
  ·have := replaceK_len old new k (s.drop ((Lib.index s old).toNat + old.length))
   simp only [List.length_append, List.length_take, List.length_drop] at this ⊢
   rw [Nat.succ_mul]
   omega
theorem replaceAll_len (s old new : Str) : (Lib.replaceAll s old new).length ≤ s.length + (s.length + 1) * new.length := by
 unfold Lib.replaceAll Lib.replace
 split
 ·omega
 ·refine Nat.le_trans (replaceK_len old new _ s) ?_
  have hc := Lib.count_le s old
  have : Lib.replaceNum s old (-1) = Lib.count s old := by unfold Lib.replaceNum; rw [if_pos (.inl (by omega))]
  rw [this]
  have := Nat.mul_le_mul_right new.length hc
  omega
def replC (s old new : Str) : Bool := decide (s.length ≤ 4000000000) && (decide (1 ≤ old.length) && decide (new.length ≤ 1000))
def F126 : FSem := plainC [.str, .str, .str] [.str] (fun x => replC x.1 x.2.1 x.2.2.1) fun x => (Lib.replaceAll x.1 x.2.1 x.2.2.1, ())
open Go.RowKit Go.Lib in
theorem FOk126 : FOk env32.P env32.gl 214 F126 := by
 refine FOk_calls ⟨Tryz.f214, by kernel_rfl, by kernel_rfl, by kernel_rfl⟩ fun x h0 res hx => ?_
 unfold plainCG at hx
 split at hx
 ·simp only [Tr.val] at hx
  split at hx
  ·rename_i hc
   simp only [Option.some.injEq] at hx
   subst hx
   obtain ⟨s, old, new, u⟩ := x
   have hc : replC s old new = true := hc
   unfold replC at hc
   simp only [Bool.and_eq_true, decide_eq_true_eq] at hc
   obtain ⟨hc1, hc2, hc3⟩ := hc
   intro C w U ρ vals _ hr hH hnew hr0 hW
   have hl := hr.len
   match vals, hl, hr with
   | [v1, v2, v3], _, hr =>
    have h1 := hr.rv 0 (.str s) v1 rfl rfl
    have h2 := hr.rv 1 (.str old) v2 rfl rfl
    have h3 := hr.rv 2 (.str new) v3 rfl rfl
    cases h1 with
    | str _ hs1 =>
    cases h2 with
    | str _ hs2 =>
    cases h3 with
    | str _ hs3 =>
    have hg1 : Rv w U (fun _ => none) .gint (.pointer (some ⟨2, 0, none⟩)) := hW.gl 2
    have hmm : ∃ m : Int, w.cell? ⟨2, 0, none⟩ = some (.int .i64 m) := by
     cases hg1 with
     | gint m _ T fr _ hb _ => exact ⟨m, by simp [World.cell?, hb]⟩
    obtain ⟨m, hm⟩ := hmm
    have hcb := Lib.countB_le (⟨old.toArray⟩ : ByteArray) (by simpa [ByteArray.size] using hc2) s.length (⟨s.toArray⟩ : ByteArray) (by simp [ByteArray.size])
    have hsz : (⟨s.toArray⟩ : ByteArray).size = s.length := by simp [ByteArray.size]
    have hnz : (⟨new.toArray⟩ : ByteArray).size = new.length := by simp [ByteArray.size]
    have hmul : Lib.countB (⟨s.toArray⟩ : ByteArray) ⟨old.toArray⟩ * new.length ≤ 4000000000 * 1000 := Nat.mul_le_mul (by omega) hc3
    refine (Tryz.strings_ReplaceAll ⟨s.toArray⟩ ⟨old.toArray⟩ ⟨new.toArray⟩ m w (by rw [hsz]; omega) hm (by simpa [ByteArray.size] using hc2) (by rw [hsz, hnz]; omega)).mono ?_
    rintro e w' ⟨rfl, hbel⟩
    refine post_below (r := .str (Lib.replaceAll s old new)) hH hnew hr0 hW hbel (.str _ ?_)
    have hlen := replaceAll_len s old new
    have hmul2 : (s.length + 1) * new.length ≤ 4000000001 * 1000 := Nat.mul_le_mul (by omega) hc3
    unfold maxStr
    omega
  ·cases hx
 ·simp at hx

def F124 : FSem := plainC [.sl .str, .str] [.str] (fun x => decide (x.1.length ≤ 140737488355328) && decide ((Lib.join x.1 x.2.1).length ≤ 140737488355328)) fun x => (Lib.join x.1 x.2.1, ())
open Go.RowKit Go.Lib in
theorem FOk124 : FOk env32.P env32.gl 212 F124 := by
 refine FOk_calls ⟨Tryz.f212, by kernel_rfl, by kernel_rfl, by kernel_rfl⟩ fun x h0 res hx => ?_
 unfold plainCG at hx
 split at hx
 ·simp only [Tr.val] at hx
  split at hx
  ·rename_i hc
   simp only [Option.some.injEq] at hx
   subst hx
   obtain ⟨l, sep, u⟩ := x
   have hc : (decide (l.length ≤ 140737488355328) && decide ((Lib.join l sep).length ≤ 140737488355328)) = true := hc
   simp only [Bool.and_eq_true, decide_eq_true_eq] at hc
   obtain ⟨hc0, hc⟩ := hc
   have hms : maxStr = 9223372036854775807 := rfl
   intro C w U ρ vals _ hr hH hnew hr0 hW
   have hl := hr.len
   match vals, hl, hr with
   | [v1, v2], _, hr =>
    have h1 := hr.rv 0 (.sl .str l) v1 rfl rfl
    have h2 := hr.rv 1 (.str sep) v2 rfl rfl
    cases h2 with
    | str _ hs2 =>
    generalize hl0 : l = l0 at h1 hc hc0 hr
    cases h1 with
    | sl0 _ a c =>
     subst hl0
     refine (Tryz.strings_Join_none a c ⟨sep.toArray⟩ w).mono ?_
     rintro e w' ⟨rfl, rfl⟩
     exact post_below (r := .str []) hH hnew hr0 hW (Below.refl _ _) (.str _ (by simp))
    | sl _ _ b o c vals' hcc hm hb hU hcell hrr =>
     subst hl0
     have hx : ∀ (j : Nat) x, (l.map fun s => (⟨s.toArray⟩ : ByteArray))[j]? = some x → w.cell? ⟨b, o + j, none⟩ = some (.string x) := by
      intro j x hj
      simp only [List.getElem?_map, Option.map_eq_some_iff] at hj
      obtain ⟨s, hs, rfl⟩ := hj
      obtain ⟨hlt, rfl⟩ := List.getElem?_eq_some_iff.1 hs
      have h3 := hcell j 0 hlt (by simp [Sh.size])
      have h4 := hrr j hlt 0 (.str l[j]) rfl
      simp only [Sh.size, Nat.mul_one, Nat.add_zero] at h3
      rw [h3]
      generalize vals' j 0 = vv at h4
      cases h4
      rfl
     have hmap : (l.map fun s => (⟨s.toArray⟩ : ByteArray)).map (·.data.toList) = l := by
      simp [List.map_map, Function.comp_def]
     have hj := Tryz.strings_Join b o c (l.map fun s => (⟨s.toArray⟩ : ByteArray)) ⟨sep.toArray⟩ w hx hb (by simpa using hc0) (by simpa using hcc) (by rw [hmap]; exact hc)
     rw [hmap] at hj
     simp only [List.length_map] at hj
     refine hj.mono ?_
     rintro e w' ⟨rfl, hbel⟩
     exact post_below (r := .str (Lib.join l sep)) hH hnew hr0 hW hbel (.str _ (by omega))
  ·cases hx
 ·simp at hx

noncomputable def env33 : Env := (((((env32.add 186 F63).add 161 F89).add 213 F125).add 214 F126).add 212 F124)
theorem env33_all : EnvAll env33 := (EnvAll.addS (EnvAll.addS (EnvAll.addS (EnvAll.addS (EnvAll.addS env32_all (SameE.refl env32) FOk63) ((SameE.refl env32).add _ _) FOk89) (((SameE.refl env32).add _ _).add _ _) FOk125) ((((SameE.refl env32).add _ _).add _ _).add _ _) FOk126) (((((SameE.refl env32).add _ _).add _ _).add _ _).add _ _) FOk124)
theorem env33_mix : env33.P.follows .mixedOrders = true := (mix_add (mix_add (mix_add (mix_add (mix_add env32_mix _ _) _ _) _ _) _ _) _ _)
open Go Go.Proofs

theorem Reach.promNil {E : Env} {C : Ctx} {fn : FuncId} {todo : List Item} {st : St} (e : Sh) (hC : ∀ id, C.ρ0 id = none) (h : Reach E C fn todo st (fun r h => (r, h) = (.nils, []))) : Reach E C fn todo st (fun r h => (r, h) = (.vec 0, [.vec e []])) := by
 intro b cs a w U ρ h1 h2 hc hW
 obtain ⟨en, w', fr, ⟨v, r, h', U', ρ', he, hq, hrv, hH, hnew, hr0, hWd⟩, hcm, hf, hl⟩ := h b cs a w U ρ h1 h2 hc hW
 cases hq
 cases hrv with
 | nils ad =>
 have hno : ∀ id o b, o = (AO.vec e [] : AO) ∨ o = AO.dead → ¬ ownsB (fun id => if id = 0 then some (.slice ad 0 0) else none) id o b := by
  rintro id o b ho ⟨h3, x, h4, h5⟩
  rcases ho with rfl | rfl
  ·simp only at h4
   split at h4
   ·cases h4
    cases ad <;> simp [blkOf] at h5
   ·cases h4
  ·simp [AO.owns] at h3
 have hob : ∀ id, (([AO.vec e []] : List AO).getD id .dead) = (if id = 0 then AO.vec e [] else AO.dead) := by
  intro id
  cases id <;> simp
 refine ⟨en, w', fr, ⟨_, _, _, U', fun id => if id = 0 then some (.slice ad 0 0) else none, he, rfl, .vec 0 _ (by simp) (by simp [Value.oneCell']), ⟨fun id => ?_, fun id1 id2 b o => ?_, fun id b o => ?_⟩, fun id hid => ?_, fun id v hv => ?_, hWd⟩, hcm, hf, hl⟩
 ·show objOk w' U' _ id (([AO.vec e []] : List AO).getD id .dead)
  rw [hob]
  split
  ·rename_i h0
   subst h0
   exact ⟨ad, 0, by simp, by simp, .inl ⟨rfl, rfl⟩⟩
  ·trivial
 ·exfalso
  have o' : ownsB (fun id => if id = 0 then some (.slice ad 0 0) else none) id1 (([AO.vec e []] : List AO).getD id1 .dead) b := o
  rw [hob] at o'
  split at o'
  ·exact hno _ _ _ (.inl rfl) o'
  ·exact hno _ _ _ (.inr rfl) o'
 ·exfalso
  have o' : ownsB (fun id => if id = 0 then some (.slice ad 0 0) else none) id (([AO.vec e []] : List AO).getD id .dead) b := o
  rw [hob] at o'
  split at o'
  ·exact hno _ _ _ (.inl rfl) o'
  ·exact hno _ _ _ (.inr rfl) o'
 ·simp at hid
  simp; omega
 ·rw [hC id] at hv; cases hv

def forkOf : Tr Leaf → List Item × List Item × St
 | .ok (.fork _ k1 k2 st) => (k1, k2, st)
 | _ => ([], [], ⟨[], []⟩)

abbrev kpC : Nat → Keep := fun _ => { }

noncomputable abbrev cl53 (l : List ExprT) : Tr Leaf := run env33 0 kpC (Func.results Tryz.f73).toList 300 (bodyOf Tryz.f73) (initSt (Func.ntmps Tryz.f73) [.sl .expr l] [])
theorem ok53 : fnChk env33.P 73 Tryz.f73 1 := by refine ⟨?_, ?_, ?_, ?_⟩ <;> kernel_rfl
theorem go53 (l : List ExprT) : cl53 l = .ok (.fork l.isEmpty (forkOf (cl53 l)).1 (forkOf (cl53 l)).2.1 (forkOf (cl53 l)).2.2) := by kernel_rfl
theorem on53a (l : List ExprT) : run env33 0 kpC (Func.results Tryz.f73).toList 300 (forkOf (cl53 l)).1 (forkOf (cl53 l)).2.2 = .ok (.ret .nils []) := by kernel_rfl
theorem on53b (l : List ExprT) : run env33 0 kpC (Func.results Tryz.f73).toList 300 (forkOf (cl53 l)).2.1 (forkOf (cl53 l)).2.2 = .chk (decide (l.length ≤ 1073741824)) (.ok (.ret (.vec 0) [.vec .expr l])) := by kernel_rfl
def G53 : GSem [some (.sl .expr)] := fun x h => match h with
 | [] => .chk (decide (List.length x.1 ≤ 1073741824)) (.ok (.vec 0, [.vec .expr x.1]))
 | _ => .err
def F53 : FSem := liftF [some (.sl .expr)] G53
theorem FOk53 : FOk env33.P env33.gl 73 F53 := by
 refine FOk_of ok53 fun x h0 res hx C hC => ?_
 unfold G53 at hx
 split at hx
 ·simp only [Tr.val] at hx
  split at hx
  ·rename_i hl
   simp only [Option.some.injEq] at hx
   subst hx
   obtain ⟨l, u⟩ := x
   refine reach_ok (n0 := 0) env33_all env33_mix ok53 hC (go53 l) ?_
   refine ⟨fun he => ?_, ?_⟩
   ·have hn : l = [] := List.isEmpty_iff.1 he
    refine Reach.weaken (Q := fun r h => (r, h) = (.vec 0, [.vec .expr []])) (Reach.promNil .expr (fun id => hC id (by simp)) (reach_ok (n0 := 0) env33_all env33_mix ok53 hC (on53a l) rfl)) ?_
    intro r h hq
    cases hq
    refine ⟨_, ?_, fun _ _ _ _ h => h⟩
    show (AV.vec 0, [AO.vec Sh.expr []]) = (AV.vec 0, [AO.vec Sh.expr l])
    rw [hn]
   ·exact reach_ok (n0 := 0) env33_all env33_mix ok53 hC (on53b l) (OptOk_chk hl rfl)
  ·cases hx
 ·simp at hx

noncomputable abbrev cl32 (l : List (Sem shCol)) : Tr Leaf := run env33 0 kpC (Func.results Tryz.f69).toList 300 (bodyOf Tryz.f69) (initSt (Func.ntmps Tryz.f69) [.sl shCol l] [])
theorem ok32 : fnChk env33.P 69 Tryz.f69 1 := by refine ⟨?_, ?_, ?_, ?_⟩ <;> kernel_rfl
theorem go32 (l : List (Sem shCol)) : cl32 l = .ok (.fork l.isEmpty (forkOf (cl32 l)).1 (forkOf (cl32 l)).2.1 (forkOf (cl32 l)).2.2) := by kernel_rfl
theorem on32a (l : List (Sem shCol)) : run env33 0 kpC (Func.results Tryz.f69).toList 300 (forkOf (cl32 l)).1 (forkOf (cl32 l)).2.2 = .ok (.ret .nils []) := by kernel_rfl
theorem on32b (l : List (Sem shCol)) : run env33 0 kpC (Func.results Tryz.f69).toList 300 (forkOf (cl32 l)).2.1 (forkOf (cl32 l)).2.2 = .chk (decide (l.length ≤ 1073741824)) (.ok (.ret (.vec 0) [.vec shCol l])) := by kernel_rfl
def G32 : GSem [some (.sl shCol)] := fun x h => match h with
 | [] => .chk (decide (List.length x.1 ≤ 1073741824)) (.ok (.vec 0, [.vec shCol x.1]))
 | _ => .err
def F32 : FSem := liftF [some (.sl shCol)] G32
theorem FOk32 : FOk env33.P env33.gl 69 F32 := by
 refine FOk_of ok32 fun x h0 res hx C hC => ?_
 unfold G32 at hx
 split at hx
 ·simp only [Tr.val] at hx
  split at hx
  ·rename_i hl
   simp only [Option.some.injEq] at hx
   subst hx
   obtain ⟨l, u⟩ := x
   refine reach_ok (n0 := 0) env33_all env33_mix ok32 hC (go32 l) ?_
   refine ⟨fun he => ?_, ?_⟩
   ·have hn : l = [] := List.isEmpty_iff.1 he
    refine Reach.weaken (Q := fun r h => (r, h) = (.vec 0, [.vec shCol []])) (Reach.promNil shCol (fun id => hC id (by simp)) (reach_ok (n0 := 0) env33_all env33_mix ok32 hC (on32a l) rfl)) ?_
    intro r h hq
    cases hq
    refine ⟨_, ?_, fun _ _ _ _ h => h⟩
    show (AV.vec 0, [AO.vec shCol []]) = (AV.vec 0, [AO.vec shCol l])
    rw [hn]
   ·exact reach_ok (n0 := 0) env33_all env33_mix ok32 hC (on32b l) (OptOk_chk hl rfl)
  ·cases hx
 ·simp at hx
open Go Go.Proofs

noncomputable def envC : Env := (env33.add 73 F53).add 69 F32
theorem envC_all : EnvAll envC := (EnvAll.addS (EnvAll.addS env33_all (SameE.refl env33) FOk53) ((SameE.refl env33).add _ _) FOk32)
theorem envC_mix : envC.P.follows .mixedOrders = true := (mix_add (mix_add env33_mix _ _) _ _)
def F33c (c : ExprT → Bool) : FSem := plainC [.expr] [.expr] (fun x => c x.1) fun x => (x.1, ())
noncomputable def en33 (c : ExprT → Bool) : Env := envC.add 35 (F33c c)
theorem en33_all {c : ExprT → Bool} (hg : FOk envC.P envC.gl 35 (F33c c)) : EnvAll (en33 c) := envC_all.add hg
theorem en33_mix {c : ExprT → Bool} : (en33 c).P.follows .mixedOrders = true := mix_add envC_mix _ _
abbrev kp33 : Nat → Keep := fun j => if j = 3 then { slots := [1, 2, 10, 11] } else { }
abbrev s33_3 (i10 : Int) (i11 : Int) (ja0 : Str) (ja1 : Int) (ja2 : Int) (ja3 : Str) (ja4 : Str) (lh_2 : List (Sem Sh.expr)) : St := {
 tmps :=
  [AV.any, AV.ptr 0 0, AV.ptr 1 0, AV.any, AV.any, AV.any, AV.any, AV.any, AV.any, AV.any, AV.int .i64 i10, AV.int .i64 i11, AV.any, AV.any,
   AV.any, AV.any, AV.any, AV.any, AV.any, AV.any, AV.any, AV.any, AV.any, AV.any, AV.any, AV.any],
 heap :=
  [AO.box [AV.str ja0, AV.int .i64 ja1, AV.int .i64 ja2, AV.str ja3, AV.str ja4, AV.vec 2],
   AO.box [AV.str [], AV.int .i64 0, AV.int .i64 0, AV.str [], AV.str [], AV.nils], AO.vec Sh.expr lh_2] }
theorem ok33 (c : ExprT → Bool) : fnChk (en33 c).P 35 Tryz.f35 1 := by refine ⟨?_, ?_, ?_, ?_⟩ <;> kernel_rfl
theorem go33 (c : ExprT → Bool) (op : Str) (v : V) (s : Str) (l : List ExprT) : run (en33 c) 0 kp33 (Func.results Tryz.f35).toList 400 (bodyOf Tryz.f35) (initSt (Func.ntmps Tryz.f35) [datum Sh.expr (ExprT.mk op v s l)] []) =
 Tr.chk (decide (l.length ≤ 1073741824)) (Tr.ok (Leaf.head 3 (headK Tryz.f35 3) (s33_3 (↑l.length : Int) 0 op v.1 v.2.1 v.2.2 s l))) := by kernel_rfl
theorem on33_3 (c : ExprT → Bool) (i10 : Int) (i11 : Int) (ja0 : Str) (ja1 : Int) (ja2 : Int) (ja3 : Str) (ja4 : Str) (lh_2 : List (Sem Sh.expr)) : run (en33 c) 0 kp33 (Func.results Tryz.f35).toList 400 (headK Tryz.f35 3) (s33_3 i10 i11 ja0 ja1 ja2 ja3 ja4 lh_2) =
 Tr.br (decide (i11 < i10))
 (Tr.chk (inB i11 lh_2.length)
  (Tr.chk (decide (i11.toNat < lh_2.length))
   (Tr.chk (c (etaE (lh_2.getD i11.toNat (dflt Sh.expr))))
    (Tr.chk (inB i11 lh_2.length)
     (Tr.chk (decide (i11.toNat < lh_2.length))
      (Tr.ok
       (Leaf.head 3 (headK Tryz.f35 3)
        (s33_3 i10 (IntKind.i64.wrap (i11 + 1)) ja0 ja1 ja2 ja3 ja4
         (lh_2.set i11.toNat
          (etaE (lh_2.getD i11.toNat (dflt Sh.expr))))))))))))
 (Tr.ok
  (Leaf.ret (AV.agg [AV.str ja0, AV.int .i64 ja1, AV.int .i64 ja2, AV.str ja3, AV.str ja4, AV.vec 0]) [AO.vec Sh.expr lh_2])) := by kernel_rfl

theorem at33 {c : ExprT → Bool} (hg : FOk envC.P envC.gl 35 (F33c c)) {C : Ctx} (hC : ∀ id, C.ρ0 id = none) (op : Str) (v : V) (s : Str) (l : List ExprT) (hl : l.length ≤ 1073741824) (hcl : l.all c = true) :
  ∀ (k i : Nat), l.length - i = k → i ≤ l.length → Reach (en33 c) C 35 (headK Tryz.f35 3) (s33_3 l.length i op v.1 v.2.1 v.2.2 s l) (fun r h => resOf h [.expr] r = some (ExprT.mk op v s l, ())) := by
 intro k
 induction k with
 | zero =>
  intro i hk hi
  obtain rfl : i = l.length := by omega
  refine reach_ok (n0 := 0) (en33_all hg) en33_mix (ok33 c) (fun id _ => hC id) (on33_3 c _ _ _ _ _ _ _ _) ?_
  simp only [lt_dec', Tr.val_brF]
  rfl
 | succ k IH =>
  intro i hk hi
  have hlt : i < l.length := by omega
  refine reach_ok (n0 := 0) (en33_all hg) en33_mix (ok33 c) (fun id _ => hC id) (on33_3 c _ _ _ _ _ _ _ _) ?_
  have h1 : c l[i] = true := List.all_eq_true.1 hcl _ (List.getElem_mem hlt)
  have h2 : decide ((i : Int).toNat < l.length) = true := by simpa using hlt
  have h3 : l.set (i : Int).toNat l[i] = l := by simp
  simp only [lt_dec hlt, inB_of hlt, getD_at l _ hlt, ExprT.eta, Tr.val_brT, Tr.val_chkT, h1, h2, h3, wrap_add i (by unfold maxStr; omega)]
  exact IH (i + 1) (by omega) (by omega)

def cpC : Nat → ExprT → Bool
 | 0, _ => false
 | n + 1, .mk _ _ _ l => decide (l.length ≤ 1073741824) && l.all (cpC n)

theorem FOk33N : ∀ n, FOk envC.P envC.gl 35 (F33c (cpC n))
 | 0 => FOk_none ⟨Tryz.f35, (ok33 (fun _ => false)).1, (ok33 (fun _ => false)).2.1, (ok33 (fun _ => false)).2.2.1⟩ (fun _ => rfl)
 | n + 1 => by
  refine FOk_plainC (E := en33 (cpC n)) (ok33 _) fun x hc C hC => ?_
  obtain ⟨⟨op, v, s, l⟩, u⟩ := x
  have hc : (decide (l.length ≤ 1073741824) && l.all (cpC n)) = true := hc
  simp only [Bool.and_eq_true, decide_eq_true_eq] at hc
  refine reach_ok (n0 := 0) (en33_all (FOk33N n)) en33_mix (ok33 _) (fun id _ => hC id) (go33 _ op v s l) ?_
  refine OptOk_chk (by simpa using hc.1) ?_
  exact at33 (FOk33N n) hC op v s l hc.1 hc.2 _ 0 rfl (Nat.zero_le _)
def F33 : FSem := F33c (cpC 16)
theorem FOk33 : FOk envC.P envC.gl 35 F33 := FOk33N 16
noncomputable def env34 : Env := envC.add 35 F33
theorem env34_all : EnvAll env34 := (EnvAll.addS envC_all (SameE.refl envC) FOk33)
theorem env34_mix : env34.P.follows .mixedOrders = true := (mix_add envC_mix _ _)
open Go

def splitK : (ks : List Sh) → HArgs (ks.map some ++ [none]) → HArgs (ks.map some) × AV
 | [], x => ((), x.1)
 | _ :: ks, x => ((x.1, (splitK ks x.2).1), (splitK ks x.2).2)

theorem avs_splitK : ∀ (ks : List Sh) (x : HArgs (ks.map some ++ [none])), avs (ks.map some ++ [none]) x = avs (ks.map some) (splitK ks x).1 ++ [(splitK ks x).2]
 | [], _ => rfl
 | s :: ks, x => congrArg (datum s x.1 :: ·) (avs_splitK ks x.2)

def isClo (k : Nat) : AV → Bool
 | .clo (.func j) [] [] => j == k
 | _ => false

theorem isClo_eq {k : Nat} {v : AV} (h : isClo k v = true) : v = .clo (.func k) [] [] := by
 unfold isClo at h
 split at h
 ·rw [beq_iff_eq] at h; rw [h]
 ·cases h

abbrev AltK (ks outs : List Sh) := Nat × (HArgs (ks.map some) → Bool) × (HArgs (ks.map some) → HArgs (outs.map some))

def altK {ks outs : List Sh} (v : AV) : List (AltK ks outs) → Option ((HArgs (ks.map some) → Bool) × (HArgs (ks.map some) → HArgs (outs.map some)))
 | [] => none
 | (k, a) :: r => if isClo k v then some a else altK v r

theorem altK_mem {ks outs : List Sh} {v : AV} {a} : ∀ {l : List (AltK ks outs)}, altK v l = some a → ∃ k, v = .clo (.func k) [] [] ∧ (k, a) ∈ l
 | [], h => by cases h
 | (k, b) :: r, h => by
  unfold altK at h
  split at h
  ·rename_i hk
   cases h
   exact ⟨k, isClo_eq hk, List.mem_cons_self ..⟩
  ·obtain ⟨j, h1, h2⟩ := altK_mem h
   exact ⟨j, h1, List.mem_cons_of_mem _ h2⟩

def plainKG (ks outs : List Sh) (l : List (AltK ks outs)) : GSem (ks.map some ++ [none]) := fun x h => match h with
 | [] => match altK (splitK ks x).2 l with
  | some (c, g) => .chk (c (splitK ks x).1) (.ok (resAV outs (g (splitK ks x).1), []))
  | none => .err
 | _ => .err

def plainK (ks outs : List Sh) (l : List (AltK ks outs)) : FSem := liftF (ks.map some ++ [none]) (plainKG ks outs l)

theorem FOk_plainK {E : Env} {k : FuncId} {f : Func} {ks outs : List Sh} {l : List (AltK ks outs)} (hf : fnChk E.P k f (ks.length + 1))
  (h : ∀ j c g, (j, c, g) ∈ l → ∀ x, c x = true → ∀ C : Ctx, (∀ id, C.ρ0 id = none) → Reach E C k (bodyOf f) (initSt f.ntmps (avs (ks.map some) x ++ [.clo (.func j) [] []]) []) (fun r h => resOf h outs r = some (g x))) : FOk E.P E.gl k (plainK ks outs l) := by
 refine FOk_of (by simpa using hf) fun x h0 res hx C hC => ?_
 unfold plainKG at hx
 split at hx
 ·split at hx
  ·rename_i c g hal
   obtain ⟨j, hv, hm⟩ := altK_mem hal
   simp only [Tr.val] at hx
   split at hx
   ·rename_i hc
    simp only [Option.some.injEq] at hx
    subst hx
    rw [avs_splitK, hv]
    exact Reach.plain (fun id => hC id (by simp)) (h j c g hm _ hc C (fun id => hC id (by simp)))
   ·simp at hx
  ·simp at hx
 ·simp at hx

open Go Go.Proofs
set_option maxHeartbeats 4000000
abbrev shRef : Sh := .pr .str .str
abbrev shSet : Sh := .pr .str .expr
abbrev shStmt : Sh := .pr .str (.pr .str (.pr .str (.pr (.sl .str) (.pr (.sl shCol) (.pr .str (.pr (.sl .str) (.pr (.sl shRef) (.pr .expr (.pr (.sl shVal) (.pr (.sl shSet) (.pr .expr .str)))))))))))
def etaS (x : Sem shStmt) : Sem shStmt := (x.1, x.2.1, x.2.2.1, x.2.2.2.1, x.2.2.2.2.1, x.2.2.2.2.2.1, x.2.2.2.2.2.2.1, x.2.2.2.2.2.2.2.1, etaE x.2.2.2.2.2.2.2.2.1, x.2.2.2.2.2.2.2.2.2.1, x.2.2.2.2.2.2.2.2.2.2.1, etaE x.2.2.2.2.2.2.2.2.2.2.2.1, x.2.2.2.2.2.2.2.2.2.2.2.2)
theorem etaS_eq (x : Sem shStmt) : etaS x = x := by unfold etaS; rw [etaE_eq, etaE_eq]

abbrev kp128 : Nat → Keep := fun j => if j = 2 then { slots := [0, 2, 4] } else { }
abbrev s128_2 (s0 : TS) (i4 : Int) (ja0 : Int) (ja1 : List UInt8) : St := { tmps := [AV.str s0, ny, AV.ptr 0 0, ny, ai i4, ny, ny, ny, ny, ny, ny, ny, ny, ny, ny, ny, ny, ny, ny, ny, ny, ny, ny, ny, ny, ny, ny, ny, ny, ny, ny, ny, ny, ny, ny, ny, ny], heap := [AO.box [ai ja0, AV.str ja1]] }
theorem ok128 : fnChk (env34).P 217 Tryz.f217 1 := by refine ⟨?_, ?_, ?_, ?_⟩ <;> kernel_rfl
theorem go128 (x0 : TS) : run (env34) 0 kp128 (Func.results Tryz.f217).toList 400 (bodyOf Tryz.f217) (initSt (Func.ntmps Tryz.f217) [datum Sh.str x0] []) = Tr.ok (Leaf.head 2 (headK Tryz.f217 2) (s128_2 x0 1 0 [])) := by kernel_rfl
theorem on128_2 (s0 : TS) (i4 : Int) (ja0 : Int) (ja1 : List UInt8) : run (env34) 0 kp128 (Func.results Tryz.f217).toList 400 (headK Tryz.f217 2) (s128_2 s0 i4 ja0 ja1) = Tr.br (decide (i4 < (↑(List.length s0) : Int))) (Tr.chk (inB i4 (List.length s0)) (Tr.br ((↑(List.getD s0 i4.toNat 0).toNat : Int) != 39) (Tr.ok (Leaf.head 2 (headK Tryz.f217 2) (s128_2 s0 (IntKind.i64.wrap (i4 + 1)) ja0 ja1))) (Tr.chk (bif decide (IntKind.i64.wrap (i4 + 1) < (↑(List.length s0) : Int)) then inB (IntKind.i64.wrap (i4 + 1)) (List.length s0) else true) (Tr.br (bif decide (IntKind.i64.wrap (i4 + 1) < (↑(List.length s0) : Int)) then (↑(List.getD s0 (IntKind.i64.wrap (i4 + 1)).toNat 0).toNat : Int) == 39 else false) (Tr.ok (Leaf.head 2 (headK Tryz.f217 2) (s128_2 s0 (IntKind.i64.wrap (IntKind.i64.wrap (i4 + 1) + 1)) ja0 ja1))) (Tr.chk (decide (0 ≤ 1) && decide (1 ≤ i4) && decide (i4 ≤ (↑(List.length s0) : Int))) (Tr.chk (replC (List.take (i4.toNat - Int.toNat 1) (List.drop (Int.toNat 1) s0)) [39, 39] [39]) (Tr.ok (Leaf.ret (AV.tup [AV.agg [ai 3, AV.str (Lib.replaceAll (List.take (i4.toNat - Int.toNat 1) (List.drop (Int.toNat 1) s0)) [39, 39] [39])], ai (IntKind.i64.wrap (i4 + 1))]) [])))))))) (Tr.ok (Leaf.ret (AV.tup [AV.agg [ai 0, AV.str []], ai 0]) [])) := by kernel_rfl
def quoted_2 : Nat → (Sem Sh.str) → Int → Int → (List UInt8) → Sem shTok × Sem shInt
 | 0, _, _, _, _ => default
 | n + 1, s0, i4, ja0, ja1 => (if decide (i4 < (↑(List.length s0) : Int)) = true then
 if ((↑(List.getD s0 i4.toNat 0).toNat : Int) != 39) = true then quoted_2 n s0 (IntKind.i64.wrap (i4 + 1)) ja0 ja1
 else
  if
    (bif decide (IntKind.i64.wrap (i4 + 1) < (↑(List.length s0) : Int)) then (↑(List.getD s0 (IntKind.i64.wrap (i4 + 1)).toNat 0).toNat : Int) == 39
     else false) =
     true then
   quoted_2 n s0 (IntKind.i64.wrap (IntKind.i64.wrap (i4 + 1) + 1)) ja0 ja1
  else ((3, Lib.replaceAll (List.take (i4.toNat - Int.toNat 1) (List.drop (Int.toNat 1) s0)) [39, 39] [39]), IntKind.i64.wrap (i4 + 1))
else ((0, []), 0))
def quotedC_2 : Nat → (Sem Sh.str) → Int → Int → (List UInt8) → Bool
 | 0, _, _, _, _ => false
 | n + 1, s0, i4, ja0, ja1 => (if decide (i4 < (↑(List.length s0) : Int)) = true then
 if inB i4 (List.length s0) = true then
  if ((↑(List.getD s0 i4.toNat 0).toNat : Int) != 39) = true then quotedC_2 n s0 (IntKind.i64.wrap (i4 + 1)) ja0 ja1
  else
   if (bif decide (IntKind.i64.wrap (i4 + 1) < (↑(List.length s0) : Int)) then inB (IntKind.i64.wrap (i4 + 1)) (List.length s0) else true) = true then
    if
      (bif decide (IntKind.i64.wrap (i4 + 1) < (↑(List.length s0) : Int)) then (↑(List.getD s0 (IntKind.i64.wrap (i4 + 1)).toNat 0).toNat : Int) == 39
       else false) =
       true then
     quotedC_2 n s0 (IntKind.i64.wrap (IntKind.i64.wrap (i4 + 1) + 1)) ja0 ja1
    else
     if (decide (0 ≤ 1) && decide (1 ≤ i4) && decide (i4 ≤ (↑(List.length s0) : Int))) = true then
      if replC (List.take (i4.toNat - Int.toNat 1) (List.drop (Int.toNat 1) s0)) [39, 39] [39] = true then true else false
     else false
   else false
 else false
else true)
theorem at128_2 {C : Ctx} (hC : ∀ id, C.ρ0 id = none) : ∀ (n : Nat) (s0 : TS) (i4 : Int) (ja0 : Int) (ja1 : List UInt8), quotedC_2 n s0 i4 ja0 ja1 = true →
  Reach (env34) C 217 (headK Tryz.f217 2) (s128_2 s0 i4 ja0 ja1) (fun r h => resOf h [shTok, shInt] r = some ((quoted_2 n s0 i4 ja0 ja1).1, (quoted_2 n s0 i4 ja0 ja1).2, ()))
 | 0, s0, i4, ja0, ja1, hc => by cases hc
 | n + 1, s0, i4, ja0, ja1, hc => by
  refine reach_ok env34_all env34_mix (ok128) (fun id _ => hC id) (on128_2 _ _ _ _) ?_
  rw [quotedC_2] at hc
  generalize hy : quoted_2 (n + 1) s0 i4 ja0 ja1 = y
  rw [quoted_2] at hy
  try simp only [ExprT.eta, etaE_eq]
  repeat' (first | with_reducible refine obr hy hc (fun _ hy hc => ?_) (fun _ hy hc => ?_) | with_reducible refine obr1 hy (fun _ hy => ?_) (fun _ hy => ?_) | with_reducible refine ochk hc (fun hc => ?_) | with_reducible refine OptOk_chkT ?_)
  all_goals first | (cases hc; done) | (subst hy; first | (change Reach _ _ _ _ _ _; refine at128_2 hC n _ _ _ _ ?_ <;> exact hc) | rfl)
def quoted (x0 : TS) : Sem shTok × Sem shInt := (quoted_2 (List.length x0 + 1) x0 1 0 [])
def quotedC (x0 : TS) : Bool := (quotedC_2 (List.length x0 + 1) x0 1 0 [])
def F128 : FSem := plainC [Sh.str] [shTok, shInt] (fun x => quotedC x.1) fun x => ((quoted x.1).1, (quoted x.1).2, ())
theorem FOk128 : FOk (env34).P (env34).gl 217 F128 := by
 refine FOk_plainC (ok128) fun x hc C hC => ?_
 unfold quotedC at hc
 refine reach_ok env34_all env34_mix (ok128) (fun id _ => hC id) (go128 x.1) ?_
 generalize hy : quoted x.1 = y
 unfold quoted at hy
 try simp only [ExprT.eta, etaE_eq]
 repeat' (first | with_reducible refine obr hy hc (fun _ hy hc => ?_) (fun _ hy hc => ?_) | with_reducible refine obr1 hy (fun _ hy => ?_) (fun _ hy => ?_) | with_reducible refine ochk hc (fun hc => ?_) | with_reducible refine OptOk_chkT ?_)
 all_goals first | (cases hc; done) | (subst hy; first | (change Reach _ _ _ _ _ _; refine at128_2 hC _ _ _ _ _ ?_ <;> exact hc) | rfl)

abbrev kp113 : Nat → Keep := fun _ => { }
theorem ok113 : fnChk (env34).P 201 Tryz.f201 1 := by refine ⟨?_, ?_, ?_, ?_⟩ <;> kernel_rfl
theorem go113 (x0 : Sem Sh.expr) : run (env34) 0 kp113 (Func.results Tryz.f201).toList 400 (bodyOf Tryz.f201) (initSt (Func.ntmps Tryz.f201) [datum Sh.expr x0] []) = Tr.ok (Leaf.ret (AV.bool (bif ExprT.op x0 == [] then bif (ExprT.v x0).1 == 0 && ((ExprT.v x0).2.1 == 0 && ((ExprT.v x0).2.2 == [] && true)) then bif ExprT.s x0 == [] then (↑(ExprT.l x0).length : Int) == 0 else false else false else false)) []) := by kernel_rfl
def eNone (x0 : Sem Sh.expr) : Sem Sh.bool := (bif ExprT.op x0 == [] then bif (ExprT.v x0).1 == 0 && ((ExprT.v x0).2.1 == 0 && ((ExprT.v x0).2.2 == [] && true)) then bif ExprT.s x0 == [] then (↑(ExprT.l x0).length : Int) == 0 else false else false else false)
def F113 : FSem := plainT [Sh.expr] [Sh.bool] fun x => (eNone x.1, ())
theorem FOk113 : FOk (env34).P (env34).gl 201 F113 := by
 refine FOk_plainT (ok113) fun x C hC => ?_
 refine reach_ok env34_all env34_mix (ok113) (fun id _ => hC id) (go113 x.1) ?_
 generalize hy : eNone x.1 = y
 unfold eNone at hy
 try simp only [ExprT.eta, etaE_eq]
 repeat' (first | with_reducible refine obr1 hy (fun _ hy => ?_) (fun _ hy => ?_) | with_reducible refine OptOk_chkT ?_)
 all_goals first | (cases hc; done) | (subst hy; first | rfl)

abbrev kp123 : Nat → Keep := fun _ => { }
theorem ok123 : fnChk (env34).P 211 Tryz.f211 1 := by refine ⟨?_, ?_, ?_, ?_⟩ <;> kernel_rfl
theorem go123 (x0 : Sem shCol) : run (env34) 0 kp123 (Func.results Tryz.f211).toList 400 (bodyOf Tryz.f211) (initSt (Func.ntmps Tryz.f211) [datum shCol x0] []) = Tr.br x0.2.2 (Tr.chk (decide (List.length x0.1 + [32].length ≤ 1099511627776) && (inB (IntKind.i64.wrap (x0.2.1 - 1)) 3 && bif IntKind.i64.wrap (x0.2.1 - 1) == (↑0 : Int) then decide (List.length (x0.1 ++ [32]) + [73, 78, 84].length ≤ 1099511627776) && decide (List.length (x0.1 ++ [32] ++ [73, 78, 84]) + [32, 78, 79, 84, 32, 78, 85, 76, 76].length ≤ 1099511627776) else bif IntKind.i64.wrap (x0.2.1 - 1) == (↑(0 + 1) : Int) then decide (List.length (x0.1 ++ [32]) + [84, 69, 88, 84].length ≤ 1099511627776) && decide (List.length (x0.1 ++ [32] ++ [84, 69, 88, 84]) + [32, 78, 79, 84, 32, 78, 85, 76, 76].length ≤ 1099511627776) else decide (List.length (x0.1 ++ [32]) + [66, 79, 79, 76].length ≤ 1099511627776) && decide (List.length (x0.1 ++ [32] ++ [66, 79, 79, 76]) + [32, 78, 79, 84, 32, 78, 85, 76, 76].length ≤ 1099511627776))) (Tr.ok (Leaf.ret (AV.str (bif IntKind.i64.wrap (x0.2.1 - 1) == (↑0 : Int) then x0.1 ++ [32] ++ [73, 78, 84] ++ [32, 78, 79, 84, 32, 78, 85, 76, 76] else bif IntKind.i64.wrap (x0.2.1 - 1) == (↑(0 + 1) : Int) then x0.1 ++ [32] ++ [84, 69, 88, 84] ++ [32, 78, 79, 84, 32, 78, 85, 76, 76] else x0.1 ++ [32] ++ [66, 79, 79, 76] ++ [32, 78, 79, 84, 32, 78, 85, 76, 76])) []))) (Tr.chk (decide (List.length x0.1 + [32].length ≤ 1099511627776) && (inB (IntKind.i64.wrap (x0.2.1 - 1)) 3 &&
 bif IntKind.i64.wrap (x0.2.1 - 1) == (↑0 : Int) then decide (List.length (x0.1 ++ [32]) + [73, 78, 84].length ≤ 1099511627776) else bif IntKind.i64.wrap (x0.2.1 - 1) == (↑(0 + 1) : Int) then decide (List.length (x0.1 ++ [32]) + [84, 69, 88, 84].length ≤ 1099511627776) else decide (List.length (x0.1 ++ [32]) + [66, 79, 79, 76].length ≤ 1099511627776))) (Tr.ok (Leaf.ret (AV.str (bif IntKind.i64.wrap (x0.2.1 - 1) == (↑0 : Int) then x0.1 ++ [32] ++ [73, 78, 84] else bif IntKind.i64.wrap (x0.2.1 - 1) == (↑(0 + 1) : Int) then x0.1 ++ [32] ++ [84, 69, 88, 84] else x0.1 ++ [32] ++ [66, 79, 79, 76])) []))) := by kernel_rfl
def colText (x0 : Sem shCol) : Sem Sh.str := (if x0.2.2 = true then bif IntKind.i64.wrap (x0.2.1 - 1) == (↑0 : Int) then x0.1 ++ [32] ++ [73, 78, 84] ++ [32, 78, 79, 84, 32, 78, 85, 76, 76] else bif IntKind.i64.wrap (x0.2.1 - 1) == (↑(0 + 1) : Int) then x0.1 ++ [32] ++ [84, 69, 88, 84] ++ [32, 78, 79, 84, 32, 78, 85, 76, 76] else x0.1 ++ [32] ++ [66, 79, 79, 76] ++ [32, 78, 79, 84, 32, 78, 85, 76, 76] else bif IntKind.i64.wrap (x0.2.1 - 1) == (↑0 : Int) then x0.1 ++ [32] ++ [73, 78, 84] else bif IntKind.i64.wrap (x0.2.1 - 1) == (↑(0 + 1) : Int) then x0.1 ++ [32] ++ [84, 69, 88, 84] else x0.1 ++ [32] ++ [66, 79, 79, 76])
def colTextC (x0 : Sem shCol) : Bool := (if x0.2.2 = true then if (decide (List.length x0.1 + [32].length ≤ 1099511627776) && (inB (IntKind.i64.wrap (x0.2.1 - 1)) 3 && bif IntKind.i64.wrap (x0.2.1 - 1) == (↑0 : Int) then decide (List.length (x0.1 ++ [32]) + [73, 78, 84].length ≤ 1099511627776) && decide (List.length (x0.1 ++ [32] ++ [73, 78, 84]) + [32, 78, 79, 84, 32, 78, 85, 76, 76].length ≤ 1099511627776) else bif IntKind.i64.wrap (x0.2.1 - 1) == (↑(0 + 1) : Int) then decide (List.length (x0.1 ++ [32]) + [84, 69, 88, 84].length ≤ 1099511627776) && decide (List.length (x0.1 ++ [32] ++ [84, 69, 88, 84]) + [32, 78, 79, 84, 32, 78, 85, 76, 76].length ≤ 1099511627776) else decide (List.length (x0.1 ++ [32]) + [66, 79, 79, 76].length ≤ 1099511627776) && decide (List.length (x0.1 ++ [32] ++ [66, 79, 79, 76]) + [32, 78, 79, 84, 32, 78, 85, 76, 76].length ≤ 1099511627776))) = true then true else false else if (decide (List.length x0.1 + [32].length ≤ 1099511627776) && (inB (IntKind.i64.wrap (x0.2.1 - 1)) 3 && bif IntKind.i64.wrap (x0.2.1 - 1) == (↑0 : Int) then decide (List.length (x0.1 ++ [32]) + [73, 78, 84].length ≤ 1099511627776) else bif IntKind.i64.wrap (x0.2.1 - 1) == (↑(0 + 1) : Int) then decide (List.length (x0.1 ++ [32]) + [84, 69, 88, 84].length ≤ 1099511627776) else decide (List.length (x0.1 ++ [32]) + [66, 79, 79, 76].length ≤ 1099511627776))) = true then true else false)
def F123 : FSem := plainC [shCol] [Sh.str] (fun x => colTextC x.1) fun x => (colText x.1, ())
theorem FOk123 : FOk (env34).P (env34).gl 211 F123 := by
 refine FOk_plainC (ok123) fun x hc C hC => ?_
 unfold colTextC at hc
 refine reach_ok env34_all env34_mix (ok123) (fun id _ => hC id) (go123 x.1) ?_
 generalize hy : colText x.1 = y
 unfold colText at hy
 try simp only [ExprT.eta, etaE_eq]
 repeat' (first | with_reducible refine obr hy hc (fun _ hy hc => ?_) (fun _ hy hc => ?_) | with_reducible refine obr1 hy (fun _ hy => ?_) (fun _ hy => ?_) | with_reducible refine ochk hc (fun hc => ?_) | with_reducible refine OptOk_chkT ?_)
 all_goals first | (cases hc; done) | (subst hy; first | rfl)

abbrev kp88 : Nat → Keep := fun _ => { }
theorem ok88 : fnChk (env34).P 160 Tryz.f160 1 := by refine ⟨?_, ?_, ?_, ?_⟩ <;> kernel_rfl
theorem go88 (x0 : TS) : run (env34) 0 kp88 (Func.results Tryz.f160).toList 400 (bodyOf Tryz.f160) (initSt (Func.ntmps Tryz.f160) [datum Sh.str x0] []) = Tr.ok (Leaf.ret (AV.str x0) []) := by kernel_rfl
def sSame (x0 : TS) : Sem Sh.str := (x0)
def F88 : FSem := plainT [Sh.str] [Sh.str] fun x => (sSame x.1, ())
theorem FOk88 : FOk (env34).P (env34).gl 160 F88 := by
 refine FOk_plainT (ok88) fun x C hC => ?_
 refine reach_ok env34_all env34_mix (ok88) (fun id _ => hC id) (go88 x.1) ?_
 generalize hy : sSame x.1 = y
 unfold sSame at hy
 try simp only [ExprT.eta, etaE_eq]
 repeat' (first | with_reducible refine obr1 hy (fun _ hy => ?_) (fun _ hy => ?_) | with_reducible refine OptOk_chkT ?_)
 all_goals first | (cases hc; done) | (subst hy; first | rfl)

abbrev kp80 : Nat → Keep := fun _ => { }
theorem ok80 : fnChk (env34).P 151 Tryz.f151 1 := by refine ⟨?_, ?_, ?_, ?_⟩ <;> kernel_rfl
theorem go80 (x0 : TS) : run (env34) 0 kp80 (Func.results Tryz.f151).toList 400 (bodyOf Tryz.f151) (initSt (Func.ntmps Tryz.f151) [datum Sh.str x0] []) = Tr.ok (Leaf.ret (AV.bool (bif wName x0 then !resv x0 else false)) []) := by kernel_rfl
def sName (x0 : TS) : Sem Sh.bool := (bif wName x0 then !resv x0 else false)
def F80 : FSem := plainT [Sh.str] [Sh.bool] fun x => (sName x.1, ())
theorem FOk80 : FOk (env34).P (env34).gl 151 F80 := by
 refine FOk_plainT (ok80) fun x C hC => ?_
 refine reach_ok env34_all env34_mix (ok80) (fun id _ => hC id) (go80 x.1) ?_
 generalize hy : sName x.1 = y
 unfold sName at hy
 try simp only [ExprT.eta, etaE_eq]
 repeat' (first | with_reducible refine obr1 hy (fun _ hy => ?_) (fun _ hy => ?_) | with_reducible refine OptOk_chkT ?_)
 all_goals first | (cases hc; done) | (subst hy; first | rfl)

abbrev kp49b : Nat → Keep := fun _ => { unroll := true }
theorem ok49b : fnChk (env34).P 141 Tryz.f141 1 := by refine ⟨?_, ?_, ?_, ?_⟩ <;> kernel_rfl
theorem go49b (x0 : Sem shTok) : run (env34) 0 kp49b (Func.results Tryz.f141).toList 400 (bodyOf Tryz.f141) (initSt (Func.ntmps Tryz.f141) [datum shTok x0] []) = Tr.br (x0.1 == 3) (Tr.ok (Leaf.ret (AV.bool (vMay (2, 0, x0.2))) [])) (Tr.br (x0.1 == 4) (Tr.chk (bif (↑(List.length x0.2) : Int) == 1 then List.length x0.2 == 1 else true) (Tr.ok (Leaf.ret (AV.bool (bif (↑(List.length x0.2) : Int) == 1 then decide (0 ≤ Lib.indexByte [40, 41, 44, 61, 60, 43, 45, 42] (List.headD x0.2 0)) else false)) []))) (Tr.br true (Tr.chk true (Tr.br (1 == x0.1) (Tr.ok (Leaf.ret (AV.bool (bif decide ((↑(List.length x0.2) : Int) ≥ 1) then bif decide ((↑(List.length x0.2) : Int) ≤ 16) then (↑(runLen letterC partC x0.2) : Int) == (↑(List.length x0.2) : Int) else false else false)) [])) (Tr.br true (Tr.chk true (Tr.br (2 == x0.1) (Tr.ok (Leaf.ret (AV.bool (bif decide ((↑(List.length x0.2) : Int) ≥ 1) then bif decide ((↑(List.length x0.2) : Int) ≤ 19) then (↑(runLen digitC digitC x0.2) : Int) == (↑(List.length x0.2) : Int) else false else false)) [])) (Tr.br false Tr.err (Tr.ok (Leaf.ret (AV.kb false) []))))) (Tr.ok (Leaf.ret (AV.kb false) []))))) (Tr.ok (Leaf.ret (AV.kb false) [])))) := by kernel_rfl
def tokMay (x0 : Sem shTok) : Sem Sh.bool := (if (x0.1 == 3) = true then vMay (2, 0, x0.2) else if (x0.1 == 4) = true then bif (↑(List.length x0.2) : Int) == 1 then decide (0 ≤ Lib.indexByte [40, 41, 44, 61, 60, 43, 45, 42] (List.headD x0.2 0)) else false else if true = true then if (1 == x0.1) = true then bif decide ((↑(List.length x0.2) : Int) ≥ 1) then bif decide ((↑(List.length x0.2) : Int) ≤ 16) then (↑(runLen letterC partC x0.2) : Int) == (↑(List.length x0.2) : Int) else false else false else if true = true then if (2 == x0.1) = true then bif decide ((↑(List.length x0.2) : Int) ≥ 1) then bif decide ((↑(List.length x0.2) : Int) ≤ 19) then (↑(runLen digitC digitC x0.2) : Int) == (↑(List.length x0.2) : Int) else false else false else if false = true then default else false else false else false)
def tokMayC (x0 : Sem shTok) : Bool := (if (x0.1 == 3) = true then true else if (x0.1 == 4) = true then if (bif (↑(List.length x0.2) : Int) == 1 then List.length x0.2 == 1 else true) = true then true else false else if true = true then if true = true then if (1 == x0.1) = true then true else if true = true then if true = true then if (2 == x0.1) = true then true else if false = true then false else true else false else true else false else true)
def F49b : FSem := plainC [shTok] [Sh.bool] (fun x => tokMayC x.1) fun x => (tokMay x.1, ())
theorem FOk49b : FOk (env34).P (env34).gl 141 F49b := by
 refine FOk_plainC (ok49b) fun x hc C hC => ?_
 unfold tokMayC at hc
 refine reach_ok env34_all env34_mix (ok49b) (fun id _ => hC id) (go49b x.1) ?_
 generalize hy : tokMay x.1 = y
 unfold tokMay at hy
 try simp only [ExprT.eta, etaE_eq]
 repeat' (first | with_reducible refine obr hy hc (fun _ hy hc => ?_) (fun _ hy hc => ?_) | with_reducible refine obr1 hy (fun _ hy => ?_) (fun _ hy => ?_) | with_reducible refine ochk hc (fun hc => ?_) | with_reducible refine OptOk_chkT ?_)
 all_goals first | (cases hc; done) | (subst hy; first | rfl)

noncomputable def env35 : Env := ((((((env34.add 217 F128).add 201 F113).add 211 F123).add 160 F88).add 151 F80).add 141 F49b)
theorem env35_all : EnvAll env35 := (EnvAll.addS (EnvAll.addS (EnvAll.addS (EnvAll.addS (EnvAll.addS (EnvAll.addS env34_all (SameE.refl env34) FOk128) ((SameE.refl env34).add _ _) FOk113) (((SameE.refl env34).add _ _).add _ _) FOk123) ((((SameE.refl env34).add _ _).add _ _).add _ _) FOk88) (((((SameE.refl env34).add _ _).add _ _).add _ _).add _ _) FOk80) ((((((SameE.refl env34).add _ _).add _ _).add _ _).add _ _).add _ _) FOk49b)
theorem env35_mix : env35.P.follows .mixedOrders = true := (mix_add (mix_add (mix_add (mix_add (mix_add (mix_add env34_mix _ _) _ _) _ _) _ _) _ _) _ _)
open Go Go.Proofs
set_option maxHeartbeats 4000000

abbrev kp85 : Nat → Keep := fun _ => { }
theorem ok85 : fnChk (env35).P 157 Tryz.f157 1 := by refine ⟨?_, ?_, ?_, ?_⟩ <;> kernel_rfl
theorem go85 (x0 : Sem Sh.expr) : run (env35) 0 kp85 (Func.results Tryz.f157).toList 400 (bodyOf Tryz.f157) (initSt (Func.ntmps Tryz.f157) [datum Sh.expr x0] []) = Tr.ok (Leaf.ret (AV.bool (bif eNone (etaE x0) then true else eMay (etaE x0))) []) := by kernel_rfl
def eMaybe (x0 : Sem Sh.expr) : Sem Sh.bool := (bif eNone x0 then true else eMay x0)
def F85 : FSem := plainT [Sh.expr] [Sh.bool] fun x => (eMaybe x.1, ())
theorem FOk85 : FOk (env35).P (env35).gl 157 F85 := by
 refine FOk_plainT (ok85) fun x C hC => ?_
 refine reach_ok env35_all env35_mix (ok85) (fun id _ => hC id) (go85 x.1) ?_
 generalize hy : eMaybe x.1 = y
 unfold eMaybe at hy
 try simp only [ExprT.eta]
 repeat' (first | with_reducible refine obr1 hy (fun _ hy => ?_) (fun _ hy => ?_) | with_reducible refine OptOk_chkT ?_)
 all_goals first | (cases hc; done) | (subst hy; first | rfl)

abbrev kp105 : Nat → Keep := fun _ => { }
theorem ok105 : fnChk (env35).P 191 Tryz.f191 1 := by refine ⟨?_, ?_, ?_, ?_⟩ <;> kernel_rfl
theorem go105 (x0 : Sem shCol) : run (env35) 0 kp105 (Func.results Tryz.f191).toList 400 (bodyOf Tryz.f191) (initSt (Func.ntmps Tryz.f191) [datum shCol x0] []) = Tr.ok (Leaf.ret (AV.bool (bif sName x0.1 then bif decide (x0.2.1 ≥ 1) then decide (x0.2.1 ≤ 3) else false else false)) []) := by kernel_rfl
def colOk (x0 : Sem shCol) : Sem Sh.bool := (bif sName x0.1 then bif decide (x0.2.1 ≥ 1) then decide (x0.2.1 ≤ 3) else false else false)
def F105 : FSem := plainT [shCol] [Sh.bool] fun x => (colOk x.1, ())
theorem FOk105 : FOk (env35).P (env35).gl 191 F105 := by
 refine FOk_plainT (ok105) fun x C hC => ?_
 refine reach_ok env35_all env35_mix (ok105) (fun id _ => hC id) (go105 x.1) ?_
 generalize hy : colOk x.1 = y
 unfold colOk at hy
 try simp only [ExprT.eta, etaE_eq]
 repeat' (first | with_reducible refine obr1 hy (fun _ hy => ?_) (fun _ hy => ?_) | with_reducible refine OptOk_chkT ?_)
 all_goals first | (cases hc; done) | (subst hy; first | rfl)

abbrev kp106 : Nat → Keep := fun _ => { }
theorem ok106 : fnChk (env35).P 192 Tryz.f192 1 := by refine ⟨?_, ?_, ?_, ?_⟩ <;> kernel_rfl
theorem go106 (x0 : Sem shRef) : run (env35) 0 kp106 (Func.results Tryz.f192).toList 400 (bodyOf Tryz.f192) (initSt (Func.ntmps Tryz.f192) [datum shRef x0] []) = Tr.ok (Leaf.ret (AV.bool (bif sName x0.1 then sName x0.2 else false)) []) := by kernel_rfl
def refOk (x0 : Sem shRef) : Sem Sh.bool := (bif sName x0.1 then sName x0.2 else false)
def F106 : FSem := plainT [shRef] [Sh.bool] fun x => (refOk x.1, ())
theorem FOk106 : FOk (env35).P (env35).gl 192 F106 := by
 refine FOk_plainT (ok106) fun x C hC => ?_
 refine reach_ok env35_all env35_mix (ok106) (fun id _ => hC id) (go106 x.1) ?_
 generalize hy : refOk x.1 = y
 unfold refOk at hy
 try simp only [ExprT.eta, etaE_eq]
 repeat' (first | with_reducible refine obr1 hy (fun _ hy => ?_) (fun _ hy => ?_) | with_reducible refine OptOk_chkT ?_)
 all_goals first | (cases hc; done) | (subst hy; first | rfl)

abbrev kp83 : Nat → Keep := fun _ => { }
theorem ok83 : fnChk (env35).P 155 Tryz.f155 1 := by refine ⟨?_, ?_, ?_, ?_⟩ <;> kernel_rfl
theorem go83 (x0 : Sem shSet) : run (env35) 0 kp83 (Func.results Tryz.f155).toList 400 (bodyOf Tryz.f155) (initSt (Func.ntmps Tryz.f155) [datum shSet x0] []) = Tr.ok (Leaf.ret (AV.bool (bif sName x0.1 then eMay (etaE x0.2) else false)) []) := by kernel_rfl
def setOk (x0 : Sem shSet) : Sem Sh.bool := (bif sName x0.1 then eMay x0.2 else false)
def F83 : FSem := plainT [shSet] [Sh.bool] fun x => (setOk x.1, ())
theorem FOk83 : FOk (env35).P (env35).gl 155 F83 := by
 refine FOk_plainT (ok83) fun x C hC => ?_
 refine reach_ok env35_all env35_mix (ok83) (fun id _ => hC id) (go83 x.1) ?_
 generalize hy : setOk x.1 = y
 unfold setOk at hy
 try simp only [ExprT.eta]
 repeat' (first | with_reducible refine obr1 hy (fun _ hy => ?_) (fun _ hy => ?_) | with_reducible refine OptOk_chkT ?_)
 all_goals first | (cases hc; done) | (subst hy; first | rfl)

abbrev kp92 : Nat → Keep := fun _ => { }
theorem ok92 : fnChk (env35).P 164 Tryz.f164 1 := by refine ⟨?_, ?_, ?_, ?_⟩ <;> kernel_rfl
theorem go92 (x0 : Sem shVal) : run (env35) 0 kp92 (Func.results Tryz.f164).toList 400 (bodyOf Tryz.f164) (initSt (Func.ntmps Tryz.f164) [datum shVal x0] []) = Tr.br (!vMay x0) (Tr.ok (Leaf.ret (AV.str []) [])) (Tr.br (x0.1 == 1) (Tr.chk (10 == 10) (Tr.ok (Leaf.ret (AV.str (itoaF x0.2.1)) []))) (Tr.br (x0.1 == 2) (Tr.chk (replC x0.2.2 [39] [39, 39]) (Tr.chk (decide ([39].length + (Lib.replaceAll x0.2.2 [39] [39, 39]).length ≤ 1099511627776)) (Tr.chk (decide (List.length ([39] ++ Lib.replaceAll x0.2.2 [39] [39, 39]) + [39].length ≤ 1099511627776)) (Tr.ok (Leaf.ret (AV.str ([39] ++ Lib.replaceAll x0.2.2 [39] [39, 39] ++ [39])) []))))) (Tr.br (x0.1 == 3) (Tr.br (vSays x0 == 2) (Tr.ok (Leaf.ret (AV.str [84, 82, 85, 69]) [])) (Tr.ok (Leaf.ret (AV.str [70, 65, 76, 83, 69]) []))) (Tr.ok (Leaf.ret (AV.str [78, 85, 76, 76]) []))))) := by kernel_rfl
def vText (x0 : Sem shVal) : Sem Sh.str := (if (!vMay x0) = true then [] else if (x0.1 == 1) = true then itoaF x0.2.1 else if (x0.1 == 2) = true then [39] ++ Lib.replaceAll x0.2.2 [39] [39, 39] ++ [39] else if (x0.1 == 3) = true then if (vSays x0 == 2) = true then [84, 82, 85, 69] else [70, 65, 76, 83, 69] else [78, 85, 76, 76])
def vTextC (x0 : Sem shVal) : Bool := (if (!vMay x0) = true then true else if (x0.1 == 1) = true then if (10 == 10) = true then true else false else if (x0.1 == 2) = true then if replC x0.2.2 [39] [39, 39] = true then if decide ([39].length + (Lib.replaceAll x0.2.2 [39] [39, 39]).length ≤ 1099511627776) = true then if decide (List.length ([39] ++ Lib.replaceAll x0.2.2 [39] [39, 39]) + [39].length ≤ 1099511627776) = true then true else false else false else false else true)
def F92 : FSem := plainC [shVal] [Sh.str] (fun x => vTextC x.1) fun x => (vText x.1, ())
theorem FOk92 : FOk (env35).P (env35).gl 164 F92 := by
 refine FOk_plainC (ok92) fun x hc C hC => ?_
 unfold vTextC at hc
 refine reach_ok env35_all env35_mix (ok92) (fun id _ => hC id) (go92 x.1) ?_
 generalize hy : vText x.1 = y
 unfold vText at hy
 try simp only [ExprT.eta, etaE_eq]
 repeat' (first | with_reducible refine obr hy hc (fun _ hy hc => ?_) (fun _ hy hc => ?_) | with_reducible refine obr1 hy (fun _ hy => ?_) (fun _ hy => ?_) | with_reducible refine ochk hc (fun hc => ?_) | with_reducible refine OptOk_chkT ?_)
 all_goals first | (cases hc; done) | (subst hy; first | rfl)

abbrev kp87 : Nat → Keep := fun _ => { }
theorem ok87 : fnChk (env35).P 159 Tryz.f159 1 := by refine ⟨?_, ?_, ?_, ?_⟩ <;> kernel_rfl
theorem go87 (x0 : Sem shStmt) : run (env35) 0 kp87 (Func.results Tryz.f159).toList 400 (bodyOf Tryz.f159) (initSt (Func.ntmps Tryz.f159) [datum shStmt x0] []) = Tr.chk (decide (List.length x0.2.1 + List.length x0.2.2.1 ≤ 1099511627776)) (Tr.chk (decide (List.length (x0.2.1 ++ x0.2.2.1) + List.length x0.2.2.2.2.2.1 ≤ 1099511627776)) (Tr.chk (decide (List.length (x0.2.1 ++ x0.2.2.1 ++ x0.2.2.2.2.2.1) + List.length x0.2.2.2.2.2.2.2.2.2.2.2.2 ≤ 1099511627776)) (Tr.ok (Leaf.ret (AV.bool (bif x0.2.1 ++ x0.2.2.1 ++ x0.2.2.2.2.2.1 ++ x0.2.2.2.2.2.2.2.2.2.2.2.2 == [] then bif IntKind.i64.wrap (IntKind.i64.wrap (IntKind.i64.wrap (IntKind.i64.wrap (IntKind.i64.wrap ((↑(List.length x0.2.2.2.1) : Int) + (↑(List.length x0.2.2.2.2.1) : Int)) + (↑(List.length x0.2.2.2.2.2.2.1) : Int)) + (↑(List.length x0.2.2.2.2.2.2.2.1) : Int)) + (↑(List.length x0.2.2.2.2.2.2.2.2.2.1) : Int)) + (↑(List.length x0.2.2.2.2.2.2.2.2.2.2.1) : Int)) == 0 then bif eNone (etaE x0.2.2.2.2.2.2.2.2.1) then eNone (etaE x0.2.2.2.2.2.2.2.2.2.2.2.1) else false else false else false)) [])))) := by kernel_rfl
def sEmpty (x0 : Sem shStmt) : Sem Sh.bool := (bif x0.2.1 ++ x0.2.2.1 ++ x0.2.2.2.2.2.1 ++ x0.2.2.2.2.2.2.2.2.2.2.2.2 == [] then bif IntKind.i64.wrap (IntKind.i64.wrap (IntKind.i64.wrap (IntKind.i64.wrap (IntKind.i64.wrap ((↑(List.length x0.2.2.2.1) : Int) + (↑(List.length x0.2.2.2.2.1) : Int)) + (↑(List.length x0.2.2.2.2.2.2.1) : Int)) + (↑(List.length x0.2.2.2.2.2.2.2.1) : Int)) + (↑(List.length x0.2.2.2.2.2.2.2.2.2.1) : Int)) + (↑(List.length x0.2.2.2.2.2.2.2.2.2.2.1) : Int)) == 0 then bif eNone x0.2.2.2.2.2.2.2.2.1 then eNone x0.2.2.2.2.2.2.2.2.2.2.2.1 else false else false else false)
def sEmptyC (x0 : Sem shStmt) : Bool := (if decide (List.length x0.2.1 + List.length x0.2.2.1 ≤ 1099511627776) = true then if decide (List.length (x0.2.1 ++ x0.2.2.1) + List.length x0.2.2.2.2.2.1 ≤ 1099511627776) = true then if decide (List.length (x0.2.1 ++ x0.2.2.1 ++ x0.2.2.2.2.2.1) + List.length x0.2.2.2.2.2.2.2.2.2.2.2.2 ≤ 1099511627776) = true then true else false else false else false)
def F87 : FSem := plainC [shStmt] [Sh.bool] (fun x => sEmptyC x.1) fun x => (sEmpty x.1, ())
theorem FOk87 : FOk (env35).P (env35).gl 159 F87 := by
 refine FOk_plainC (ok87) fun x hc C hC => ?_
 unfold sEmptyC at hc
 refine reach_ok env35_all env35_mix (ok87) (fun id _ => hC id) (go87 x.1) ?_
 generalize hy : sEmpty x.1 = y
 unfold sEmpty at hy
 try simp only [ExprT.eta]
 repeat' (first | with_reducible refine obr hy hc (fun _ hy hc => ?_) (fun _ hy hc => ?_) | with_reducible refine obr1 hy (fun _ hy => ?_) (fun _ hy => ?_) | with_reducible refine ochk hc (fun hc => ?_) | with_reducible refine OptOk_chkT ?_)
 all_goals first | (cases hc; done) | (subst hy; first | rfl)

abbrev kp99 : Nat → Keep := fun _ => { unroll := true }
theorem ok99 : fnChk (env35).P 171 Tryz.f171 1 := by refine ⟨?_, ?_, ?_, ?_⟩ <;> kernel_rfl
theorem go99 (x0 : TS) : run (env35) 0 kp99 (Func.results Tryz.f171).toList 400 (bodyOf Tryz.f171) (initSt (Func.ntmps Tryz.f171) [datum Sh.str x0] []) = Tr.br true (Tr.chk true (Tr.br (decide ((↑(runLen letterC partC x0) : Int) > 0)) (Tr.chk (decide (0 ≤ 0) && decide (0 ≤ (↑(runLen letterC partC x0) : Int)) && decide ((↑(runLen letterC partC x0) : Int) ≤ (↑(List.length x0) : Int))) (Tr.ok (Leaf.ret (AV.tup [AV.agg [ai 1, AV.str (List.take ((↑(runLen letterC partC x0) : Int).toNat - Int.toNat 0) (List.drop (Int.toNat 0) x0))], ai (↑(runLen letterC partC x0) : Int)]) []))) (Tr.br true (Tr.chk true (Tr.br (decide ((↑(runLen digitC digitC x0) : Int) > 0)) (Tr.chk (decide (0 ≤ 0) && decide (0 ≤ (↑(runLen digitC digitC x0) : Int)) && decide ((↑(runLen digitC digitC x0) : Int) ≤ (↑(List.length x0) : Int))) (Tr.ok (Leaf.ret (AV.tup [AV.agg [ai 2, AV.str (List.take ((↑(runLen digitC digitC x0) : Int).toNat - Int.toNat 0) (List.drop (Int.toNat 0) x0))], ai (↑(runLen digitC digitC x0) : Int)]) []))) (Tr.br false Tr.err (Tr.chk (inB 0 (List.length x0)) (Tr.br ((↑(List.getD x0 (Int.toNat 0) 0).toNat : Int) == 39) (Tr.chk (quotedC x0) (Tr.ok (Leaf.ret (AV.tup [AV.agg [ai (quoted x0).1.1, AV.str (quoted x0).1.2], ai (quoted x0).2]) []))) (Tr.chk (decide (0 ≤ 0) && decide (0 ≤ 1) && decide (1 ≤ (↑(List.length x0) : Int))) (Tr.ok (Leaf.ret (AV.tup
 [AV.agg [ai 4, AV.str (List.take (Int.toNat 1 - Int.toNat 0) (List.drop (Int.toNat 0) x0))], ai 1]) [])))))))) (Tr.chk (inB 0 (List.length x0)) (Tr.br ((↑(List.getD x0 (Int.toNat 0) 0).toNat : Int) == 39) (Tr.chk (quotedC x0) (Tr.ok (Leaf.ret (AV.tup [AV.agg [ai (quoted x0).1.1, AV.str (quoted x0).1.2], ai (quoted x0).2]) []))) (Tr.chk (decide (0 ≤ 0) && decide (0 ≤ 1) && decide (1 ≤ (↑(List.length x0) : Int))) (Tr.ok (Leaf.ret (AV.tup [AV.agg [ai 4, AV.str (List.take (Int.toNat 1 - Int.toNat 0) (List.drop (Int.toNat 0) x0))], ai 1]) [])))))))) (Tr.chk (inB 0 (List.length x0)) (Tr.br ((↑(List.getD x0 (Int.toNat 0) 0).toNat : Int) == 39) (Tr.chk (quotedC x0) (Tr.ok (Leaf.ret (AV.tup [AV.agg [ai (quoted x0).1.1, AV.str (quoted x0).1.2], ai (quoted x0).2]) []))) (Tr.chk (decide (0 ≤ 0) && decide (0 ≤ 1) && decide (1 ≤ (↑(List.length x0) : Int))) (Tr.ok (Leaf.ret (AV.tup [AV.agg [ai 4, AV.str (List.take (Int.toNat 1 - Int.toNat 0) (List.drop (Int.toNat 0) x0))], ai 1]) []))))) := by kernel_rfl
def tokFirst (x0 : TS) : Sem shTok × Sem shInt := (if true = true then if decide ((↑(runLen letterC partC x0) : Int) > 0) = true then ((1, List.take ((↑(runLen letterC partC x0) : Int).toNat - Int.toNat 0) (List.drop (Int.toNat 0) x0)), (↑(runLen letterC partC x0) : Int)) else if true = true then if decide ((↑(runLen digitC digitC x0) : Int) > 0) = true then ((2, List.take ((↑(runLen digitC digitC x0) : Int).toNat - Int.toNat 0) (List.drop (Int.toNat 0) x0)), (↑(runLen digitC digitC x0) : Int)) else if false = true then default else if ((↑(List.getD x0 (Int.toNat 0) 0).toNat : Int) == 39) = true then ((quoted x0).1, (quoted x0).2) else ((4, List.take (Int.toNat 1 - Int.toNat 0) (List.drop (Int.toNat 0) x0)), 1) else if ((↑(List.getD x0 (Int.toNat 0) 0).toNat : Int) == 39) = true then ((quoted x0).1, (quoted x0).2) else ((4, List.take (Int.toNat 1 - Int.toNat 0) (List.drop (Int.toNat 0) x0)), 1) else if ((↑(List.getD x0 (Int.toNat 0) 0).toNat : Int) == 39) = true then ((quoted x0).1, (quoted x0).2) else ((4, List.take (Int.toNat 1 - Int.toNat 0) (List.drop (Int.toNat 0) x0)), 1))
def tokFirstC (x0 : TS) : Bool := (if true = true then if true = true then if decide ((↑(runLen letterC partC x0) : Int) > 0) = true then if (decide (0 ≤ 0) && decide (0 ≤ (↑(runLen letterC partC x0) : Int)) && decide ((↑(runLen letterC partC x0) : Int) ≤ (↑(List.length x0) : Int))) = true then true else false else if true = true then if true = true then if decide ((↑(runLen digitC digitC x0) : Int) > 0) = true then if (decide (0 ≤ 0) && decide (0 ≤ (↑(runLen digitC digitC x0) : Int)) && decide ((↑(runLen digitC digitC x0) : Int) ≤ (↑(List.length x0) : Int))) = true then true else false else if false = true then false else if inB 0 (List.length x0) = true then if ((↑(List.getD x0 (Int.toNat 0) 0).toNat : Int) == 39) = true then if quotedC x0 = true then true else false else if (decide (0 ≤ 0) && decide (0 ≤ 1) && decide (1 ≤ (↑(List.length x0) : Int))) = true then true else false else false else false else if inB 0 (List.length x0) = true then if ((↑(List.getD x0 (Int.toNat 0) 0).toNat : Int) == 39) = true then if quotedC x0 = true then true else false else if (decide (0 ≤ 0) && decide (0 ≤ 1) && decide (1 ≤ (↑(List.length x0) : Int))) = true then true else false else false else false else if inB 0 (List.length x0) = true then if ((↑(List.getD x0 (Int.toNat 0) 0).toNat : Int) == 39) = true then if quotedC x0 = true then true else false else if (decide (0 ≤ 0) && decide (0 ≤ 1) && decide (1 ≤ (↑(List.length x0) : Int))) = true then true else false else false)
def F99 : FSem := plainC [Sh.str] [shTok, shInt] (fun x => tokFirstC x.1) fun x => ((tokFirst x.1).1, (tokFirst x.1).2, ())
theorem FOk99 : FOk (env35).P (env35).gl 171 F99 := by
 refine FOk_plainC (ok99) fun x hc C hC => ?_
 unfold tokFirstC at hc
 refine reach_ok env35_all env35_mix (ok99) (fun id _ => hC id) (go99 x.1) ?_
 generalize hy : tokFirst x.1 = y
 unfold tokFirst at hy
 try simp only [ExprT.eta, etaE_eq]
 repeat' (first | with_reducible refine obr hy hc (fun _ hy hc => ?_) (fun _ hy hc => ?_) | with_reducible refine obr1 hy (fun _ hy => ?_) (fun _ hy => ?_) | with_reducible refine ochk hc (fun hc => ?_) | with_reducible refine OptOk_chkT ?_)
 all_goals first | (cases hc; done) | (subst hy; first | rfl)

abbrev kp122 : Nat → Keep := fun j => if j = 3 then { slots := [1, 5, 8, 9, 10], prom := [(5, none, .str)] } else { }
abbrev s122_3 (l8 : LC) (i9 : Int) (i10 : Int) (lh_0 : LS) : St := { tmps := [ny, AV.clo (Fn.func 211) [] [], ny, ny, ny, AV.vec 0, ny, ny, AV.sl shCol l8, ai i9, ai i10, ny, ny, ny, ny, ny, ny, ny, ny, ny, ny, ny, ny], heap := [AO.vec Sh.str lh_0] }
theorem ok122 : fnChk (env35).P 210 Tryz.f210 2 := by refine ⟨?_, ?_, ?_, ?_⟩ <;> kernel_rfl
theorem go122 (x0 : Sem shCol.sl) : run (env35) 0 kp122 (Func.results Tryz.f210).toList 400 (bodyOf Tryz.f210) (initSt (Func.ntmps Tryz.f210) [datum shCol.sl x0, AV.clo (Fn.func 211) [] []] []) = Tr.ok (Leaf.head 3 (headK Tryz.f210 3) (s122_3 x0 (↑(List.length x0) : Int) 0 [])) := by kernel_rfl
theorem on122_3 (l8 : LC) (i9 : Int) (i10 : Int) (lh_0 : LS) : run (env35) 0 kp122 (Func.results Tryz.f210).toList 400 (headK Tryz.f210 3) (s122_3 l8 i9 i10 lh_0) = Tr.br (decide (i10 < i9)) (Tr.chk (inB i10 l8.length) (Tr.chk (colTextC (l8.getD i10.toNat (dflt shCol))) (Tr.chk (decide (lh_0.length + [colText (l8.getD i10.toNat (dflt shCol))].length ≤ 1073741824)) (Tr.ok (Leaf.head 3 (headK Tryz.f210 3) (s122_3 l8 i9 (IntKind.i64.wrap (i10 + 1)) (lh_0 ++ [colText (l8.getD i10.toNat (dflt shCol))]))))))) (Tr.chk (decide (lh_0.length ≤ 140737488355328) && decide ((Lib.join lh_0 [32, 44, 32]).length ≤ 140737488355328)) (Tr.ok (Leaf.ret (AV.str (Lib.join lh_0 [32, 44, 32])) []))) := by kernel_rfl
def colTexts_3 : List (Sem shCol) → Int → List (Sem Sh.str) → Sem Sh.str
 | [], _, lh_0 => (Lib.join lh_0 [32, 44, 32])
 | x :: r, i10, lh_0 => (colTexts_3 r (i10 + 1) (lh_0 ++ [colText x]))
def colTextsC_3 : List (Sem shCol) → Int → List (Sem Sh.str) → Bool
 | [], _, lh_0 => (if (decide (lh_0.length ≤ 140737488355328) && decide ((Lib.join lh_0 [32, 44, 32]).length ≤ 140737488355328)) = true then true else false)
 | x :: r, i10, lh_0 => (if colTextC x = true then if decide (lh_0.length + [colText x].length ≤ 1073741824) = true then colTextsC_3 r (i10 + 1) (lh_0 ++ [colText x]) else false
else false)
theorem at122_3 {C : Ctx} (hC : ∀ id, C.ρ0 id = none) (l8 : LC) (hl : l8.length ≤ maxStr) : ∀ (m i : Nat) (lh_0 : LS), l8.length - i = m → i ≤ l8.length → colTextsC_3 (l8.drop i) i lh_0 = true →
  Reach (env35) C 210 (headK Tryz.f210 3) (s122_3 l8 (l8.length : Int) (i : Int) lh_0) (fun r h => resOf h [Sh.str] r = some (colTexts_3 (l8.drop i) i lh_0, ())) := by
 intro m
 induction m with
 | zero =>
  intro i lh_0 hm hi hc
  obtain rfl : i = l8.length := by omega
  rw [List.drop_length] at hc ⊢
  refine reach_ok env35_all env35_mix (ok122) (fun id _ => hC id) (on122_3 _ _ _ _) ?_
  rw [colTextsC_3] at hc
  generalize hy : colTexts_3 [] _ lh_0 = y
  rw [colTexts_3] at hy
  simp only [lt_dec', Tr.val_brF]
  repeat' (first | with_reducible refine obr hy hc (fun _ hy hc => ?_) (fun _ hy hc => ?_) | with_reducible refine obr1 hy (fun _ hy => ?_) (fun _ hy => ?_) | with_reducible refine ochk hc (fun hc => ?_) | with_reducible refine OptOk_chkT ?_)
  all_goals first | (cases hc; done) | (subst hy; first | rfl)
 | succ m IH =>
  intro i lh_0 hm hi hc
  have hlt : i < l8.length := by omega
  have IH := IH (i + 1)
  have hcast : ((i : Int) + 1) = ((i + 1 : Nat) : Int) := by omega
  have hwr := wrap_add i (by omega)
  rw [List.drop_eq_getElem_cons hlt] at hc ⊢
  refine reach_ok env35_all env35_mix (ok122) (fun id _ => hC id) (on122_3 _ _ _ _) ?_
  rw [colTextsC_3] at hc
  generalize hy : colTexts_3 (l8[i] :: l8.drop (i + 1)) (i : Int) lh_0 = y
  rw [colTexts_3] at hy
  simp only [lt_dec hlt, inB_of hlt, getD_at l8 _ hlt, hwr, Tr.val_brT, Tr.val_chkT]
  clear hwr
  try simp only [inB_of hlt] at hy
  simp only [hcast] at hy
  try simp only [inB_of hlt] at hc
  try simp only [hcast] at hc
  repeat' (first | with_reducible refine obr hy hc (fun _ hy hc => ?_) (fun _ hy hc => ?_) | with_reducible refine obr1 hy (fun _ hy => ?_) (fun _ hy => ?_) | with_reducible refine ochk hc (fun hc => ?_) | with_reducible refine OptOk_chkT ?_)
  all_goals first | (cases hc; done) | (subst hy; first | (change Reach _ _ _ _ _ _; apply IH <;> first | omega | assumption) | rfl)
theorem at122_3s {C : Ctx} (hC : ∀ id, C.ρ0 id = none) (l8 : LC) (lh_0 : LS) (hc : colTextsC_3 l8 0 lh_0 = true) :
  Reach (env35) C 210 (headK Tryz.f210 3) (s122_3 l8 (l8.length : Int) 0 lh_0) (fun r h => resOf h [Sh.str] r = some (colTexts_3 l8 0 lh_0, ())) :=
 Reach.len 8 (shCol) l8 rfl fun hl => at122_3 hC l8 hl _ 0 lh_0 rfl (Nat.zero_le _) hc
def colTexts (x0 : Sem shCol.sl) : Sem Sh.str := (colTexts_3 x0 0 [])
def colTextsC (x0 : Sem shCol.sl) : Bool := (colTextsC_3 x0 0 [])
def F122 : FSem := plainK [shCol.sl] [Sh.str] [(211, (fun x => colTextsC x.1), fun x => (colTexts x.1, ()))]
theorem FOk122 : FOk (env35).P (env35).gl 210 F122 := by
 refine FOk_plainK (ok122) fun j c g hm x hc C hC => ?_
 simp only [List.mem_singleton, Prod.mk.injEq] at hm
 obtain ⟨rfl, rfl, rfl⟩ := hm
 replace hc : colTextsC x.1 = true := hc
 unfold colTextsC at hc
 refine reach_ok env35_all env35_mix (ok122) (fun id _ => hC id) (go122 x.1) ?_
 generalize hy : colTexts x.1 = y
 unfold colTexts at hy
 repeat' (first | with_reducible refine obr hy hc (fun _ hy hc => ?_) (fun _ hy hc => ?_) | with_reducible refine obr1 hy (fun _ hy => ?_) (fun _ hy => ?_) | with_reducible refine ochk hc (fun hc => ?_) | with_reducible refine OptOk_chkT ?_)
 all_goals first | (cases hc; done) | (subst hy; first | (change Reach _ _ _ _ _ _; apply at122_3s hC <;> first | assumption | exact hc) | rfl)

abbrev kp97 : Nat → Keep := fun j => if j = 3 then { slots := [1, 5, 8, 9, 10], prom := [(5, none, .str)] } else { }
abbrev s97_3 (l8 : LS) (i9 : Int) (i10 : Int) (lh_0 : LS) : St := { tmps := [ny, AV.clo (Fn.func 160) [] [], ny, ny, ny, AV.vec 0, ny, ny, AV.sl Sh.str l8, ai i9, ai i10, ny, ny, ny, ny, ny, ny, ny, ny, ny, ny, ny, ny], heap := [AO.vec Sh.str lh_0] }
theorem ok97 : fnChk (env35).P 169 Tryz.f169 2 := by refine ⟨?_, ?_, ?_, ?_⟩ <;> kernel_rfl
theorem go97 (x0 : Sem Sh.str.sl) : run (env35) 0 kp97 (Func.results Tryz.f169).toList 400 (bodyOf Tryz.f169) (initSt (Func.ntmps Tryz.f169) [datum Sh.str.sl x0, AV.clo (Fn.func 160) [] []] []) = Tr.ok (Leaf.head 3 (headK Tryz.f169 3) (s97_3 x0 (↑(List.length x0) : Int) 0 [])) := by kernel_rfl
theorem on97_3 (l8 : LS) (i9 : Int) (i10 : Int) (lh_0 : LS) : run (env35) 0 kp97 (Func.results Tryz.f169).toList 400 (headK Tryz.f169 3) (s97_3 l8 i9 i10 lh_0) = Tr.br (decide (i10 < i9)) (Tr.chk (inB i10 l8.length) (Tr.chk (decide (lh_0.length + [sSame (l8.getD i10.toNat (dflt Sh.str))].length ≤ 1073741824)) (Tr.ok (Leaf.head 3 (headK Tryz.f169 3) (s97_3 l8 i9 (IntKind.i64.wrap (i10 + 1)) (lh_0 ++ [sSame (l8.getD i10.toNat (dflt Sh.str))])))))) (Tr.chk (decide (lh_0.length ≤ 140737488355328) && decide ((Lib.join lh_0 [32, 44, 32]).length ≤ 140737488355328)) (Tr.ok (Leaf.ret (AV.str (Lib.join lh_0 [32, 44, 32])) []))) := by kernel_rfl
def strTexts_3 : List (Sem Sh.str) → Int → List (Sem Sh.str) → Sem Sh.str
 | [], _, lh_0 => (Lib.join lh_0 [32, 44, 32])
 | x :: r, i10, lh_0 => (strTexts_3 r (i10 + 1) (lh_0 ++ [sSame x]))
def strTextsC_3 : List (Sem Sh.str) → Int → List (Sem Sh.str) → Bool
 | [], _, lh_0 => (if (decide (lh_0.length ≤ 140737488355328) && decide ((Lib.join lh_0 [32, 44, 32]).length ≤ 140737488355328)) = true then true else false)
 | x :: r, i10, lh_0 => (if decide (lh_0.length + [sSame x].length ≤ 1073741824) = true then strTextsC_3 r (i10 + 1) (lh_0 ++ [sSame x]) else false)
theorem at97_3 {C : Ctx} (hC : ∀ id, C.ρ0 id = none) (l8 : LS) (hl : l8.length ≤ maxStr) : ∀ (m i : Nat) (lh_0 : LS), l8.length - i = m → i ≤ l8.length → strTextsC_3 (l8.drop i) i lh_0 = true →
  Reach (env35) C 169 (headK Tryz.f169 3) (s97_3 l8 (l8.length : Int) (i : Int) lh_0) (fun r h => resOf h [Sh.str] r = some (strTexts_3 (l8.drop i) i lh_0, ())) := by
 intro m
 induction m with
 | zero =>
  intro i lh_0 hm hi hc
  obtain rfl : i = l8.length := by omega
  rw [List.drop_length] at hc ⊢
  refine reach_ok env35_all env35_mix (ok97) (fun id _ => hC id) (on97_3 _ _ _ _) ?_
  rw [strTextsC_3] at hc
  generalize hy : strTexts_3 [] _ lh_0 = y
  rw [strTexts_3] at hy
  simp only [lt_dec', Tr.val_brF]
  repeat' (first | with_reducible refine obr hy hc (fun _ hy hc => ?_) (fun _ hy hc => ?_) | with_reducible refine obr1 hy (fun _ hy => ?_) (fun _ hy => ?_) | with_reducible refine ochk hc (fun hc => ?_) | with_reducible refine OptOk_chkT ?_)
  all_goals first | (cases hc; done) | (subst hy; first | rfl)
 | succ m IH =>
  intro i lh_0 hm hi hc
  have hlt : i < l8.length := by omega
  have IH := IH (i + 1)
  have hcast : ((i : Int) + 1) = ((i + 1 : Nat) : Int) := by omega
  have hwr := wrap_add i (by omega)
  rw [List.drop_eq_getElem_cons hlt] at hc ⊢
  refine reach_ok env35_all env35_mix (ok97) (fun id _ => hC id) (on97_3 _ _ _ _) ?_
  rw [strTextsC_3] at hc
  generalize hy : strTexts_3 (l8[i] :: l8.drop (i + 1)) (i : Int) lh_0 = y
  rw [strTexts_3] at hy
  simp only [lt_dec hlt, inB_of hlt, getD_at l8 _ hlt, hwr, Tr.val_brT, Tr.val_chkT]
  clear hwr
  try simp only [inB_of hlt] at hy
  simp only [hcast] at hy
  try simp only [inB_of hlt] at hc
  try simp only [hcast] at hc
  repeat' (first | with_reducible refine obr hy hc (fun _ hy hc => ?_) (fun _ hy hc => ?_) | with_reducible refine obr1 hy (fun _ hy => ?_) (fun _ hy => ?_) | with_reducible refine ochk hc (fun hc => ?_) | with_reducible refine OptOk_chkT ?_)
  all_goals first | (cases hc; done) | (subst hy; first | (change Reach _ _ _ _ _ _; apply IH <;> first | omega | assumption) | rfl)
theorem at97_3s {C : Ctx} (hC : ∀ id, C.ρ0 id = none) (l8 : LS) (lh_0 : LS) (hc : strTextsC_3 l8 0 lh_0 = true) :
  Reach (env35) C 169 (headK Tryz.f169 3) (s97_3 l8 (l8.length : Int) 0 lh_0) (fun r h => resOf h [Sh.str] r = some (strTexts_3 l8 0 lh_0, ())) :=
 Reach.len 8 (Sh.str) l8 rfl fun hl => at97_3 hC l8 hl _ 0 lh_0 rfl (Nat.zero_le _) hc
def strTexts (x0 : Sem Sh.str.sl) : Sem Sh.str := (strTexts_3 x0 0 [])
def strTextsC (x0 : Sem Sh.str.sl) : Bool := (strTextsC_3 x0 0 [])
def F97 : FSem := plainK [Sh.str.sl] [Sh.str] [(160, (fun x => strTextsC x.1), fun x => (strTexts x.1, ()))]
theorem FOk97 : FOk (env35).P (env35).gl 169 F97 := by
 refine FOk_plainK (ok97) fun j c g hm x hc C hC => ?_
 simp only [List.mem_singleton, Prod.mk.injEq] at hm
 obtain ⟨rfl, rfl, rfl⟩ := hm
 replace hc : strTextsC x.1 = true := hc
 unfold strTextsC at hc
 refine reach_ok env35_all env35_mix (ok97) (fun id _ => hC id) (go97 x.1) ?_
 generalize hy : strTexts x.1 = y
 unfold strTexts at hy
 repeat' (first | with_reducible refine obr hy hc (fun _ hy hc => ?_) (fun _ hy hc => ?_) | with_reducible refine obr1 hy (fun _ hy => ?_) (fun _ hy => ?_) | with_reducible refine ochk hc (fun hc => ?_) | with_reducible refine OptOk_chkT ?_)
 all_goals first | (cases hc; done) | (subst hy; first | (change Reach _ _ _ _ _ _; apply at97_3s hC <;> first | assumption | exact hc) | rfl)

noncomputable def env36 : Env := (((((((((env35.add 157 F85).add 191 F105).add 192 F106).add 155 F83).add 164 F92).add 159 F87).add 171 F99).add 210 F122).add 169 F97)
theorem env36_all : EnvAll env36 := (EnvAll.addS (EnvAll.addS (EnvAll.addS (EnvAll.addS (EnvAll.addS (EnvAll.addS (EnvAll.addS (EnvAll.addS (EnvAll.addS env35_all (SameE.refl env35) FOk85) ((SameE.refl env35).add _ _) FOk105) (((SameE.refl env35).add _ _).add _ _) FOk106) ((((SameE.refl env35).add _ _).add _ _).add _ _) FOk83) (((((SameE.refl env35).add _ _).add _ _).add _ _).add _ _) FOk92) ((((((SameE.refl env35).add _ _).add _ _).add _ _).add _ _).add _ _) FOk87) (((((((SameE.refl env35).add _ _).add _ _).add _ _).add _ _).add _ _).add _ _) FOk99) ((((((((SameE.refl env35).add _ _).add _ _).add _ _).add _ _).add _ _).add _ _).add _ _) FOk122) (((((((((SameE.refl env35).add _ _).add _ _).add _ _).add _ _).add _ _).add _ _).add _ _).add _ _) FOk97)
theorem env36_mix : env36.P.follows .mixedOrders = true := (mix_add (mix_add (mix_add (mix_add (mix_add (mix_add (mix_add (mix_add (mix_add env35_mix _ _) _ _) _ _) _ _) _ _) _ _) _ _) _ _) _ _)
end Cad
