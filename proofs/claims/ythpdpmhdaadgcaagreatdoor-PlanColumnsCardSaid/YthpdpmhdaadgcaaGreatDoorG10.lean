/- Expressions: bounded ones; the same ones. Expressions: which may be. Expressions: their values. Expressions: may, bounded. Expressions: types and values. What is asked of expressions holds. Checks; bounded tables. What is asked of checks and of bounded tables holds. -/
import Derived.Test.YthpdpmhdaadgcaaGreatDoorG09
namespace Cad
open Go Go.Proofs

noncomputable def en15 (g : Sem Sh.expr → Sem shInt → Sem shInt → Sem Sh.expr × Sem shInt) (c : Sem Sh.expr → Sem shInt → Sem shInt → Bool) : Env := env20.add 57 (plainC [Sh.expr, shInt, shInt] [Sh.expr, shInt] (fun x => c x.1 x.2.1 x.2.2.1) fun x => ((g x.1 x.2.1 x.2.2.1).1, (g x.1 x.2.1 x.2.2.1).2, ()))
theorem en15_all {g : Sem Sh.expr → Sem shInt → Sem shInt → Sem Sh.expr × Sem shInt} {c : Sem Sh.expr → Sem shInt → Sem shInt → Bool} (hg : FOk env20.P env20.gl 57 (plainC [Sh.expr, shInt, shInt] [Sh.expr, shInt] (fun x => c x.1 x.2.1 x.2.2.1) fun x => ((g x.1 x.2.1 x.2.2.1).1, (g x.1 x.2.1 x.2.2.1).2, ()))) : EnvAll (en15 g c) := env20_all.add hg
theorem en15_mix {g : Sem Sh.expr → Sem shInt → Sem shInt → Sem Sh.expr × Sem shInt} {c : Sem Sh.expr → Sem shInt → Sem shInt → Bool} : (en15 g c).P.follows .mixedOrders = true := mix_add env20_mix _ _
abbrev kp15r : Nat → Keep := fun j => if j = 10 then { slots := [1, 2, 3, 6, 8, 9], prom := [(8, some 5, Sh.expr)] } else { }
abbrev s15r_10 (i1 : Sem shInt) (i2 : Int) (i9 : Int) (ja0 : Str) (ja1 : Int) (ja2 : Int) (ja3 : Str) (ja4 : Str) (ja5 : LX) (jb0 : List UInt8) (jb1 : Int) (jb2 : Int) (jb3 : List UInt8) (jb4 : List UInt8) (jc0 : List UInt8) (jc1 : Int) (jc2 : Int) (jc3 : List UInt8) (jc4 : List UInt8) (lh_3 : LX) : St := { tmps := [ny, ai i1, ai i2, AV.ptr 0 0, ny, ny, AV.ptr 1 0, ny, AV.ptr 2 0, ai i9, ny, ny, ny, ny, ny, ny, ny, ny, ny, ny, ny, ny, ny, ny, ny, ny, ny, ny, ny, ny, ny, ny, ny, ny, ny, ny, ny, ny, ny, ny, ny, ny, ny, ny, ny, ny, ny, ny, ny, ny, ny, ny, ny, ny, ny, ny, ny, ny, ny, ny, ny, ny, ny, ny, ny, ny, ny, ny, ny, ny, ny, ny, ny, ny, ny, ny, ny, ny, ny, ny, ny, ny, ny, ny, ny, ny, ny, ny], heap := [AO.box [AV.str ja0, ai ja1, ai ja2, AV.str ja3, AV.str ja4, AV.sl Sh.expr ja5], AO.box [AV.str jb0, ai jb1, ai jb2, AV.str jb3, AV.str jb4, AV.nils], AO.box [AV.str jc0, ai jc1, ai jc2, AV.str jc3, AV.str jc4, AV.vec 3], AO.vec Sh.expr lh_3] }
theorem ok15r (g : Sem Sh.expr → Sem shInt → Sem shInt → Sem Sh.expr × Sem shInt) (c : Sem Sh.expr → Sem shInt → Sem shInt → Bool) : fnChk (en15 g c).P 57 Tryz.f57 3 := by refine ⟨?_, ?_, ?_, ?_⟩ <;> kernel_rfl
theorem go15r (g : Sem Sh.expr → Sem shInt → Sem shInt → Sem Sh.expr × Sem shInt) (c : Sem Sh.expr → Sem shInt → Sem shInt → Bool) (x0 : Sem Sh.expr) (x1 : Sem shInt) (x2 : Sem shInt) : run (en15 g c) 0 kp15r (Func.results Tryz.f57).toList 400 (bodyOf Tryz.f57) (initSt (Func.ntmps Tryz.f57) [datum Sh.expr x0, datum shInt x1, datum shInt x2] []) = Tr.br (decide ((↑(List.length (ExprT.op x0)) : Int) > 8)) (Tr.chk (decide (0 ≤ 0) && decide (0 ≤ 8) && decide (8 ≤ (↑(List.length (ExprT.op x0)) : Int))) (Tr.br (decide ((↑(List.length (ExprT.s x0)) : Int) > 20)) (Tr.chk (decide (0 ≤ 0) && decide (0 ≤ 20) && decide (20 ≤ (↑(List.length (ExprT.s x0)) : Int))) (Tr.br (decide ((↑(List.length (ExprT.v x0).2.2) : Int) > 45)) (Tr.chk (decide (0 ≤ 0) && decide (0 ≤ 45) && decide (45 ≤ (↑(List.length (ExprT.v x0).2.2) : Int))) (Tr.ok (Leaf.head 10 (headK Tryz.f57 10) (s15r_10 x1 (IntKind.i64.wrap (x2 - 1)) 0 (ExprT.op x0) (ExprT.v x0).1 (ExprT.v x0).2.1 (ExprT.v x0).2.2 (ExprT.s x0) (ExprT.l x0) [] 0 0 [] [] (List.take (Int.toNat 8 - Int.toNat 0) (List.drop (Int.toNat 0) (ExprT.op x0))) (ExprT.v x0).1 (ExprT.v x0).2.1 (List.take (Int.toNat 45 - Int.toNat 0) (List.drop (Int.toNat 0) (ExprT.v x0).2.2)) (List.take (Int.toNat 20 - Int.toNat 0) (List.drop (Int.toNat 0) (ExprT.s x0))) [])))) (Tr.ok (Leaf.head 10 (headK Tryz.f57 10) (s15r_10 x1 (IntKind.i64.wrap (x2 - 1)) 0 (ExprT.op x0) (ExprT.v x0).1 (ExprT.v x0).2.1 (ExprT.v x0).2.2 (ExprT.s x0) (ExprT.l x0) [] 0
 0 [] [] (List.take (Int.toNat 8 - Int.toNat 0) (List.drop (Int.toNat 0) (ExprT.op x0))) (ExprT.v x0).1 (ExprT.v x0).2.1 (ExprT.v x0).2.2 (List.take (Int.toNat 20 - Int.toNat 0) (List.drop (Int.toNat 0) (ExprT.s x0))) []))))) (Tr.br (decide ((↑(List.length (ExprT.v x0).2.2) : Int) > 45)) (Tr.chk (decide (0 ≤ 0) && decide (0 ≤ 45) && decide (45 ≤ (↑(List.length (ExprT.v x0).2.2) : Int))) (Tr.ok (Leaf.head 10 (headK Tryz.f57 10) (s15r_10 x1 (IntKind.i64.wrap (x2 - 1)) 0 (ExprT.op x0) (ExprT.v x0).1 (ExprT.v x0).2.1 (ExprT.v x0).2.2 (ExprT.s x0) (ExprT.l x0) [] 0 0 [] [] (List.take (Int.toNat 8 - Int.toNat 0) (List.drop (Int.toNat 0) (ExprT.op x0))) (ExprT.v x0).1 (ExprT.v x0).2.1 (List.take (Int.toNat 45 - Int.toNat 0) (List.drop (Int.toNat 0) (ExprT.v x0).2.2)) (ExprT.s x0) [])))) (Tr.ok (Leaf.head 10 (headK Tryz.f57 10) (s15r_10 x1 (IntKind.i64.wrap (x2 - 1)) 0 (ExprT.op x0) (ExprT.v x0).1 (ExprT.v x0).2.1 (ExprT.v x0).2.2 (ExprT.s x0) (ExprT.l x0) [] 0 0 [] [] (List.take (Int.toNat 8 - Int.toNat 0) (List.drop (Int.toNat 0) (ExprT.op x0))) (ExprT.v x0).1 (ExprT.v x0).2.1 (ExprT.v x0).2.2 (ExprT.s x0) [])))))) (Tr.br (decide ((↑(List.length (ExprT.s x0)) : Int) > 20)) (Tr.chk (decide (0 ≤ 0) && decide (0 ≤ 20) && decide (20 ≤ (↑(List.length (ExprT.s x0)) : Int))) (Tr.br (decide ((↑(List.length (ExprT.v x0).2.2) : Int) > 45)) (Tr.chk (decide (0 ≤ 0) && decide (0 ≤ 45) && decide (45 ≤ (↑(List.length (ExprT.v x0).2.2) : Int))) (Tr.ok (Leaf.head 10 (headK Tryz.f57 10)
 (s15r_10 x1 (IntKind.i64.wrap (x2 - 1)) 0 (ExprT.op x0) (ExprT.v x0).1 (ExprT.v x0).2.1 (ExprT.v x0).2.2 (ExprT.s x0) (ExprT.l x0) [] 0 0 [] [] (ExprT.op x0) (ExprT.v x0).1 (ExprT.v x0).2.1 (List.take (Int.toNat 45 - Int.toNat 0) (List.drop (Int.toNat 0) (ExprT.v x0).2.2)) (List.take (Int.toNat 20 - Int.toNat 0) (List.drop (Int.toNat 0) (ExprT.s x0))) [])))) (Tr.ok (Leaf.head 10 (headK Tryz.f57 10) (s15r_10 x1 (IntKind.i64.wrap (x2 - 1)) 0 (ExprT.op x0) (ExprT.v x0).1 (ExprT.v x0).2.1 (ExprT.v x0).2.2 (ExprT.s x0) (ExprT.l x0) [] 0 0 [] [] (ExprT.op x0) (ExprT.v x0).1 (ExprT.v x0).2.1 (ExprT.v x0).2.2 (List.take (Int.toNat 20 - Int.toNat 0) (List.drop (Int.toNat 0) (ExprT.s x0))) []))))) (Tr.br (decide ((↑(List.length (ExprT.v x0).2.2) : Int) > 45)) (Tr.chk (decide (0 ≤ 0) && decide (0 ≤ 45) && decide (45 ≤ (↑(List.length (ExprT.v x0).2.2) : Int))) (Tr.ok (Leaf.head 10 (headK Tryz.f57 10) (s15r_10 x1 (IntKind.i64.wrap (x2 - 1)) 0 (ExprT.op x0) (ExprT.v x0).1 (ExprT.v x0).2.1 (ExprT.v x0).2.2 (ExprT.s x0) (ExprT.l x0) [] 0 0 [] [] (ExprT.op x0) (ExprT.v x0).1 (ExprT.v x0).2.1 (List.take (Int.toNat 45 - Int.toNat 0) (List.drop (Int.toNat 0) (ExprT.v x0).2.2)) (ExprT.s x0) [])))) (Tr.ok (Leaf.head 10 (headK Tryz.f57 10) (s15r_10 x1 (IntKind.i64.wrap (x2 - 1)) 0 (ExprT.op x0) (ExprT.v x0).1 (ExprT.v x0).2.1 (ExprT.v x0).2.2 (ExprT.s x0) (ExprT.l x0) [] 0 0 [] [] (ExprT.op x0) (ExprT.v x0).1 (ExprT.v x0).2.1 (ExprT.v x0).2.2 (ExprT.s x0) []))))) := by kernel_rfl
theorem on15r_10 (g : Sem Sh.expr → Sem shInt → Sem shInt → Sem Sh.expr × Sem shInt) (c : Sem Sh.expr → Sem shInt → Sem shInt → Bool) (i1 : Sem shInt) (i2 : Int) (i9 : Int) (ja0 : Str) (ja1 : Int) (ja2 : Int) (ja3 : Str) (ja4 : Str) (ja5 : LX) (jb0 : List UInt8) (jb1 : Int) (jb2 : Int) (jb3 : List UInt8) (jb4 : List UInt8) (jc0 : List UInt8) (jc1 : Int) (jc2 : Int) (jc3 : List UInt8) (jc4 : List UInt8) (lh_3 : LX) : run (en15 g c) 0 kp15r (Func.results Tryz.f57).toList 400 (headK Tryz.f57 10) (s15r_10 i1 i2 i9 ja0 ja1 ja2 ja3 ja4 ja5 jb0 jb1 jb2 jb3 jb4 jc0 jc1 jc2 jc3 jc4 lh_3) = Tr.br (bif decide (i9 < (↑ja5.length : Int)) then bif decide (i9 < 3) then bif decide (i1 > 0) then decide (i2 > 0) else false else false else false) (Tr.chk (inB i9 ja5.length) (Tr.chk (c (etaE (ja5.getD i9.toNat (dflt Sh.expr))) (IntKind.i64.wrap (i1 - 1)) i2) (Tr.chk (decide (lh_3.length + [ExprT.mk (ExprT.op (g (etaE (ja5.getD i9.toNat (dflt Sh.expr))) (IntKind.i64.wrap (i1 - 1)) i2).1) (ExprT.v (g (etaE (ja5.getD i9.toNat (dflt Sh.expr))) (IntKind.i64.wrap (i1 - 1)) i2).1) (ExprT.s (g (etaE (ja5.getD i9.toNat (dflt Sh.expr))) (IntKind.i64.wrap (i1 - 1)) i2).1) (ExprT.l (g (etaE (ja5.getD i9.toNat (dflt Sh.expr))) (IntKind.i64.wrap (i1 - 1)) i2).1)].length ≤ 1073741824)) (Tr.ok (Leaf.head 10 (headK Tryz.f57 10) (s15r_10 i1 (g (etaE (ja5.getD i9.toNat (dflt Sh.expr))) (IntKind.i64.wrap (i1 - 1)) i2).2
 (IntKind.i64.wrap (i9 + 1)) ja0 ja1 ja2 ja3 ja4 ja5 jb0 jb1 jb2 jb3 jb4 jc0 jc1 jc2 jc3 jc4 (lh_3 ++ [ExprT.mk (ExprT.op (g (etaE (ja5.getD i9.toNat (dflt Sh.expr))) (IntKind.i64.wrap (i1 - 1)) i2).1) (ExprT.v (g (etaE (ja5.getD i9.toNat (dflt Sh.expr))) (IntKind.i64.wrap (i1 - 1)) i2).1) (ExprT.s (g (etaE (ja5.getD i9.toNat (dflt Sh.expr))) (IntKind.i64.wrap (i1 - 1)) i2).1) (ExprT.l (g (etaE (ja5.getD i9.toNat (dflt Sh.expr))) (IntKind.i64.wrap (i1 - 1)) i2).1)]))))))) (Tr.ok (Leaf.ret (AV.tup [AV.agg [AV.str jc0, ai jc1, ai jc2, AV.str jc3, AV.str jc4, AV.vec 0], ai i2]) [AO.vec Sh.expr lh_3])) := by kernel_rfl
def fewS_10 (g : Sem Sh.expr → Sem shInt → Sem shInt → Sem Sh.expr × Sem shInt) (c : Sem Sh.expr → Sem shInt → Sem shInt → Bool) (i1 : Sem shInt) (ja0 : Str) (ja1 : Int) (ja2 : Int) (ja3 : Str) (ja4 : Str) (jb0 : List UInt8) (jb1 : Int) (jb2 : Int) (jb3 : List UInt8) (jb4 : List UInt8) (jc0 : List UInt8) (jc1 : Int) (jc2 : Int) (jc3 : List UInt8) (jc4 : List UInt8) : List (Sem Sh.expr) → Int → Int → List (Sem Sh.expr) → Sem Sh.expr × Sem shInt
 | [], _, i2, lh_3 => (ExprT.mk jc0 (jc1, jc2, jc3) jc4 lh_3, i2)
 | x :: r, i9, i2, lh_3 => if (bif decide (i9 < 3) then bif decide (i1 > 0) then decide (i2 > 0) else false else false) = true then
 fewS_10 g c i1 ja0 ja1 ja2 ja3 ja4 jb0 jb1 jb2 jb3 jb4 jc0 jc1 jc2 jc3 jc4 r (i9 + 1)
  (g x (IntKind.i64.wrap (i1 - 1)) i2).2 (lh_3 ++ [(g x (IntKind.i64.wrap (i1 - 1)) i2).1])
else (ExprT.mk jc0 (jc1, jc2, jc3) jc4 lh_3, i2)
def fewSC_10 (g : Sem Sh.expr → Sem shInt → Sem shInt → Sem Sh.expr × Sem shInt) (c : Sem Sh.expr → Sem shInt → Sem shInt → Bool) (i1 : Sem shInt) (ja0 : Str) (ja1 : Int) (ja2 : Int) (ja3 : Str) (ja4 : Str) (jb0 : List UInt8) (jb1 : Int) (jb2 : Int) (jb3 : List UInt8) (jb4 : List UInt8) (jc0 : List UInt8) (jc1 : Int) (jc2 : Int) (jc3 : List UInt8) (jc4 : List UInt8) : List (Sem Sh.expr) → Int → Int → List (Sem Sh.expr) → Bool
 | [], _, _, _ => true
 | x :: r, i9, i2, lh_3 => if (bif decide (i9 < 3) then bif decide (i1 > 0) then decide (i2 > 0) else false else false) = true then
 if c x (IntKind.i64.wrap (i1 - 1)) i2 = true then
  if decide (lh_3.length + [(g x (IntKind.i64.wrap (i1 - 1)) i2).1].length ≤ 1073741824) = true then
   fewSC_10 g c i1 ja0 ja1 ja2 ja3 ja4 jb0 jb1 jb2 jb3 jb4 jc0 jc1 jc2 jc3 jc4 r (i9 + 1)
    (g x (IntKind.i64.wrap (i1 - 1)) i2).2 (lh_3 ++ [(g x (IntKind.i64.wrap (i1 - 1)) i2).1])
  else false
 else false
else true
theorem at15r_10 (g : Sem Sh.expr → Sem shInt → Sem shInt → Sem Sh.expr × Sem shInt) (c : Sem Sh.expr → Sem shInt → Sem shInt → Bool) (hg : FOk env20.P env20.gl 57 (plainC [Sh.expr, shInt, shInt] [Sh.expr, shInt] (fun x => c x.1 x.2.1 x.2.2.1) fun x => ((g x.1 x.2.1 x.2.2.1).1, (g x.1 x.2.1 x.2.2.1).2, ()))) {C : Ctx} (hC : ∀ id, C.ρ0 id = none) (i1 : Sem shInt) (ja0 : Str) (ja1 : Int) (ja2 : Int) (ja3 : Str) (ja4 : Str) (jb0 : List UInt8) (jb1 : Int) (jb2 : Int) (jb3 : List UInt8) (jb4 : List UInt8) (jc0 : List UInt8) (jc1 : Int) (jc2 : Int) (jc3 : List UInt8) (jc4 : List UInt8) (ja5 : LX) (hl : ja5.length ≤ maxStr) : ∀ (m i : Nat) (i2 : Int) (lh_3 : LX), ja5.length - i = m → i ≤ ja5.length → fewSC_10 g c i1 ja0 ja1 ja2 ja3 ja4 jb0 jb1 jb2 jb3 jb4 jc0 jc1 jc2 jc3 jc4 (ja5.drop i) i i2 lh_3 = true →
  Reach (en15 g c) C 57 (headK Tryz.f57 10) (s15r_10 i1 i2 (i : Int) ja0 ja1 ja2 ja3 ja4 ja5 jb0 jb1 jb2 jb3 jb4 jc0 jc1 jc2 jc3 jc4 lh_3) (fun r h => resOf h [Sh.expr, shInt] r = some ((fewS_10 g c i1 ja0 ja1 ja2 ja3 ja4 jb0 jb1 jb2 jb3 jb4 jc0 jc1 jc2 jc3 jc4 (ja5.drop i) i i2 lh_3).1, (fewS_10 g c i1 ja0 ja1 ja2 ja3 ja4 jb0 jb1 jb2 jb3 jb4 jc0 jc1 jc2 jc3 jc4 (ja5.drop i) i i2 lh_3).2, ())) := by
 intro m
 induction m with
 | zero =>
  intro i i2 lh_3 hm hi hc
  obtain rfl : i = ja5.length := by omega
  rw [List.drop_length] at hc ⊢
  refine reach_ok (en15_all hg) en15_mix (ok15r g c) (fun id _ => hC id) (on15r_10 g c _ _ _ _ _ _ _ _ _ _ _ _ _ _ _ _ _ _ _ _) ?_
  rw [fewSC_10] at hc
  generalize hy : fewS_10 g c i1 ja0 ja1 ja2 ja3 ja4 jb0 jb1 jb2 jb3 jb4 jc0 jc1 jc2 jc3 jc4 [] _ i2 lh_3 = y
  rw [fewS_10] at hy
  simp only [ExprT.eta, lt_dec', cond_false, Tr.val_brF]
  repeat' (first | with_reducible refine obr hy hc (fun _ hy hc => ?_) (fun _ hy hc => ?_) | with_reducible refine obr1 hy (fun _ hy => ?_) (fun _ hy => ?_) | with_reducible refine ochk hc (fun hc => ?_) | with_reducible refine OptOk_chkT ?_)
  all_goals (subst hy; first | rfl)
 | succ m IH =>
  intro i i2 lh_3 hm hi hc
  have hlt : i < ja5.length := by omega
  have IH := IH (i + 1)
  have hcast : ((i : Int) + 1) = ((i + 1 : Nat) : Int) := by omega
  have hwr := wrap_add i (by omega)
  rw [List.drop_eq_getElem_cons hlt] at hc ⊢
  refine reach_ok (en15_all hg) en15_mix (ok15r g c) (fun id _ => hC id) (on15r_10 g c _ _ _ _ _ _ _ _ _ _ _ _ _ _ _ _ _ _ _ _) ?_
  rw [fewSC_10] at hc
  generalize hy : fewS_10 g c i1 ja0 ja1 ja2 ja3 ja4 jb0 jb1 jb2 jb3 jb4 jc0 jc1 jc2 jc3 jc4 (ja5[i] :: ja5.drop (i + 1)) (i : Int) i2 lh_3 = y
  rw [fewS_10] at hy
  simp only [ExprT.eta, lt_dec hlt, inB_of hlt, getD_at ja5 _ hlt, hwr, cond_true]
  clear hwr
  simp only [hcast] at hy
  try simp only [hcast] at hc
  repeat' (first | with_reducible refine obr hy hc (fun _ hy hc => ?_) (fun _ hy hc => ?_) | with_reducible refine obr1 hy (fun _ hy => ?_) (fun _ hy => ?_) | with_reducible refine ochk hc (fun hc => ?_) | with_reducible refine OptOk_chkT ?_)
  all_goals (subst hy; first | (change Reach _ _ _ _ _ _; apply IH <;> first | omega | assumption) | rfl)
theorem at15r_10s (g : Sem Sh.expr → Sem shInt → Sem shInt → Sem Sh.expr × Sem shInt) (c : Sem Sh.expr → Sem shInt → Sem shInt → Bool) (hg : FOk env20.P env20.gl 57 (plainC [Sh.expr, shInt, shInt] [Sh.expr, shInt] (fun x => c x.1 x.2.1 x.2.2.1) fun x => ((g x.1 x.2.1 x.2.2.1).1, (g x.1 x.2.1 x.2.2.1).2, ()))) {C : Ctx} (hC : ∀ id, C.ρ0 id = none) (i1 : Sem shInt) (ja0 : Str) (ja1 : Int) (ja2 : Int) (ja3 : Str) (ja4 : Str) (jb0 : List UInt8) (jb1 : Int) (jb2 : Int) (jb3 : List UInt8) (jb4 : List UInt8) (jc0 : List UInt8) (jc1 : Int) (jc2 : Int) (jc3 : List UInt8) (jc4 : List UInt8) (ja5 : LX) (i2 : Int) (lh_3 : LX) (hc : fewSC_10 g c i1 ja0 ja1 ja2 ja3 ja4 jb0 jb1 jb2 jb3 jb4 jc0 jc1 jc2 jc3 jc4 ja5 0 i2 lh_3 = true) :
  Reach (en15 g c) C 57 (headK Tryz.f57 10) (s15r_10 i1 i2 0 ja0 ja1 ja2 ja3 ja4 ja5 jb0 jb1 jb2 jb3 jb4 jc0 jc1 jc2 jc3 jc4 lh_3) (fun r h => resOf h [Sh.expr, shInt] r = some ((fewS_10 g c i1 ja0 ja1 ja2 ja3 ja4 jb0 jb1 jb2 jb3 jb4 jc0 jc1 jc2 jc3 jc4 ja5 0 i2 lh_3).1, (fewS_10 g c i1 ja0 ja1 ja2 ja3 ja4 jb0 jb1 jb2 jb3 jb4 jc0 jc1 jc2 jc3 jc4 ja5 0 i2 lh_3).2, ())) :=
 Reach.lenB 0 5 (Sh.expr) ja5 rfl rfl fun hl => at15r_10 g c hg hC i1 ja0 ja1 ja2 ja3 ja4 jb0 jb1 jb2 jb3 jb4 jc0 jc1 jc2 jc3 jc4 ja5 hl _ 0 i2 lh_3 rfl (Nat.zero_le _) hc
def fewS (g : Sem Sh.expr → Sem shInt → Sem shInt → Sem Sh.expr × Sem shInt) (c : Sem Sh.expr → Sem shInt → Sem shInt → Bool) (x0 : Sem Sh.expr) (x1 : Sem shInt) (x2 : Sem shInt) : Sem Sh.expr × Sem shInt := if decide ((↑(List.length (ExprT.op x0)) : Int) > 8) = true then if decide ((↑(List.length (ExprT.s x0)) : Int) > 20) = true then if decide ((↑(List.length (ExprT.v x0).2.2) : Int) > 45) = true then fewS_10 g c x1 (ExprT.op x0) (ExprT.v x0).1 (ExprT.v x0).2.1 (ExprT.v x0).2.2 (ExprT.s x0) [] 0 0 [] [] (List.take (Int.toNat 8 - Int.toNat 0) (List.drop (Int.toNat 0) (ExprT.op x0))) (ExprT.v x0).1 (ExprT.v x0).2.1 (List.take (Int.toNat 45 - Int.toNat 0) (List.drop (Int.toNat 0) (ExprT.v x0).2.2)) (List.take (Int.toNat 20 - Int.toNat 0) (List.drop (Int.toNat 0) (ExprT.s x0))) (ExprT.l x0) 0 (IntKind.i64.wrap (x2 - 1)) [] else fewS_10 g c x1 (ExprT.op x0) (ExprT.v x0).1 (ExprT.v x0).2.1 (ExprT.v x0).2.2 (ExprT.s x0) [] 0 0 [] [] (List.take (Int.toNat 8 - Int.toNat 0) (List.drop (Int.toNat 0) (ExprT.op x0))) (ExprT.v x0).1 (ExprT.v x0).2.1 (ExprT.v x0).2.2 (List.take (Int.toNat 20 - Int.toNat 0) (List.drop (Int.toNat 0) (ExprT.s x0))) (ExprT.l x0) 0 (IntKind.i64.wrap (x2 - 1)) [] else if decide ((↑(List.length (ExprT.v x0).2.2) : Int) > 45) = true then fewS_10 g c x1 (ExprT.op x0) (ExprT.v x0).1 (ExprT.v x0).2.1 (ExprT.v x0).2.2 (ExprT.s x0) [] 0 0 [] [] (List.take (Int.toNat 8 - Int.toNat 0) (List.drop (Int.toNat 0) (ExprT.op x0))) (ExprT.v x0).1 (ExprT.v x0).2.1
 (List.take (Int.toNat 45 - Int.toNat 0) (List.drop (Int.toNat 0) (ExprT.v x0).2.2)) (ExprT.s x0) (ExprT.l x0) 0 (IntKind.i64.wrap (x2 - 1)) [] else fewS_10 g c x1 (ExprT.op x0) (ExprT.v x0).1 (ExprT.v x0).2.1 (ExprT.v x0).2.2 (ExprT.s x0) [] 0 0 [] [] (List.take (Int.toNat 8 - Int.toNat 0) (List.drop (Int.toNat 0) (ExprT.op x0))) (ExprT.v x0).1 (ExprT.v x0).2.1 (ExprT.v x0).2.2 (ExprT.s x0) (ExprT.l x0) 0 (IntKind.i64.wrap (x2 - 1)) [] else if decide ((↑(List.length (ExprT.s x0)) : Int) > 20) = true then if decide ((↑(List.length (ExprT.v x0).2.2) : Int) > 45) = true then fewS_10 g c x1 (ExprT.op x0) (ExprT.v x0).1 (ExprT.v x0).2.1 (ExprT.v x0).2.2 (ExprT.s x0) [] 0 0 [] [] (ExprT.op x0) (ExprT.v x0).1 (ExprT.v x0).2.1 (List.take (Int.toNat 45 - Int.toNat 0) (List.drop (Int.toNat 0) (ExprT.v x0).2.2)) (List.take (Int.toNat 20 - Int.toNat 0) (List.drop (Int.toNat 0) (ExprT.s x0))) (ExprT.l x0) 0 (IntKind.i64.wrap (x2 - 1)) [] else fewS_10 g c x1 (ExprT.op x0) (ExprT.v x0).1 (ExprT.v x0).2.1 (ExprT.v x0).2.2 (ExprT.s x0) [] 0 0 [] [] (ExprT.op x0) (ExprT.v x0).1 (ExprT.v x0).2.1 (ExprT.v x0).2.2 (List.take (Int.toNat 20 - Int.toNat 0) (List.drop (Int.toNat 0) (ExprT.s x0))) (ExprT.l x0) 0 (IntKind.i64.wrap (x2 - 1)) [] else if decide ((↑(List.length (ExprT.v x0).2.2) : Int) > 45) = true then fewS_10 g c x1 (ExprT.op x0) (ExprT.v x0).1 (ExprT.v x0).2.1 (ExprT.v x0).2.2 (ExprT.s x0) [] 0 0 [] [] (ExprT.op x0) (ExprT.v x0).1
 (ExprT.v x0).2.1 (List.take (Int.toNat 45 - Int.toNat 0) (List.drop (Int.toNat 0) (ExprT.v x0).2.2)) (ExprT.s x0) (ExprT.l x0) 0 (IntKind.i64.wrap (x2 - 1)) [] else fewS_10 g c x1 (ExprT.op x0) (ExprT.v x0).1 (ExprT.v x0).2.1 (ExprT.v x0).2.2 (ExprT.s x0) [] 0 0 [] [] (ExprT.op x0) (ExprT.v x0).1 (ExprT.v x0).2.1 (ExprT.v x0).2.2 (ExprT.s x0) (ExprT.l x0) 0 (IntKind.i64.wrap (x2 - 1)) []
def fewSC (g : Sem Sh.expr → Sem shInt → Sem shInt → Sem Sh.expr × Sem shInt) (c : Sem Sh.expr → Sem shInt → Sem shInt → Bool) (x0 : Sem Sh.expr) (x1 : Sem shInt) (x2 : Sem shInt) : Bool := if decide ((↑(List.length (ExprT.op x0)) : Int) > 8) = true then if (decide (0 ≤ 0) && decide (0 ≤ 8) && decide (8 ≤ (↑(List.length (ExprT.op x0)) : Int))) = true then if decide ((↑(List.length (ExprT.s x0)) : Int) > 20) = true then if (decide (0 ≤ 0) && decide (0 ≤ 20) && decide (20 ≤ (↑(List.length (ExprT.s x0)) : Int))) = true then if decide ((↑(List.length (ExprT.v x0).2.2) : Int) > 45) = true then if (decide (0 ≤ 0) && decide (0 ≤ 45) && decide (45 ≤ (↑(List.length (ExprT.v x0).2.2) : Int))) = true then fewSC_10 g c x1 (ExprT.op x0) (ExprT.v x0).1 (ExprT.v x0).2.1 (ExprT.v x0).2.2 (ExprT.s x0) [] 0 0 [] [] (List.take (Int.toNat 8 - Int.toNat 0) (List.drop (Int.toNat 0) (ExprT.op x0))) (ExprT.v x0).1 (ExprT.v x0).2.1 (List.take (Int.toNat 45 - Int.toNat 0) (List.drop (Int.toNat 0) (ExprT.v x0).2.2)) (List.take (Int.toNat 20 - Int.toNat 0) (List.drop (Int.toNat 0) (ExprT.s x0))) (ExprT.l x0) 0 (IntKind.i64.wrap (x2 - 1)) [] else false else fewSC_10 g c x1 (ExprT.op x0) (ExprT.v x0).1 (ExprT.v x0).2.1 (ExprT.v x0).2.2 (ExprT.s x0) [] 0 0 [] [] (List.take (Int.toNat 8 - Int.toNat 0) (List.drop (Int.toNat 0) (ExprT.op x0))) (ExprT.v x0).1 (ExprT.v x0).2.1 (ExprT.v x0).2.2
 (List.take (Int.toNat 20 - Int.toNat 0) (List.drop (Int.toNat 0) (ExprT.s x0))) (ExprT.l x0) 0 (IntKind.i64.wrap (x2 - 1)) [] else false else if decide ((↑(List.length (ExprT.v x0).2.2) : Int) > 45) = true then if (decide (0 ≤ 0) && decide (0 ≤ 45) && decide (45 ≤ (↑(List.length (ExprT.v x0).2.2) : Int))) = true then fewSC_10 g c x1 (ExprT.op x0) (ExprT.v x0).1 (ExprT.v x0).2.1 (ExprT.v x0).2.2 (ExprT.s x0) [] 0 0 [] [] (List.take (Int.toNat 8 - Int.toNat 0) (List.drop (Int.toNat 0) (ExprT.op x0))) (ExprT.v x0).1 (ExprT.v x0).2.1 (List.take (Int.toNat 45 - Int.toNat 0) (List.drop (Int.toNat 0) (ExprT.v x0).2.2)) (ExprT.s x0) (ExprT.l x0) 0 (IntKind.i64.wrap (x2 - 1)) [] else false else fewSC_10 g c x1 (ExprT.op x0) (ExprT.v x0).1 (ExprT.v x0).2.1 (ExprT.v x0).2.2 (ExprT.s x0) [] 0 0 [] [] (List.take (Int.toNat 8 - Int.toNat 0) (List.drop (Int.toNat 0) (ExprT.op x0))) (ExprT.v x0).1 (ExprT.v x0).2.1 (ExprT.v x0).2.2 (ExprT.s x0) (ExprT.l x0) 0 (IntKind.i64.wrap (x2 - 1)) [] else false else if decide ((↑(List.length (ExprT.s x0)) : Int) > 20) = true then if (decide (0 ≤ 0) && decide (0 ≤ 20) && decide (20 ≤ (↑(List.length (ExprT.s x0)) : Int))) = true then if decide ((↑(List.length (ExprT.v x0).2.2) : Int) > 45) = true then if (decide (0 ≤ 0) && decide (0 ≤ 45) && decide (45 ≤ (↑(List.length (ExprT.v x0).2.2) : Int))) = true then fewSC_10 g c x1 (ExprT.op x0) (ExprT.v x0).1 (ExprT.v x0).2.1 (ExprT.v x0).2.2 (ExprT.s x0) [] 0 0 [] [] (ExprT.op x0) (ExprT.v x0).1
 (ExprT.v x0).2.1 (List.take (Int.toNat 45 - Int.toNat 0) (List.drop (Int.toNat 0) (ExprT.v x0).2.2)) (List.take (Int.toNat 20 - Int.toNat 0) (List.drop (Int.toNat 0) (ExprT.s x0))) (ExprT.l x0) 0 (IntKind.i64.wrap (x2 - 1)) [] else false else fewSC_10 g c x1 (ExprT.op x0) (ExprT.v x0).1 (ExprT.v x0).2.1 (ExprT.v x0).2.2 (ExprT.s x0) [] 0 0 [] [] (ExprT.op x0) (ExprT.v x0).1 (ExprT.v x0).2.1 (ExprT.v x0).2.2 (List.take (Int.toNat 20 - Int.toNat 0) (List.drop (Int.toNat 0) (ExprT.s x0))) (ExprT.l x0) 0 (IntKind.i64.wrap (x2 - 1)) [] else false else if decide ((↑(List.length (ExprT.v x0).2.2) : Int) > 45) = true then if (decide (0 ≤ 0) && decide (0 ≤ 45) && decide (45 ≤ (↑(List.length (ExprT.v x0).2.2) : Int))) = true then fewSC_10 g c x1 (ExprT.op x0) (ExprT.v x0).1 (ExprT.v x0).2.1 (ExprT.v x0).2.2 (ExprT.s x0) [] 0 0 [] [] (ExprT.op x0) (ExprT.v x0).1 (ExprT.v x0).2.1 (List.take (Int.toNat 45 - Int.toNat 0) (List.drop (Int.toNat 0) (ExprT.v x0).2.2)) (ExprT.s x0) (ExprT.l x0) 0 (IntKind.i64.wrap (x2 - 1)) [] else false else fewSC_10 g c x1 (ExprT.op x0) (ExprT.v x0).1 (ExprT.v x0).2.1 (ExprT.v x0).2.2 (ExprT.s x0) [] 0 0 [] [] (ExprT.op x0) (ExprT.v x0).1 (ExprT.v x0).2.1 (ExprT.v x0).2.2 (ExprT.s x0) (ExprT.l x0) 0 (IntKind.i64.wrap (x2 - 1)) []
def F15r (g : Sem Sh.expr → Sem shInt → Sem shInt → Sem Sh.expr × Sem shInt) (c : Sem Sh.expr → Sem shInt → Sem shInt → Bool) : FSem := plainC [Sh.expr, shInt, shInt] [Sh.expr, shInt] (fun x => fewSC g c x.1 x.2.1 x.2.2.1) fun x => ((fewS g c x.1 x.2.1 x.2.2.1).1, (fewS g c x.1 x.2.1 x.2.2.1).2, ())
theorem FOk15r (g : Sem Sh.expr → Sem shInt → Sem shInt → Sem Sh.expr × Sem shInt) (c : Sem Sh.expr → Sem shInt → Sem shInt → Bool) (hg : FOk env20.P env20.gl 57 (plainC [Sh.expr, shInt, shInt] [Sh.expr, shInt] (fun x => c x.1 x.2.1 x.2.2.1) fun x => ((g x.1 x.2.1 x.2.2.1).1, (g x.1 x.2.1 x.2.2.1).2, ()))) : FOk (en15 g c).P (en15 g c).gl 57 (F15r g c) := by
 refine FOk_plainC (ok15r g c) fun x hc C hC => ?_
 unfold fewSC at hc
 refine reach_ok (en15_all hg) en15_mix (ok15r g c) (fun id _ => hC id) (go15r g c x.1 x.2.1 x.2.2.1) ?_
 generalize hy : fewS g c x.1 x.2.1 x.2.2.1 = y
 unfold fewS at hy
 try simp only [ExprT.eta, etaE_eq]
 repeat' (first | with_reducible refine obr hy hc (fun _ hy hc => ?_) (fun _ hy hc => ?_) | with_reducible refine obr1 hy (fun _ hy => ?_) (fun _ hy => ?_) | with_reducible refine ochk hc (fun hc => ?_) | with_reducible refine OptOk_chkT ?_)
 all_goals (subst hy; first | (change Reach _ _ _ _ _ _; apply at15r_10s g c hg hC <;> first | assumption | exact hc) | rfl)
mutual
def fewN : Nat → Sem Sh.expr → Sem shInt → Sem shInt → Sem Sh.expr × Sem shInt
 | 0 => fun _ _ _ => default
 | n + 1 => fewS (fewN n) (fewCN n)
def fewCN : Nat → Sem Sh.expr → Sem shInt → Sem shInt → Bool
 | 0 => fun _ _ _ => false
 | n + 1 => fewSC (fewN n) (fewCN n)
end
theorem FOk15N : ∀ n, FOk env20.P env20.gl 57 (plainC [Sh.expr, shInt, shInt] [Sh.expr, shInt] (fun x => fewCN n x.1 x.2.1 x.2.2.1) fun x => ((fewN n x.1 x.2.1 x.2.2.1).1, (fewN n x.1 x.2.1 x.2.2.1).2, ()))
 | 0 => FOk_none ⟨Tryz.f57, (ok15r default default).1, (ok15r default default).2.1, (ok15r default default).2.2.1⟩ (fun _ => rfl)
 | n + 1 => FOk15r (fewN n) (fewCN n) (FOk15N n)
def F15 : FSem := plainC [Sh.expr, shInt, shInt] [Sh.expr, shInt] (fun x => fewCN 16 x.1 x.2.1 x.2.2.1) fun x => ((fewN 16 x.1 x.2.1 x.2.2.1).1, (fewN 16 x.1 x.2.1 x.2.2.1).2, ())
theorem FOk15 : FOk env20.P env20.gl 57 F15 := FOk15N 16

def eqL (g : ExprT → ExprT → Bool) : List ExprT → List ExprT → Bool
 | x :: r, y :: s => if (!g x y) = true then false else eqL g r s
 | _, _ => true
def eqLC (g c : ExprT → ExprT → Bool) : List ExprT → List ExprT → Bool
 | x :: r, y :: s => if c x y = true then (if (!g x y) = true then true else eqLC g c r s) else false
 | _, _ => true

noncomputable def en50 (g c : ExprT → ExprT → Bool) : Env := env20.add 87 (plainC [.expr, .expr] [.bool] (fun x => c x.1 x.2.1) (fun x => (g x.1 x.2.1, ())))
theorem en50_all {g c : ExprT → ExprT → Bool} (hg : FOk env20.P env20.gl 87 (plainC [.expr, .expr] [.bool] (fun x => c x.1 x.2.1) (fun x => (g x.1 x.2.1, ())))) : EnvAll (en50 g c) := env20_all.add hg
theorem en50_mix {g c : ExprT → ExprT → Bool} : (en50 g c).P.follows .mixedOrders = true := mix_add env20_mix _ _
abbrev kp50 : Nat → Keep := fun j => if j = 4 then { slots := [1, 2, 15, 16, 17] } else { }
abbrev s50_4 (l1 : List ExprT) (l15 : List ExprT) (i16 : Int) (i17 : Int) : St := { tmps := [ny, AV.sl Sh.expr l1, AV.clo (Fn.func 87) [] [], ny, ny, ny, ny, ny, ny, ny, ny, ny, ny, ny, ny, AV.sl Sh.expr l15, ai i16, ai i17, ny, ny, ny, ny, ny, ny, ny, ny, ny, ny, ny, ny, ny, ny], heap := [] }
theorem ok50 (g c : ExprT → ExprT → Bool) : fnChk (en50 g c).P 140 Tryz.f140 3 := by refine ⟨?_, ?_, ?_, ?_⟩ <;> kernel_rfl
theorem go50 (g c : ExprT → ExprT → Bool) (l : List ExprT) (m : List ExprT) : run (en50 g c) 0 kp50 (Func.results Tryz.f140).toList 400 (bodyOf Tryz.f140) (initSt (Func.ntmps Tryz.f140) [AV.sl Sh.expr l, AV.sl Sh.expr m, AV.clo (Fn.func 87) [] []] []) = Tr.br ((↑l.length : Int) != (↑m.length : Int)) (Tr.ok (Leaf.ret (AV.kb false) [])) (Tr.ok (Leaf.head 4 (headK Tryz.f140 4) (s50_4 m l (↑l.length : Int) 0))) := by kernel_rfl
theorem on50_4 (g c : ExprT → ExprT → Bool) (l1 : List ExprT) (l15 : List ExprT) (i16 : Int) (i17 : Int) : run (en50 g c) 0 kp50 (Func.results Tryz.f140).toList 400 (headK Tryz.f140 4) (s50_4 l1 l15 i16 i17) = Tr.br (decide (i17 < i16)) (Tr.chk (inB i17 l15.length) (Tr.chk (inB i17 l1.length) (Tr.chk (c (etaE (l15.getD i17.toNat (dflt Sh.expr))) (etaE (l1.getD i17.toNat (dflt Sh.expr)))) (Tr.br (!g (etaE (l15.getD i17.toNat (dflt Sh.expr))) (etaE (l1.getD i17.toNat (dflt Sh.expr)))) (Tr.ok (Leaf.ret (AV.kb false) [])) (Tr.ok (Leaf.head 4 (headK Tryz.f140 4) (s50_4 l1 l15 i16 (IntKind.i64.wrap (i17 + 1))))))))) (Tr.ok (Leaf.ret (AV.kb true) [])) := by kernel_rfl

theorem at50 {g c : ExprT → ExprT → Bool} (hg : FOk env20.P env20.gl 87 (plainC [.expr, .expr] [.bool] (fun x => c x.1 x.2.1) (fun x => (g x.1 x.2.1, ())))) {C : Ctx} (hC : ∀ id, 0 ≤ id → C.ρ0 id = none) (l m : List ExprT) (hlm : l.length = m.length) (hl : l.length ≤ maxStr) :
  ∀ (k i : Nat), l.length - i = k → i ≤ l.length → eqLC g c (l.drop i) (m.drop i) = true → Reach (en50 g c) C 140 (headK Tryz.f140 4) (s50_4 m l l.length i) (fun r h => (r, h) = (.kb (eqL g (l.drop i) (m.drop i)), [])) := by
 intro k
 induction k with
 | zero =>
  intro i hk hi hc
  obtain rfl : i = l.length := by omega
  refine reach_ok (en50_all hg) en50_mix (ok50 g c) hC (on50_4 g c _ _ _ _) ?_
  simp only [lt_dec', Tr.val_brF, List.drop_length]
  rfl
 | succ k IH =>
  intro i hk hi hc
  have hlt : i < l.length := by omega
  have hlt' : i < m.length := by omega
  refine reach_ok (en50_all hg) en50_mix (ok50 g c) hC (on50_4 g c _ _ _ _) ?_
  rw [List.drop_eq_getElem_cons hlt, List.drop_eq_getElem_cons hlt'] at hc ⊢
  rw [eqLC] at hc
  have hc1 := guard_ite hc
  simp only [lt_dec hlt, inB_of hlt, inB_of hlt', getD_at l _ hlt, getD_at m _ hlt', ExprT.eta, Tr.val_brT, Tr.val_chkT, hc1.1, wrap_add i (by omega)]
  refine OptOk_br (fun h => ?_) (fun h => ?_)
  ·rw [eqL, if_pos h]; rfl
  ·rw [eqL, if_neg (ne_t h)]
   have h2 := hc1.2
   rw [if_neg (ne_t h)] at h2
   exact IH (i + 1) (by omega) (by omega) h2

def eqLs (g : ExprT → ExprT → Bool) (l m : List ExprT) : Bool := if ((↑l.length : Int) != (↑m.length : Int)) = true then false else eqL g l m
def eqLsC (g c : ExprT → ExprT → Bool) (l m : List ExprT) : Bool := if ((↑l.length : Int) != (↑m.length : Int)) = true then true else eqLC g c l m
def G50 (g c : ExprT → ExprT → Bool) : GSem [some (.sl .expr), some (.sl .expr), none] := fun x h => match x, h with
 | (l, m, .clo (.func 87) [] [], _), [] => .chk (eqLsC g c l m) (.ok (.bool (eqLs g l m), []))
 | _, _ => .err
def F50 (g c : ExprT → ExprT → Bool) : FSem := liftF [some (.sl .expr), some (.sl .expr), none] (G50 g c)

theorem Reach.weaken {E : Env} {C : Ctx} {fn : FuncId} {todo : List Item} {st : St} {Q Q' : AV → List AO → Prop} (h : Reach E C fn todo st Q) (hq : ∀ r h, Q r h → ∃ r', Q' r' h ∧ ∀ w U ρ v, Rv w U ρ r v → Rv w U ρ r' v) : Reach E C fn todo st Q' := by
 intro b cs a w U ρ h1 h2 hc hW
 obtain ⟨e, w', fr, ⟨v, r, h', U', ρ', he, hq1, hrv, hrest⟩, hcm⟩ := h b cs a w U ρ h1 h2 hc hW
 obtain ⟨r', hq2, hrr⟩ := hq r h' hq1
 exact ⟨e, w', fr, ⟨v, r', h', U', ρ', he, hq2, hrr _ _ _ _ hrv, hrest⟩, hcm⟩

theorem FOk50 {g c : ExprT → ExprT → Bool} (hg : FOk env20.P env20.gl 87 (plainC [.expr, .expr] [.bool] (fun x => c x.1 x.2.1) (fun x => (g x.1 x.2.1, ())))) : FOk env20.P env20.gl 140 (F50 g c) := by
 refine FOk_of (E := en50 g c) (ok50 g c) fun x h0 res hx C hC => ?_
 unfold G50 at hx
 split at hx
 ·rename_i l m u
  simp only [Tr.val] at hx
  split at hx
  ·rename_i hc
   simp only [Option.some.injEq] at hx
   subst hx
   refine Reach.len 0 .expr l rfl fun hl => ?_
   refine Reach.weaken (Q := fun r h => (r, h) = (.kb (eqLs g l m), [])) ?_ ?_
   ·refine reach_ok (n0 := 0) (en50_all hg) en50_mix (ok50 g c) hC (go50 g c l m) ?_
    unfold eqLsC at hc
    unfold eqLs
    refine OptOk_br (fun h => ?_) (fun h => ?_)
    ·rw [if_pos h]; rfl
    ·rw [if_neg (ne_t h)] at hc ⊢
     have : (l.length : Int) = m.length := by simpa using h
     have : l.length = m.length := by omega
     exact at50 hg hC l m this hl _ 0 rfl (Nat.zero_le _) hc
   ·rintro r h hq
    cases hq
    refine ⟨_, rfl, fun w U ρ v hv => ?_⟩
    cases hv
    exact .bool _
  ·simp at hx
 ·simp at hx

noncomputable def en29 (g c : ExprT → ExprT → Bool) : Env := env20.add 140 (F50 g c)
theorem en29_all {g c : ExprT → ExprT → Bool} (hg : FOk env20.P env20.gl 87 (plainC [.expr, .expr] [.bool] (fun x => c x.1 x.2.1) (fun x => (g x.1 x.2.1, ())))) : EnvAll (en29 g c) := env20_all.add (FOk50 hg)
theorem en29_mix {g c : ExprT → ExprT → Bool} : (en29 g c).P.follows .mixedOrders = true := mix_add env20_mix _ _
def eqV (a b : V) : Bool := a.1 == b.1 && (a.2.1 == b.2.1 && (a.2.2 == b.2.2 && true))
def sameS (g : ExprT → ExprT → Bool) (a b : ExprT) : Bool := bif a.op == b.op then bif eqV a.v b.v then bif a.s == b.s then eqLs g a.l b.l else false else false else false
def sameSC (g c : ExprT → ExprT → Bool) (a b : ExprT) : Bool := bif a.op == b.op then bif eqV a.v b.v then bif a.s == b.s then eqLsC g c a.l b.l else true else true else true
theorem ok29 (g c : ExprT → ExprT → Bool) : fnChk (en29 g c).P 87 Tryz.f87 2 := by refine ⟨?_, ?_, ?_, ?_⟩ <;> kernel_rfl
theorem go29 (g c : ExprT → ExprT → Bool) (l : ExprT) (m : ExprT) : run (en29 g c) 0 (fun _ => {}) (Func.results Tryz.f87).toList 400 (bodyOf Tryz.f87) (initSt (Func.ntmps Tryz.f87) [datum Sh.expr l, datum Sh.expr m] []) = Tr.chk (sameSC g c l m) (Tr.ok (Leaf.ret (AV.bool (sameS g l m)) [])) := by kernel_rfl
theorem FOk29r {g c : ExprT → ExprT → Bool} (hg : FOk env20.P env20.gl 87 (plainC [.expr, .expr] [.bool] (fun x => c x.1 x.2.1) (fun x => (g x.1 x.2.1, ())))) : FOk env20.P env20.gl 87 (plainC [.expr, .expr] [.bool] (fun x => sameSC g c x.1 x.2.1) (fun x => (sameS g x.1 x.2.1, ()))) := by
 refine FOk_plainC (E := en29 g c) (ok29 g c) fun x hx C hC => ?_
 refine reach_ok (n0 := 0) (en29_all hg) en29_mix (ok29 g c) (fun id _ => hC id) (go29 g c x.1 x.2.1) ?_
 exact OptOk_chk hx rfl
mutual
def sameN : Nat → ExprT → ExprT → Bool
 | 0 => fun _ _ => false
 | n + 1 => sameS (sameN n)
def sameCN : Nat → ExprT → ExprT → Bool
 | 0 => fun _ _ => false
 | n + 1 => sameSC (sameN n) (sameCN n)
end
theorem FOk29N : ∀ n, FOk env20.P env20.gl 87 (plainC [.expr, .expr] [.bool] (fun x => sameCN n x.1 x.2.1) (fun x => (sameN n x.1 x.2.1, ())))
 | 0 => FOk_none ⟨Tryz.f87, (ok29 (fun _ _ => false) (fun _ _ => false)).1, (ok29 (fun _ _ => false) (fun _ _ => false)).2.1, (ok29 (fun _ _ => false) (fun _ _ => false)).2.2.1⟩ (fun _ => rfl)
 | n + 1 => FOk29r (FOk29N n)
def F29 : FSem := plainC [.expr, .expr] [.bool] (fun x => sameCN 16 x.1 x.2.1) (fun x => (sameN 16 x.1 x.2.1, ()))
theorem FOk29 : FOk env20.P env20.gl 87 F29 := FOk29N 16

noncomputable def env21 : Env := ((env20.add 57 F15).add 87 F29)
theorem env21_all : EnvAll env21 := (EnvAll.addS (EnvAll.addS env20_all (SameE.refl env20) FOk15) ((SameE.refl env20).add _ _) FOk29)
theorem env21_mix : env21.P.follows .mixedOrders = true := (mix_add (mix_add env20_mix _ _) _ _)
open Go Go.Proofs

def isNil (v : V) : Bool := v.1 == 0 && (v.2.1 == 0 && (v.2.2 == [] && true))
def avB : AV → Option Bool
 | .bool b => some b
 | .kb b => some b
 | _ => none

theorem Reach.toBool {E : Env} {C : Ctx} {fn : FuncId} {todo : List Item} {st : St} {b : Bool} {hp : List AO} (h : Reach E C fn todo st (fun r h => avB r = some b ∧ h = hp)) : Reach E C fn todo st (fun r h => (r, h) = (.bool b, hp)) := by
 refine h.weaken fun r h' hq => ?_
 obtain ⟨h1, rfl⟩ := hq
 refine ⟨.bool b, rfl, fun w U ρ v hv => ?_⟩
 cases r <;> simp [avB] at h1 <;> subst h1 <;> cases hv <;> exact .bool _

def G37r (g : ExprT → Int → Int → Bool × Int) (c : ExprT → Int → Int → Bool) : GSem [none, some .expr, some shInt] := fun x h => match x, h with
 | (.ptr 0 0, e, d, _), [.box [.int .i64 n]] => .chk (c e d n) (.ok (.bool (g e d n).1, [.box [.int .i64 (g e d n).2]]))
 | _, _ => .err
def F37r (g : ExprT → Int → Int → Bool × Int) (c : ExprT → Int → Int → Bool) : FSem := liftF [none, some .expr, some shInt] (G37r g c)
noncomputable def en37 (g : ExprT → Int → Int → Bool × Int) (c : ExprT → Int → Int → Bool) : Env := env21.add 181 (F37r g c)
theorem en37_all {g : ExprT → Int → Int → Bool × Int} {c : ExprT → Int → Int → Bool} (hg : FOk env21.P env21.gl 181 (F37r g c)) : EnvAll (en37 g c) := env21_all.add hg
theorem en37_mix {g : ExprT → Int → Int → Bool × Int} {c : ExprT → Int → Int → Bool} : (en37 g c).P.follows .mixedOrders = true := mix_add env21_mix _ _
abbrev kp37 : Nat → Keep := fun j => if j = 12 then { slots := [0, 2, 73, 74, 75] } else { }
abbrev s37_12 (i2 : Int) (l73 : LX) (i74 : Int) (i75 : Int) (ja0 : Int) : St := { tmps := [AV.ptr 0 0, ny, ai i2, ny, ny, ny, ny, ny, ny, ny, ny, ny, ny, ny, ny, ny, ny, ny, ny, ny, ny, ny, ny, ny, ny, ny, ny, ny, ny, ny, ny, ny, ny, ny, ny, ny, ny, ny, ny, ny, ny, ny, ny, ny, ny, ny, ny, ny, ny, ny, ny, ny, ny, ny, ny, ny, ny, ny, ny, ny, ny, ny, ny, ny, ny, ny, ny, ny, ny, ny, ny, ny, ny, AV.sl Sh.expr l73, ai i74, ai i75, ny, ny, ny, ny, ny, ny, ny, ny, ny, ny], heap := [AO.box [ai ja0]] }
theorem ok37 (g : ExprT → Int → Int → Bool × Int) (c : ExprT → Int → Int → Bool) : fnChk (en37 g c).P 181 Tryz.f181 3 := by refine ⟨?_, ?_, ?_, ?_⟩ <;> kernel_rfl
theorem go37 (g : ExprT → Int → Int → Bool × Int) (c : ExprT → Int → Int → Bool) (e : ExprT) (d : Int) (n : Int) : run (en37 g c) 1 kp37 (Func.results Tryz.f181).toList 400 (bodyOf Tryz.f181) (initSt (Func.ntmps Tryz.f181) [AV.ptr 0 0, datum Sh.expr e, ai d] [AO.box [ai n]]) = Tr.br (bif decide (d > 12) then true else bif decide (IntKind.i64.wrap (n + 1) > 60) then true else (↑e.l.length : Int) != partsN e.op) (Tr.ok (Leaf.ret (AV.kb false) [AO.box [ai (IntKind.i64.wrap (n + 1))]])) (Tr.br (e.op == [108, 105, 116]) (Tr.ok (Leaf.ret (AV.bool (bif e.s == [] then vMay e.v else false)) [AO.box [ai (IntKind.i64.wrap (n + 1))]])) (Tr.br (e.op == [99, 111, 108]) (Tr.ok (Leaf.ret (AV.bool (bif isNil e.v then bif wName e.s then !resv e.s else false else false)) [AO.box [ai (IntKind.i64.wrap (n + 1))]])) (Tr.br (bif !isNil e.v then true else !e.s == []) (Tr.ok (Leaf.ret (AV.kb false) [AO.box [ai (IntKind.i64.wrap (n + 1))]])) (Tr.ok (Leaf.head 12 (headK Tryz.f181 12) (s37_12 d e.l (↑e.l.length : Int) 0 (IntKind.i64.wrap (n + 1)))))))) := by kernel_rfl
theorem on37_12 (g : ExprT → Int → Int → Bool × Int) (c : ExprT → Int → Int → Bool) (i2 : Int) (l73 : LX) (i74 : Int) (i75 : Int) (ja0 : Int) : run (en37 g c) 1 kp37 (Func.results Tryz.f181).toList 400 (headK Tryz.f181 12) (s37_12 i2 l73 i74 i75 ja0) = Tr.br (decide (i75 < i74)) (Tr.chk (inB i75 l73.length) (Tr.chk (c (etaE (l73.getD i75.toNat (dflt Sh.expr))) (IntKind.i64.wrap (i2 + 1)) ja0) (Tr.br (!(g (etaE (l73.getD i75.toNat (dflt Sh.expr))) (IntKind.i64.wrap (i2 + 1)) ja0).1) (Tr.ok (Leaf.ret (AV.kb false) [AO.box [AV.int IntKind.i64 (g (etaE (l73.getD i75.toNat (dflt Sh.expr))) (IntKind.i64.wrap (i2 + 1)) ja0).2]])) (Tr.ok (Leaf.head 12 (headK Tryz.f181 12) (s37_12 i2 l73 i74 (IntKind.i64.wrap (i75 + 1)) (g (etaE (l73.getD i75.toNat (dflt Sh.expr))) (IntKind.i64.wrap (i2 + 1)) ja0).2)))))) (Tr.ok (Leaf.ret (AV.kb true) [AO.box [ai ja0]])) := by kernel_rfl

def mayL (g : ExprT → Int → Int → Bool × Int) (d : Int) : List ExprT → Int → Bool × Int
 | [], n => (true, n)
 | x :: r, n => if (!(g x (IntKind.i64.wrap (d + 1)) n).1) = true then (false, (g x (IntKind.i64.wrap (d + 1)) n).2) else mayL g d r (g x (IntKind.i64.wrap (d + 1)) n).2
def mayLC (g : ExprT → Int → Int → Bool × Int) (c : ExprT → Int → Int → Bool) (d : Int) : List ExprT → Int → Bool
 | [], _ => true
 | x :: r, n => if c x (IntKind.i64.wrap (d + 1)) n = true then (if (!(g x (IntKind.i64.wrap (d + 1)) n).1) = true then true else mayLC g c d r (g x (IntKind.i64.wrap (d + 1)) n).2) else false

theorem at37 {g : ExprT → Int → Int → Bool × Int} {c : ExprT → Int → Int → Bool} (hg : FOk env21.P env21.gl 181 (F37r g c)) {C : Ctx} (hC : ∀ id, 1 ≤ id → C.ρ0 id = none) (d : Int) (l : List ExprT) (hl : l.length ≤ maxStr) :
  ∀ (k i : Nat) (n : Int), l.length - i = k → i ≤ l.length → mayLC g c d (l.drop i) n = true → Reach (en37 g c) C 181 (headK Tryz.f181 12) (s37_12 d l l.length i n) (fun r h => avB r = some (mayL g d (l.drop i) n).1 ∧ h = [.box [.int .i64 (mayL g d (l.drop i) n).2]]) := by
 intro k
 induction k with
 | zero =>
  intro i n hk hi hc
  obtain rfl : i = l.length := by omega
  refine reach_ok (en37_all hg) en37_mix (ok37 g c) hC (on37_12 g c _ _ _ _ _) ?_
  simp only [lt_dec', Tr.val_brF, List.drop_length]
  exact ⟨rfl, rfl⟩
 | succ k IH =>
  intro i n hk hi hc
  have hlt : i < l.length := by omega
  refine reach_ok (en37_all hg) en37_mix (ok37 g c) hC (on37_12 g c _ _ _ _ _) ?_
  rw [List.drop_eq_getElem_cons hlt] at hc ⊢
  rw [mayLC] at hc
  have hc1 := guard_ite hc
  simp only [lt_dec hlt, inB_of hlt, getD_at l _ hlt, ExprT.eta, Tr.val_brT, Tr.val_chkT, hc1.1, wrap_add i (by omega)]
  refine OptOk_br (fun h => ?_) (fun h => ?_)
  ·rw [mayL, if_pos h]; exact ⟨rfl, rfl⟩
  ·rw [mayL, if_neg (ne_t h)]
   have h2 := hc1.2
   rw [if_neg (ne_t h)] at h2
   exact IH (i + 1) _ (by omega) (by omega) h2

def mayS (g : ExprT → Int → Int → Bool × Int) (e : ExprT) (d n : Int) : Bool × Int := if (bif decide (d > 12) then true else bif decide (IntKind.i64.wrap (n + 1) > 60) then true else (↑e.l.length : Int) != partsN e.op) = true then (false, IntKind.i64.wrap (n + 1)) else if (e.op == [108, 105, 116]) = true then (bif e.s == [] then vMay e.v else false, IntKind.i64.wrap (n + 1)) else if (e.op == [99, 111, 108]) = true then (bif isNil e.v then bif wName e.s then !resv e.s else false else false, IntKind.i64.wrap (n + 1)) else if (bif !isNil e.v then true else !e.s == []) = true then (false, IntKind.i64.wrap (n + 1)) else mayL g d e.l (IntKind.i64.wrap (n + 1))
def maySC (g : ExprT → Int → Int → Bool × Int) (c : ExprT → Int → Int → Bool) (e : ExprT) (d n : Int) : Bool := if (bif decide (d > 12) then true else bif decide (IntKind.i64.wrap (n + 1) > 60) then true else (↑e.l.length : Int) != partsN e.op) = true then true else if (e.op == [108, 105, 116]) = true then true else if (e.op == [99, 111, 108]) = true then true else if (bif !isNil e.v then true else !e.s == []) = true then true else mayLC g c d e.l (IntKind.i64.wrap (n + 1))

theorem FOk37r {g : ExprT → Int → Int → Bool × Int} {c : ExprT → Int → Int → Bool} (hg : FOk env21.P env21.gl 181 (F37r g c)) : FOk env21.P env21.gl 181 (F37r (mayS g) (maySC g c)) := by
 refine FOk_of (E := en37 g c) (ok37 g c) fun x h0 res hx C hC => ?_
 unfold G37r at hx
 split at hx
 ·rename_i e d u n
  simp only [Tr.val] at hx
  split at hx
  ·rename_i hc
   simp only [Option.some.injEq] at hx
   subst hx
   refine Reach.toBool ?_
   refine reach_ok (n0 := 1) (en37_all hg) en37_mix (ok37 g c) hC (go37 g c e d n) ?_
   generalize hy : mayS g e d n = y
   unfold mayS at hy
   unfold maySC at hc
   repeat' (refine OptOk_br (fun hsp => ?_) (fun hsp => ?_) <;> first | (rw [if_pos hsp] at hy hc) | (rw [if_neg (ne_t hsp)] at hy hc))
   all_goals subst hy
   ·exact ⟨rfl, rfl⟩
   ·exact ⟨rfl, rfl⟩
   ·exact ⟨rfl, rfl⟩
   ·exact ⟨rfl, rfl⟩
   ·exact Reach.len 73 .expr e.l rfl fun hl => at37 hg hC d e.l hl _ 0 _ rfl (Nat.zero_le _) hc
  ·simp at hx
 ·simp at hx

mutual
def mayN : Nat → ExprT → Int → Int → Bool × Int
 | 0 => fun _ _ _ => (false, 0)
 | n + 1 => mayS (mayN n)
def mayCN : Nat → ExprT → Int → Int → Bool
 | 0 => fun _ _ _ => false
 | n + 1 => maySC (mayN n) (mayCN n)
end
theorem FOk37N : ∀ n, FOk env21.P env21.gl 181 (F37r (mayN n) (mayCN n))
 | 0 => by
  have h : FOk env21.P env21.gl 181 (liftF [none, some .expr, some shInt] (fun _ _ => .err)) := FOk_of (ok37 (fun _ _ _ => (false, 0)) (fun _ _ _ => false)) (E := env21) fun x h0 res hx => by simp at hx
  refine FOk_any (ι := Unit) (Gs := fun _ _ _ => .err) (fun _ => h) fun x h0 res hx => ?_
  unfold G37r at hx
  split at hx
  ·simp [Tr.val, mayCN] at hx
  ·simp at hx
 | n + 1 => FOk37r (FOk37N n)
def F37 : FSem := F37r (mayN 16) (mayCN 16)
theorem FOk37 : FOk env21.P env21.gl 181 F37 := FOk37N 16

noncomputable def env22 : Env := (env21.add 181 F37)
theorem env22_all : EnvAll env22 := (EnvAll.addS env21_all (SameE.refl env21) FOk37)
theorem env22_mix : env22.P.follows .mixedOrders = true := (mix_add env21_mix _ _)
open Go Go.Proofs

abbrev doesM : List (Str × AV) := [([97, 110, 100], .clo (.func 252) [] []), ([111, 114], .clo (.func 253) [] []), ([110, 111, 116], .clo (.func 254) [] []), ([61], .clo (.func 256) [] []), ([60], .clo (.func 257) [] []), ([43], .clo (.func 258) [] []), ([45], .clo (.func 259) [] []), ([110, 117, 108, 108], .clo (.func 260) [] [])]
abbrev kp23 : Nat → Keep := fun _ => { }
theorem ok23 : fnChk env22.P 218 Tryz.f218 0 := by refine ⟨?_, ?_, ?_, ?_⟩ <;> kernel_rfl
theorem go23 : (run env22 0 kp23 (Func.results Tryz.f218).toList 400 (bodyOf Tryz.f218) (initSt (Func.ntmps Tryz.f218) [] [])).val = some (Leaf.ret (AV.mp 0) [AO.fmap doesM]) := by kernel_rfl
def G23 : GSem [] := fun _ h => match h with
 | [] => .ok (.mp 0, [.fmap doesM])
 | _ => .err
def F23 : FSem := liftF [] G23
theorem FOk23 : FOk env22.P env22.gl 218 F23 := by
 refine FOk_of ok23 fun x h0 res hx C hC => ?_
 unfold G23 at hx
 split at hx
 ·simp only [Tr.val, Option.some.injEq] at hx
  subst hx
  exact reach_val (n0 := 0) env22_all env22_mix ok23 hC go23 rfl
 ·simp at hx

def opV (op : Str) (x y : V) : V := if (op == [97, 110, 100]) = true then vAnd x y else if (op == [111, 114]) = true then vOr x y else if (op == [110, 111, 116]) = true then vNot2 x y else if (op == [61]) = true then vEqual x y else if (op == [60]) = true then vLess x y else if (op == [43]) = true then vPlus x y else if (op == [45]) = true then vMinus x y else if (op == [110, 117, 108, 108]) = true then vNull2 x y else (0, 0, [])
def opC (op : Str) : Bool := if (op == [97, 110, 100]) = true then true else if (op == [111, 114]) = true then true else if (op == [110, 111, 116]) = true then true else if (op == [61]) = true then true else if (op == [60]) = true then true else if (op == [43]) = true then true else if (op == [45]) = true then true else if (op == [110, 117, 108, 108]) = true then true else false
def opL (op : Str) (x y : V) (h : List AO) : Option Leaf := if (op == [97, 110, 100]) = true then some (.ret (datum shVal (vAnd x y)) h) else if (op == [111, 114]) = true then some (.ret (datum shVal (vOr x y)) h) else if (op == [110, 111, 116]) = true then some (.ret (datum shVal (vNot2 x y)) h) else if (op == [61]) = true then some (.ret (datum shVal (vEqual x y)) h) else if (op == [60]) = true then some (.ret (datum shVal (vLess x y)) h) else if (op == [43]) = true then some (.ret (datum shVal (vPlus x y)) h) else if (op == [45]) = true then some (.ret (datum shVal (vMinus x y)) h) else if (op == [110, 117, 108, 108]) = true then some (.ret (datum shVal (vNull2 x y)) h) else none

def G24r (g : List (Sem shCol) → List (Sem shVal) → ExprT → V) (c : List (Sem shCol) → List (Sem shVal) → ExprT → Bool) : GSem [none, some .expr] := fun x h => match x, h with
 | (.agg [.sl (.pr .str (.pr (.int .i64) .bool)) cols, .sl (.pr (.int .i64) (.pr (.int .i64) .str)) row, .mp 0], e, _), [.fmap [(k1, .clo (.func 252) [] []), (k2, .clo (.func 253) [] []), (k3, .clo (.func 254) [] []), (k4, .clo (.func 256) [] []), (k5, .clo (.func 257) [] []), (k6, .clo (.func 258) [] []), (k7, .clo (.func 259) [] []), (k8, .clo (.func 260) [] [])]] =>
  .chk (k1 == [97, 110, 100] && (k2 == [111, 114] && (k3 == [110, 111, 116] && (k4 == [61] && (k5 == [60] && (k6 == [43] && (k7 == [45] && (k8 == [110, 117, 108, 108])))))))) (.chk (c cols row e) (.ok (datum shVal (g cols row e), [.fmap doesM])))
 | _, _ => .err
def F24r (g : List (Sem shCol) → List (Sem shVal) → ExprT → V) (c : List (Sem shCol) → List (Sem shVal) → ExprT → Bool) : FSem := liftF [none, some .expr] (G24r g c)
noncomputable def en24 (g : List (Sem shCol) → List (Sem shVal) → ExprT → V) (c : List (Sem shCol) → List (Sem shVal) → ExprT → Bool) : Env := env22.add 219 (F24r g c)
theorem en24_all {g : List (Sem shCol) → List (Sem shVal) → ExprT → V} {c : List (Sem shCol) → List (Sem shVal) → ExprT → Bool} (hg : FOk env22.P env22.gl 219 (F24r g c)) : EnvAll (en24 g c) := env22_all.add hg
theorem en24_mix {g : List (Sem shCol) → List (Sem shVal) → ExprT → V} {c : List (Sem shCol) → List (Sem shVal) → ExprT → Bool} : (en24 g c).P.follows .mixedOrders = true := mix_add env22_mix _ _
theorem ok24 (g : List (Sem shCol) → List (Sem shVal) → ExprT → V) (c : List (Sem shCol) → List (Sem shVal) → ExprT → Bool) : fnChk (en24 g c).P 219 Tryz.f219 2 := by refine ⟨?_, ?_, ?_, ?_⟩ <;> kernel_rfl
theorem go24_0 (g : List (Sem shCol) → List (Sem shVal) → ExprT → V) (c : List (Sem shCol) → List (Sem shVal) → ExprT → Bool) (cols : LC) (row : LV) (op : Str) (v : V) (s : Str) : (run (en24 g c) 1 unr (Func.results Tryz.f219).toList 600 (bodyOf Tryz.f219) (initSt (Func.ntmps Tryz.f219) [AV.agg [AV.sl shCol cols, AV.sl shVal row, AV.mp 0], datum Sh.expr (.mk op v s [])] [AO.fmap doesM])).val = if (op == [108, 105, 116]) = true then some (.ret (datum shVal v) [.fmap doesM]) else if (op == [99, 111, 108]) = true then (if (bif decide (cPlace cols s < 0) then true else decide (cPlace cols s ≥ (↑row.length : Int))) = true then some (.ret (datum shVal (0, 0, [])) [.fmap doesM]) else if inB (cPlace cols s) row.length = true then some (.ret (datum shVal (row.getD (Int.toNat (cPlace cols s)) (dflt shVal))) [.fmap doesM]) else none) else opL op (0, 0, []) (0, 0, []) [.fmap doesM] := by kernel_rfl
theorem go24_1 (g : List (Sem shCol) → List (Sem shVal) → ExprT → V) (c : List (Sem shCol) → List (Sem shVal) → ExprT → Bool) (cols : LC) (row : LV) (op : Str) (v : V) (s : Str) (a : ExprT) : (run (en24 g c) 1 unr (Func.results Tryz.f219).toList 600 (bodyOf Tryz.f219) (initSt (Func.ntmps Tryz.f219) [AV.agg [AV.sl shCol cols, AV.sl shVal row, AV.mp 0], datum Sh.expr (.mk op v s [a])] [AO.fmap doesM])).val = if (op == [108, 105, 116]) = true then some (.ret (datum shVal v) [.fmap doesM]) else if (op == [99, 111, 108]) = true then (if (bif decide (cPlace cols s < 0) then true else decide (cPlace cols s ≥ (↑row.length : Int))) = true then some (.ret (datum shVal (0, 0, [])) [.fmap doesM]) else if inB (cPlace cols s) row.length = true then some (.ret (datum shVal (row.getD (Int.toNat (cPlace cols s)) (dflt shVal))) [.fmap doesM]) else none) else if c cols row (.mk a.op a.v a.s a.l) = true then opL op (g cols row (.mk a.op a.v a.s a.l)) (0, 0, []) [.fmap doesM] else none := by kernel_rfl
theorem go24_2 (g : List (Sem shCol) → List (Sem shVal) → ExprT → V) (c : List (Sem shCol) → List (Sem shVal) → ExprT → Bool) (cols : LC) (row : LV) (op : Str) (v : V) (s : Str) (a b : ExprT) : (run (en24 g c) 1 unr (Func.results Tryz.f219).toList 600 (bodyOf Tryz.f219) (initSt (Func.ntmps Tryz.f219) [AV.agg [AV.sl shCol cols, AV.sl shVal row, AV.mp 0], datum Sh.expr (.mk op v s [a, b])] [AO.fmap doesM])).val = if (op == [108, 105, 116]) = true then some (.ret (datum shVal v) [.fmap doesM]) else if (op == [99, 111, 108]) = true then (if (bif decide (cPlace cols s < 0) then true else decide (cPlace cols s ≥ (↑row.length : Int))) = true then some (.ret (datum shVal (0, 0, [])) [.fmap doesM]) else if inB (cPlace cols s) row.length = true then some (.ret (datum shVal (row.getD (Int.toNat (cPlace cols s)) (dflt shVal))) [.fmap doesM]) else none) else if c cols row (.mk a.op a.v a.s a.l) = true then (if c cols row (.mk b.op b.v b.s b.l) = true then opL op (g cols row (.mk a.op a.v a.s a.l)) (g cols row (.mk b.op b.v b.s b.l)) [.fmap doesM] else none) else none := by kernel_rfl

theorem OptOk_ite {Φ : Leaf → Prop} {c : Bool} {a b : Option Leaf} (h1 : c = true → OptOk Φ a) (h2 : c = false → OptOk Φ b) : OptOk Φ (if c = true then a else b) := by
 cases c
 ·simpa using h2 rfl
 ·simpa using h1 rfl
theorem reach_okv {E : Env} {C : Ctx} {k : FuncId} {f : Func} {Q : AV → List AO → Prop} {n n0 : Nat} (hE : EnvAll E) (hm : E.P.follows .mixedOrders = true) (hf : fnChk E.P k f n) (hC : ∀ id, n0 ≤ id → C.ρ0 id = none) {keep : Nat → Keep} {fuel : Nat}
  {todo : List Item} {st : St} {o : Option Leaf} (ht : (run E n0 keep f.results.toList fuel todo st).val = o) (h : OptOk (LeafOk E C k Q) o) : Reach E C k todo st Q :=
 reach_ok hE hm hf hC rfl (by rw [ht]; exact h)

theorem opL_ok {E : Env} {C : Ctx} {op : Str} {x y : V} {h : List AO} (hc : opC op = true) : OptOk (LeafOk E C 219 (fun r h' => (r, h') = (datum shVal (opV op x y), h))) (opL op x y h) := by
 generalize hy : opV op x y = z
 unfold opC at hc
 unfold opV at hy
 unfold opL
 repeat' (refine OptOk_ite (fun hsp => ?_) (fun hsp => ?_) <;> first | (rw [if_pos hsp] at hy; try rw [if_pos hsp] at hc) | (rw [if_neg (ne_t hsp)] at hy; try rw [if_neg (ne_t hsp)] at hc))
 all_goals first | (cases hc; done) | (subst hy; rfl)

def valS (g : List (Sem shCol) → List (Sem shVal) → ExprT → V) (cols : LC) (row : LV) : ExprT → V
 | .mk op v s l => if (op == [108, 105, 116]) = true then v else
  if (op == [99, 111, 108]) = true then (if (bif decide (cPlace cols s < 0) then true else decide (cPlace cols s ≥ (↑row.length : Int))) = true then (0, 0, []) else row.getD (Int.toNat (cPlace cols s)) (dflt shVal)) else
  match l with
  | [] => opV op (0, 0, []) (0, 0, [])
  | [a] => opV op (g cols row a) (0, 0, [])
  | [a, b] => opV op (g cols row a) (g cols row b)
  | _ => (0, 0, [])
def valSC (c : List (Sem shCol) → List (Sem shVal) → ExprT → Bool) (cols : LC) (row : LV) : ExprT → Bool
 | .mk _ _ _ (_ :: _ :: _ :: _) => false
 | .mk op _ s l => if (op == [108, 105, 116]) = true then true else
  if (op == [99, 111, 108]) = true then (if (bif decide (cPlace cols s < 0) then true else decide (cPlace cols s ≥ (↑row.length : Int))) = true then true else inB (cPlace cols s) row.length) else
  match l with
  | [] => opC op
  | [a] => if c cols row a = true then opC op else false
  | [a, b] => if c cols row a = true then (if c cols row b = true then opC op else false) else false
  | _ => false

theorem FOk24r {g : List (Sem shCol) → List (Sem shVal) → ExprT → V} {c : List (Sem shCol) → List (Sem shVal) → ExprT → Bool} (hg : FOk env22.P env22.gl 219 (F24r g c)) : FOk env22.P env22.gl 219 (F24r (valS g) (valSC c)) := by
 refine FOk_of (E := en24 g c) (ok24 g c) fun x h0 res hx C hC => ?_
 unfold G24r at hx
 split at hx
 ·rename_i cols row e u k1 k2 k3 k4 k5 k6 k7 k8
  simp only [Tr.val] at hx
  split at hx
  ·rename_i hk
   split at hx
   ·rename_i hc
    simp only [Bool.and_eq_true, beq_iff_eq] at hk
    obtain ⟨rfl, rfl, rfl, rfl, rfl, rfl, rfl, rfl⟩ := hk
    simp only [Option.some.injEq] at hx
    subst hx
    obtain ⟨op, v, s, l⟩ := e
    match l, hc with
    | [], hc =>
     refine reach_okv (n0 := 1) (en24_all hg) en24_mix (ok24 g c) hC (go24_0 g c cols row op v s) ?_
     generalize hy : valS g cols row (.mk op v s []) = z
     rw [valSC] at hc
     rw [valS] at hy
     repeat' (first | (subst hy; exact opL_ok hc) | refine OptOk_ite (fun hsp => ?_) (fun hsp => ?_) <;> first | (first | rw [if_pos hsp] at hy hc | rw [if_pos hsp] at hc | rw [if_pos hsp] at hy) | (first | rw [if_neg (ne_t hsp)] at hy hc | rw [if_neg (ne_t hsp)] at hc | rw [if_neg (ne_t hsp)] at hy) | skip)
     all_goals first | (subst hy; exact opL_ok hc) | (subst hy; rfl) | (rw [hc] at hsp; cases hsp)
    | [a], hc =>
     refine reach_okv (n0 := 1) (en24_all hg) en24_mix (ok24 g c) hC (go24_1 g c cols row op v s a) ?_
     generalize hy : valS g cols row (.mk op v s [a]) = z
     rw [valSC] at hc
     rw [valS] at hy
     simp only [ExprT.eta]
     repeat' (first | (subst hy; exact opL_ok hc) | refine OptOk_ite (fun hsp => ?_) (fun hsp => ?_) <;> first | (first | rw [if_pos hsp] at hy hc | rw [if_pos hsp] at hc | rw [if_pos hsp] at hy) | (first | rw [if_neg (ne_t hsp)] at hy hc | rw [if_neg (ne_t hsp)] at hc | rw [if_neg (ne_t hsp)] at hy) | skip)
     all_goals first | (subst hy; exact opL_ok hc) | (subst hy; rfl) | (cases hc; done) | (rw [hc] at hsp; cases hsp)
    | [a, b], hc =>
     refine reach_okv (n0 := 1) (en24_all hg) en24_mix (ok24 g c) hC (go24_2 g c cols row op v s a b) ?_
     generalize hy : valS g cols row (.mk op v s [a, b]) = z
     rw [valSC] at hc
     rw [valS] at hy
     simp only [ExprT.eta]
     repeat' (first | (subst hy; exact opL_ok hc) | refine OptOk_ite (fun hsp => ?_) (fun hsp => ?_) <;> first | (first | rw [if_pos hsp] at hy hc | rw [if_pos hsp] at hc | rw [if_pos hsp] at hy) | (first | rw [if_neg (ne_t hsp)] at hy hc | rw [if_neg (ne_t hsp)] at hc | rw [if_neg (ne_t hsp)] at hy) | skip)
     all_goals first | (subst hy; exact opL_ok hc) | (subst hy; rfl) | (cases hc; done) | (rw [hc] at hsp; cases hsp)
    | _ :: _ :: _ :: _, hc =>
     cases hc
   ·simp at hx
  ·simp at hx
 ·simp at hx

mutual
def valN : Nat → List (Sem shCol) → List (Sem shVal) → ExprT → V
 | 0 => fun _ _ _ => (0, 0, [])
 | n + 1 => valS (valN n)
def valCN : Nat → List (Sem shCol) → List (Sem shVal) → ExprT → Bool
 | 0 => fun _ _ _ => false
 | n + 1 => valSC (valCN n)
end
theorem FOk24N : ∀ n, FOk env22.P env22.gl 219 (F24r (valN n) (valCN n))
 | 0 => by
  have h : FOk env22.P env22.gl 219 (liftF [none, some .expr] (fun _ _ => .err)) := FOk_of (ok24 (fun _ _ _ => (0, 0, [])) (fun _ _ _ => false)) (E := env22) fun x h0 res hx => by simp at hx
  refine FOk_any (ι := Unit) (Gs := fun _ _ _ => .err) (fun _ => h) fun x h0 res hx => ?_
  unfold G24r at hx
  split at hx
  ·simp [Tr.val, valCN] at hx
  ·simp at hx
 | n + 1 => FOk24r (FOk24N n)
def F24 : FSem := F24r (valN 16) (valCN 16)
theorem FOk24 : FOk env22.P env22.gl 219 F24 := FOk24N 16

noncomputable def env23 : Env := ((env22.add 218 F23).add 219 F24)
theorem env23_all : EnvAll env23 := (EnvAll.addS (EnvAll.addS env22_all (SameE.refl env22) FOk23) ((SameE.refl env22).add _ _) FOk24)
theorem env23_mix : env23.P.follows .mixedOrders = true := (mix_add (mix_add env22_mix _ _) _ _)
open Go Go.Proofs

abbrev kp22 : Nat → Keep := fun _ => { }
theorem ok22 : fnChk (env23).P 125 Tryz.f125 1 := by refine ⟨?_, ?_, ?_, ?_⟩ <;> kernel_rfl
theorem go22 (x0 : Sem Sh.expr) : run (env23) 0 kp22 (Func.results Tryz.f125).toList 400 (bodyOf Tryz.f125) (initSt (Func.ntmps Tryz.f125) [datum Sh.expr x0] []) = Tr.chk (mayCN 16 (etaE x0) 1 0) (Tr.ok (Leaf.ret (AV.bool (mayN 16 (etaE x0) 1 0).1) [])) := by kernel_rfl
def eMay (x0 : Sem Sh.expr) : Sem Sh.bool := (mayN 16 x0 1 0).1
def eMayC (x0 : Sem Sh.expr) : Bool := if mayCN 16 x0 1 0 = true then true else false
def F22 : FSem := plainC [Sh.expr] [Sh.bool] (fun x => eMayC x.1) fun x => (eMay x.1, ())
theorem FOk22 : FOk (env23).P (env23).gl 125 F22 := by
 refine FOk_plainC (ok22) fun x hc C hC => ?_
 unfold eMayC at hc
 refine reach_ok env23_all env23_mix (ok22) (fun id _ => hC id) (go22 x.1) ?_
 generalize hy : eMay x.1 = y
 unfold eMay at hy
 try simp only [ExprT.eta]
 repeat' (first | with_reducible refine obr hy hc (fun _ hy hc => ?_) (fun _ hy hc => ?_) | with_reducible refine obr1 hy (fun _ hy => ?_) (fun _ hy => ?_) | with_reducible refine ochk hc (fun hc => ?_) | with_reducible refine OptOk_chkT ?_)
 all_goals (subst hy; first | rfl)

abbrev kp7 : Nat → Keep := fun _ => { }
theorem ok7 : fnChk (env23).P 25 Tryz.f25 1 := by refine ⟨?_, ?_, ?_, ?_⟩ <;> kernel_rfl
theorem go7 (x0 : Sem Sh.expr) : run (env23) 0 kp7 (Func.results Tryz.f25).toList 400 (bodyOf Tryz.f25) (initSt (Func.ntmps Tryz.f25) [datum Sh.expr x0] []) = Tr.chk (fewCN 16 (etaE x0) 14 80) (Tr.ok (Leaf.ret (AV.agg [AV.str (ExprT.op (fewN 16 (etaE x0) 14 80).1), ai (ExprT.v (fewN 16 (etaE x0) 14 80).1).1, ai (ExprT.v (fewN 16 (etaE x0) 14 80).1).2.1, AV.str (ExprT.v (fewN 16 (etaE x0) 14 80).1).2.2, AV.str (ExprT.s (fewN 16 (etaE x0) 14 80).1), AV.sl Sh.expr (ExprT.l (fewN 16 (etaE x0) 14 80).1)]) [])) := by kernel_rfl
def eFew (x0 : Sem Sh.expr) : Sem Sh.expr := ExprT.mk (ExprT.op (fewN 16 x0 14 80).1) (ExprT.v (fewN 16 x0 14 80).1) (ExprT.s (fewN 16 x0 14 80).1) (ExprT.l (fewN 16 x0 14 80).1)
def eFewC (x0 : Sem Sh.expr) : Bool := if fewCN 16 x0 14 80 = true then true else false
def F7 : FSem := plainC [Sh.expr] [Sh.expr] (fun x => eFewC x.1) fun x => (eFew x.1, ())
theorem FOk7 : FOk (env23).P (env23).gl 25 F7 := by
 refine FOk_plainC (ok7) fun x hc C hC => ?_
 unfold eFewC at hc
 refine reach_ok env23_all env23_mix (ok7) (fun id _ => hC id) (go7 x.1) ?_
 generalize hy : eFew x.1 = y
 unfold eFew at hy
 try simp only [ExprT.eta]
 repeat' (first | with_reducible refine obr hy hc (fun _ hy hc => ?_) (fun _ hy hc => ?_) | with_reducible refine obr1 hy (fun _ hy => ?_) (fun _ hy => ?_) | with_reducible refine ochk hc (fun hc => ?_) | with_reducible refine OptOk_chkT ?_)
 all_goals (subst hy; first | rfl)

noncomputable def env24 : Env := ((env23.add 125 F22).add 25 F7)
theorem env24_all : EnvAll env24 := (EnvAll.addS (EnvAll.addS env23_all (SameE.refl env23) FOk22) ((SameE.refl env23).add _ _) FOk7)
theorem env24_mix : env24.P.follows .mixedOrders = true := (mix_add (mix_add env23_mix _ _) _ _)
open Go Go.Proofs

abbrev kp30 : Nat → Keep := fun _ => { }
theorem ok30 : fnChk (env24).P 76 Tryz.f76 2 := by refine ⟨?_, ?_, ?_, ?_⟩ <;> kernel_rfl
theorem go30 (x0 : Sem Sh.expr) (x1 : Sem shCol.sl) : run (env24) 0 kp30 (Func.results Tryz.f76).toList 400 (bodyOf Tryz.f76) (initSt (Func.ntmps Tryz.f76) [datum Sh.expr x0, datum shCol.sl x1] []) = Tr.chk (eMayC (etaE x0)) (Tr.br (!eMay (etaE x0)) (Tr.ok (Leaf.ret (AV.tup [ai 0, ai 1]) [])) (Tr.chk (typedCN 16 (etaE x0) x1) (Tr.ok (Leaf.ret (AV.tup [ai (typedN 16 (etaE x0) x1).1, ai (typedN 16 (etaE x0) x1).2]) [])))) := by kernel_rfl
def eType (x0 : Sem Sh.expr) (x1 : Sem shCol.sl) : Sem shInt × Sem shInt := if (!eMay x0) = true then (0, 1) else ((typedN 16 x0 x1).1, (typedN 16 x0 x1).2)
def eTypeC (x0 : Sem Sh.expr) (x1 : Sem shCol.sl) : Bool := if eMayC x0 = true then if (!eMay x0) = true then true else if typedCN 16 x0 x1 = true then true else false else false
def F30 : FSem := plainC [Sh.expr, shCol.sl] [shInt, shInt] (fun x => eTypeC x.1 x.2.1) fun x => ((eType x.1 x.2.1).1, (eType x.1 x.2.1).2, ())
theorem FOk30 : FOk (env24).P (env24).gl 76 F30 := by
 refine FOk_plainC (ok30) fun x hc C hC => ?_
 unfold eTypeC at hc
 refine reach_ok env24_all env24_mix (ok30) (fun id _ => hC id) (go30 x.1 x.2.1) ?_
 generalize hy : eType x.1 x.2.1 = y
 unfold eType at hy
 try simp only [ExprT.eta]
 repeat' (first | with_reducible refine obr hy hc (fun _ hy hc => ?_) (fun _ hy hc => ?_) | with_reducible refine obr1 hy (fun _ hy => ?_) (fun _ hy => ?_) | with_reducible refine ochk hc (fun hc => ?_) | with_reducible refine OptOk_chkT ?_)
 all_goals (subst hy; first | rfl)

abbrev kp11 : Nat → Keep := fun _ => { }
theorem ok11 : fnChk (env24).P 172 Tryz.f172 3 := by refine ⟨?_, ?_, ?_, ?_⟩ <;> kernel_rfl
theorem go11 (x0 : Sem Sh.expr) (x1 : Sem shCol.sl) (x2 : Sem shVal.sl) : run (env24) 0 kp11 (Func.results Tryz.f172).toList 400 (bodyOf Tryz.f172) (initSt (Func.ntmps Tryz.f172) [datum Sh.expr x0, datum shCol.sl x1, datum shVal.sl x2] []) = Tr.chk (eMayC (etaE x0)) (Tr.br (!eMay (etaE x0)) (Tr.ok (Leaf.ret (AV.agg [ai 0, ai 0, AV.str []]) [])) (Tr.chk ([97, 110, 100] == [97, 110, 100] && ([111, 114] == [111, 114] && ([110, 111, 116] == [110, 111, 116] && ([61] == [61] && ([60] == [60] && ([43] == [43] && ([45] == [45] && [110, 117, 108, 108] == [110, 117, 108, 108]))))))) (Tr.chk (valCN 16 x1 x2 (etaE x0)) (Tr.ok (Leaf.ret (AV.agg [ai (valN 16 x1 x2 (etaE x0)).1, ai (valN 16 x1 x2 (etaE x0)).2.1, AV.str (valN 16 x1 x2 (etaE x0)).2.2]) []))))) := by kernel_rfl
def eEval (x0 : Sem Sh.expr) (x1 : Sem shCol.sl) (x2 : Sem shVal.sl) : Sem shVal := if (!eMay x0) = true then (0, 0, []) else valN 16 x1 x2 x0
def eEvalC (x0 : Sem Sh.expr) (x1 : Sem shCol.sl) (x2 : Sem shVal.sl) : Bool := if eMayC x0 = true then if (!eMay x0) = true then true else if ([97, 110, 100] == [97, 110, 100] && ([111, 114] == [111, 114] && ([110, 111, 116] == [110, 111, 116] && ([61] == [61] && ([60] == [60] && ([43] == [43] && ([45] == [45] && [110, 117, 108, 108] == [110, 117, 108, 108]))))))) = true then if valCN 16 x1 x2 x0 = true then true else false else false else false
def F11 : FSem := plainC [Sh.expr, shCol.sl, shVal.sl] [shVal] (fun x => eEvalC x.1 x.2.1 x.2.2.1) fun x => (eEval x.1 x.2.1 x.2.2.1, ())
theorem FOk11 : FOk (env24).P (env24).gl 172 F11 := by
 refine FOk_plainC (ok11) fun x hc C hC => ?_
 unfold eEvalC at hc
 refine reach_ok env24_all env24_mix (ok11) (fun id _ => hC id) (go11 x.1 x.2.1 x.2.2.1) ?_
 generalize hy : eEval x.1 x.2.1 x.2.2.1 = y
 unfold eEval at hy
 try simp only [ExprT.eta]
 repeat' (first | with_reducible refine obr hy hc (fun _ hy hc => ?_) (fun _ hy hc => ?_) | with_reducible refine obr1 hy (fun _ hy => ?_) (fun _ hy => ?_) | with_reducible refine ochk hc (fun hc => ?_) | with_reducible refine OptOk_chkT ?_)
 all_goals (subst hy; first | rfl)

noncomputable def env25 : Env := ((env24.add 76 F30).add 172 F11)
theorem env25_all : EnvAll env25 := (EnvAll.addS (EnvAll.addS env24_all (SameE.refl env24) FOk30) ((SameE.refl env24).add _ _) FOk11)
theorem env25_mix : env25.P.follows .mixedOrders = true := (mix_add (mix_add env24_mix _ _) _ _)
open Go Go.Proofs

theorem wrap_small (d : Int) (h1 : -1000 ≤ d) (h2 : d ≤ 1000) : IntKind.i64.wrap d = d := by
 rw [IntKind.wrap_i64]; omega

theorem fewL_true {g : Sem Sh.expr → Sem shInt → Sem shInt → Sem Sh.expr × Sem shInt} {c : Sem Sh.expr → Sem shInt → Sem shInt → Bool} {i1 : Int} (h : ∀ x n, 0 < i1 → c x (IntKind.i64.wrap (i1 - 1)) n = true) {a0 : Str} {a1 a2 : Int} {a3 a4 b0 : Str} {b1 b2 : Int} {b3 b4 d0 : Str} {d1 d2 : Int} {d3 d4 : Str} :
  ∀ (l : List (Sem Sh.expr)) (i n : Int) (acc : List (Sem Sh.expr)), (acc.length : Int) ≤ i → fewSC_10 g c i1 a0 a1 a2 a3 a4 b0 b1 b2 b3 b4 d0 d1 d2 d3 d4 l i n acc = true
 | [], _, _, _, _ => rfl
 | x :: r, i, n, acc, hi => by
  rw [fewSC_10]
  split
  ·rename_i hk
   have h3 : i < 3 ∧ i1 > 0 := by
    cases h1 : decide (i < 3) <;> cases h2 : decide (i1 > 0) <;> simp_all
   rw [if_pos (h x n h3.2), if_pos (by simp; omega)]
   exact fewL_true h r (i + 1) _ _ (by simp; omega)
  ·rfl

theorem fewSC_true {g : Sem Sh.expr → Sem shInt → Sem shInt → Sem Sh.expr × Sem shInt} {c : Sem Sh.expr → Sem shInt → Sem shInt → Bool} {i1 : Int} (h : ∀ x n, 0 < i1 → c x (IntKind.i64.wrap (i1 - 1)) n = true) (e : ExprT) (n : Int) : fewSC g c e i1 n = true := by
 have hl := fun a0 a1 a2 a3 a4 b0 b1 b2 b3 b4 d0 d1 d2 d3 d4 l n => fewL_true (g := g) h (a0 := a0) (a1 := a1) (a2 := a2) (a3 := a3) (a4 := a4) (b0 := b0) (b1 := b1) (b2 := b2) (b3 := b3) (b4 := b4) (d0 := d0) (d1 := d1) (d2 := d2) (d3 := d3) (d4 := d4) l 0 n [] (by simp)
 unfold fewSC
 repeat' split
 all_goals first
  | exact hl _ _ _ _ _ _ _ _ _ _ _ _ _ _ _ _ _
  | (exfalso; simp only [decide_eq_true_eq, Bool.and_eq_true, not_and] at *; omega)

theorem fewCN_true : ∀ (N : Nat) (e : ExprT) (d n : Int), 0 ≤ d → d < N → N ≤ 100 → fewCN N e d n = true
 | 0, _, _, _, h1, h2, _ => by omega
 | N + 1, e, d, n, h1, h2, h3 => by
  rw [fewCN]
  refine fewSC_true (fun x m hd => ?_) e n
  rw [wrap_small _ (by omega) (by omega)]
  exact fewCN_true N x (d - 1) m (by omega) (by omega) (by omega)

theorem mayLC_true {g : ExprT → Int → Int → Bool × Int} {c : ExprT → Int → Int → Bool} {d : Int} (h : ∀ x n, c x (IntKind.i64.wrap (d + 1)) n = true) : ∀ (l : List ExprT) (n : Int), mayLC g c d l n = true
 | [], _ => rfl
 | x :: r, n => by
  rw [mayLC, if_pos (h x n)]
  split
  ·rfl
  ·exact mayLC_true h r _

theorem mayCN_true : ∀ (N : Nat) (e : ExprT) (d n : Int), 0 ≤ d → d ≤ 13 → 14 ≤ d + N → mayCN N e d n = true
 | 0, _, _, _, _, _, _ => by omega
 | N + 1, e, d, n, h1, h2, h3 => by
  rw [mayCN]
  unfold maySC
  by_cases hd : d > 12
  ·simp [hd]
  ·have hl : mayLC (mayN N) (mayCN N) d e.l (IntKind.i64.wrap (n + 1)) = true := mayLC_true (fun x m => by
    rw [wrap_small _ (by omega) (by omega)]
    exact mayCN_true N x (d + 1) m (by omega) (by omega) (by omega)) _ _
   repeat' split
   all_goals first | rfl | exact hl

abbrev nilE : ExprT := .mk [] (0, 0, []) [] []

theorem sameCN_nil (N : Nat) (e : ExprT) : sameCN (N + 1) e nilE = true := by
 rw [sameCN]
 unfold sameSC
 have hl : eqLsC (sameN N) (sameCN N) e.l [] = true := by
  unfold eqLsC
  split
  ·rfl
  ·cases e.l <;> rfl
 show (bif e.op == [] then bif eqV e.v (0, 0, []) then bif e.s == [] then eqLsC (sameN N) (sameCN N) e.l [] else true else true else true) = true
 rw [hl]
 cases e.op == [] <;> cases eqV e.v (0, 0, []) <;> cases e.s == [] <;> rfl

theorem ixFrom_range {α : Type} (p : α → Bool) : ∀ (l : List α) (i : Nat), ixFrom p l i = -1 ∨ ((i : Int) ≤ ixFrom p l i ∧ ixFrom p l i < i + l.length)
 | [], _ => .inl rfl
 | x :: r, i => by
  unfold ixFrom
  split
  ·exact .inr ⟨by omega, by simp; omega⟩
  ·rcases ixFrom_range p r (i + 1) with h | ⟨h1, h2⟩
   ·exact .inl h
   ·exact .inr ⟨by omega, by simp; omega⟩

theorem cPlace_range (l : List (Sem shCol)) (s : Str) : cPlace l s = -1 ∨ (0 ≤ cPlace l s ∧ cPlace l s < l.length) := by
 have := ixFrom_range (fun c : Sem shCol => c.1 == s) l 0
 unfold cPlace
 simpa using this

theorem parts_cases (op : Str) : (partsN op = 0 ∧ (op = [108, 105, 116] ∨ op = [99, 111, 108])) ∨ (partsN op = 1 ∧ (op = [110, 111, 116] ∨ op = [110, 117, 108, 108])) ∨
  (partsN op = 2 ∧ (op = [97, 110, 100] ∨ op = [111, 114] ∨ op = [61] ∨ op = [60] ∨ op = [43] ∨ op = [45])) ∨ partsN op = -1 := by
 unfold partsN partL
 simp only [swV]
 repeat' split
 all_goals simp_all

theorem mayS_true {g : ExprT → Int → Int → Bool × Int} {e : ExprT} {d n : Int} (h : (mayS g e d n).1 = true) : (e.l.length : Int) = partsN e.op ∧
  ((e.op = [108, 105, 116] ∨ e.op = [99, 111, 108]) ∨ (mayL g d e.l (IntKind.i64.wrap (n + 1))).1 = true) := by
 unfold mayS at h
 split at h
 ·cases h
 ·rename_i h1
  have hl : (e.l.length : Int) = partsN e.op := by
   cases h2 : decide (d > 12) <;> cases h3 : decide (IntKind.i64.wrap (n + 1) > 60) <;> simp_all
  refine ⟨hl, ?_⟩
  split at h
  ·rename_i h2; exact .inl (.inl (by simpa using h2))
  ·split at h
   ·rename_i h2; exact .inl (.inr (by simpa using h2))
   ·split at h
    ·cases h
    ·exact .inr h

theorem mayL_all {g : ExprT → Int → Int → Bool × Int} {d : Int} : ∀ (l : List ExprT) (n : Int), (mayL g d l n).1 = true → ∀ x ∈ l, ∃ m, (g x (IntKind.i64.wrap (d + 1)) m).1 = true
 | [], _, _, _, hx => by simp at hx
 | y :: r, n, h, x, hx => by
  rw [mayL] at h
  split at h
  ·cases h
  ·rename_i hy
   rcases List.mem_cons.1 hx with rfl | hx
   ·exact ⟨n, by simpa using hy⟩
   ·exact mayL_all r _ h x hx

theorem typedL_true {g : ExprT → List (Sem shCol) → Int × Int} {c : ExprT → List (Sem shCol) → Bool} {cols : List (Sem shCol)} {op : Str} {a1 a2 : Int} {a3 a4 : Str} {w : List ExprT} :
    ∀ (l : List ExprT) (i : Int) (acc : List Int), (∀ x ∈ l, c x cols = true) → ((acc.length : Int) + l.length) = partsN op → typedSC_3 g c cols op a1 a2 a3 a4 w l i acc = true
  | [], i, acc, _, hp => by
    have hp : (acc.length : Int) = partsN op := by simpa using hp
    have hcp : decide (cPlace cols a4 < 0) = true ∨ inB (cPlace cols a4) cols.length = true := by
      rcases cPlace_range cols a4 with h | ⟨h1, h2⟩
      · exact .inl (by rw [h]; rfl)
      · exact .inr (by simp [inB, h1, h2])
    have h2 : op = [61] ∨ op = [60] → acc.length = 2 := by
      rintro (rfl | rfl)
      · have : partsN [61] = 2 := by decide
        omega
      · have : partsN [60] = 2 := by decide
        omega
    unfold typedSC_3
    repeat' split
    all_goals first
      | rfl
      | (exfalso; rcases hcp with h | h <;> simp_all; done)
      | (exfalso
         rename_i h7 h8
         have h9 := h2 (by simp_all)
         rw [h9] at h8
         exact h8 (by cases hA : (acc.getD (Int.toNat 0) (dflt shInt) == acc.getD (Int.toNat 1) (dflt shInt)) <;> cases hB : (acc.getD (Int.toNat 0) (dflt shInt) == 0) <;> rfl))
  | x :: r, i, acc, hc, hp => by
    have hle : partsN op ≤ 2 := by rcases parts_cases op with h | h | h | h <;> omega
    rw [typedSC_3, if_pos (hc x (by simp))]
    split
    · rfl
    · rw [if_pos (by simp at hp ⊢; omega)]
      exact typedL_true r (i + 1) _ (fun y hy => hc y (by simp [hy])) (by simp at hp ⊢; omega)

theorem typedCN_true : ∀ (N : Nat) (e : ExprT) (d n : Int) (cols : List (Sem shCol)), (mayN N e d n).1 = true → typedCN N e cols = true
 | 0, _, _, _, _, h => by cases h
 | N + 1, e, d, n, cols, h => by
  rw [mayN] at h
  obtain ⟨hl, h2⟩ := mayS_true h
  rw [typedCN]
  unfold typedSC
  refine typedL_true e.l 0 [] (fun x hx => ?_) (by simpa using hl)
  rcases h2 with h2 | h2
  ·exfalso
   have : partsN e.op = 0 := by
    rcases h2 with h2 | h2 <;> rw [h2] <;> decide
   rw [this] at hl
   have : e.l = [] := List.eq_nil_of_length_eq_zero (by omega)
   rw [this] at hx; simp at hx
  ·obtain ⟨m, hm⟩ := mayL_all e.l _ h2 x hx
   exact typedCN_true N x _ _ cols hm

theorem valCN_true : ∀ (N : Nat) (e : ExprT) (d n : Int) (cols : List (Sem shCol)) (row : List (Sem shVal)), (mayN N e d n).1 = true → valCN N cols row e = true
 | 0, _, _, _, _, _, h => by cases h
 | N + 1, .mk op v s l, d, n, cols, row, h => by
  rw [mayN] at h
  obtain ⟨hl, h2⟩ := mayS_true h
  have hl : (l.length : Int) = partsN op := hl
  have h2 : (op = [108, 105, 116] ∨ op = [99, 111, 108]) ∨ (mayL (mayN N) d l (IntKind.i64.wrap (n + 1))).1 = true := h2
  have hx : ∀ x ∈ l, (¬ (op = [108, 105, 116] ∨ op = [99, 111, 108])) → valCN N cols row x = true := by
   intro x hx hno
   rcases h2 with h2 | h2
   ·exact (hno h2).elim
   ·obtain ⟨m, hm⟩ := mayL_all l _ h2 x hx
    exact valCN_true N x _ _ cols row hm
  have hcol : (if (bif decide (cPlace cols s < 0) then true else decide (cPlace cols s ≥ (↑row.length : Int))) = true then true else inB (cPlace cols s) row.length) = true := by
   split
   ·rfl
   ·rename_i hh
    have h1 : 0 ≤ cPlace cols s ∧ cPlace cols s < row.length := by
     cases hq : decide (cPlace cols s < 0)
     ·rw [hq] at hh
      simp at hq hh
      exact ⟨hq, hh⟩
     ·rw [hq] at hh; simp at hh
    simp [inB, h1.1, h1.2]
  rw [valCN]
  rcases parts_cases op with ⟨hp, ho⟩ | ⟨hp, ho⟩ | ⟨hp, ho⟩ | hp
  ·have : l = [] := List.eq_nil_of_length_eq_zero (by omega)
   subst this
   rcases ho with rfl | rfl
   ·rfl
   ·rw [valSC]; exact hcol
  ·match l, hl, hx with
   | [a], _, hx =>
    rcases ho with rfl | rfl
    ·rw [valSC]; exact (if_pos (hx a (by simp) (by decide))).trans rfl
    ·rw [valSC]; exact (if_pos (hx a (by simp) (by decide))).trans rfl
   | [], hl, _ => simp at hl; omega
   | _ :: _ :: _, hl, _ => simp at hl; omega
  ·match l, hl, hx with
   | [a, b], _, hx =>
    rcases ho with rfl | rfl | rfl | rfl | rfl | rfl <;>
     (rw [valSC]; exact (if_pos (hx a (by simp) (by decide))).trans ((if_pos (hx b (by simp) (by decide))).trans rfl))
   | [], hl, _ => simp at hl; omega
   | [_], hl, _ => simp at hl; omega
   | _ :: _ :: _ :: _, hl, _ => simp at hl; omega
  ·omega

theorem eMayC_true (e : ExprT) : eMayC e = true := by
 unfold eMayC
 rw [if_pos (mayCN_true 16 e 1 0 (by omega) (by omega) (by omega))]
theorem eFewC_true (e : ExprT) : eFewC e = true := by
 unfold eFewC
 rw [if_pos (fewCN_true 16 e 14 80 (by omega) (by omega) (by omega))]
theorem eTypeC_true (e : ExprT) (cols : List (Sem shCol)) : eTypeC e cols = true := by
 unfold eTypeC
 rw [if_pos (eMayC_true e)]
 split
 ·rfl
 ·rename_i h
  rw [if_pos (typedCN_true 16 e 1 0 cols (by simpa [eMay] using h))]
theorem eEvalC_true (e : ExprT) (cols : List (Sem shCol)) (row : List (Sem shVal)) : eEvalC e cols row = true := by
 unfold eEvalC
 rw [if_pos (eMayC_true e)]
 split
 ·rfl
 ·rename_i h
  rw [if_pos (by decide), if_pos (valCN_true 16 e 1 0 cols row (by simpa [eMay] using h))]

def F22t : FSem := plainT [Sh.expr] [Sh.bool] fun x => (eMay x.1, ())
theorem FOk22t : FOk env25.P env25.gl 125 F22t := FOk_tot FOk22 fun x => eMayC_true x.1
def F7t : FSem := plainT [Sh.expr] [Sh.expr] fun x => (eFew x.1, ())
theorem FOk7t : FOk env25.P env25.gl 25 F7t := FOk_tot FOk7 fun x => eFewC_true x.1
def F30t : FSem := plainT [Sh.expr, shCol.sl] [shInt, shInt] fun x => ((eType x.1 x.2.1).1, (eType x.1 x.2.1).2, ())
theorem FOk30t : FOk env25.P env25.gl 76 F30t := FOk_tot FOk30 fun x => eTypeC_true x.1 x.2.1
def F11t : FSem := plainT [Sh.expr, shCol.sl, shVal.sl] [shVal] fun x => (eEval x.1 x.2.1 x.2.2.1, ())
theorem FOk11t : FOk env25.P env25.gl 172 F11t := FOk_tot FOk11 fun x => eEvalC_true x.1 x.2.1 x.2.2.1

noncomputable def env26 : Env := ((((env25.add 125 F22t).add 25 F7t).add 76 F30t).add 172 F11t)
theorem env26_all : EnvAll env26 := (EnvAll.addS (EnvAll.addS (EnvAll.addS (EnvAll.addS env25_all (SameE.refl env25) FOk22t) ((SameE.refl env25).add _ _) FOk7t) (((SameE.refl env25).add _ _).add _ _) FOk30t) ((((SameE.refl env25).add _ _).add _ _).add _ _) FOk11t)
theorem env26_mix : env26.P.follows .mixedOrders = true := (mix_add (mix_add (mix_add (mix_add env25_mix _ _) _ _) _ _) _ _)
open Go Go.Proofs

abbrev kp19 : Nat → Keep := fun _ => { }
theorem ok19 : fnChk (env26).P 48 Tryz.f48 2 := by refine ⟨?_, ?_, ?_, ?_⟩ <;> kernel_rfl
theorem go19 (x0 : Sem Sh.expr) (x1 : Sem shCol.sl) : run (env26) 0 kp19 (Func.results Tryz.f48).toList 400 (bodyOf Tryz.f48) (initSt (Func.ntmps Tryz.f48) [datum Sh.expr x0, datum shCol.sl x1] []) = Tr.chk (sameCN 16 (etaE x0) (ExprT.mk [] (0, 0, []) [] [])) (Tr.br (sameN 16 (etaE x0) (ExprT.mk [] (0, 0, []) [] [])) (Tr.ok (Leaf.ret (ai 0) [])) (Tr.br (bif (eType (etaE x0) x1).2 == 0 then bif (eType (etaE x0) x1).1 != 3 then (eType (etaE x0) x1).1 != 0 else false else false) (Tr.ok (Leaf.ret (ai 5) [])) (Tr.ok (Leaf.ret (ai (eType (etaE x0) x1).2) [])))) := by kernel_rfl
def sCheck (x0 : Sem Sh.expr) (x1 : Sem shCol.sl) : Sem shInt := (if sameN 16 x0 (ExprT.mk [] (0, 0, []) [] []) = true then 0 else if (bif (eType x0 x1).2 == 0 then bif (eType x0 x1).1 != 3 then (eType x0 x1).1 != 0 else false else false) = true then 5 else (eType x0 x1).2)
def sCheckC (x0 : Sem Sh.expr) (_ : Sem shCol.sl) : Bool := (if sameCN 16 x0 (ExprT.mk [] (0, 0, []) [] []) = true then true else false)
def F19 : FSem := plainC [Sh.expr, shCol.sl] [shInt] (fun x => sCheckC x.1 x.2.1) fun x => (sCheck x.1 x.2.1, ())
theorem FOk19 : FOk (env26).P (env26).gl 48 F19 := by
 refine FOk_plainC (ok19) fun x hc C hC => ?_
 unfold sCheckC at hc
 refine reach_ok env26_all env26_mix (ok19) (fun id _ => hC id) (go19 x.1 x.2.1) ?_
 generalize hy : sCheck x.1 x.2.1 = y
 unfold sCheck at hy
 try simp only [ExprT.eta]
 repeat' (first | with_reducible refine obr hy hc (fun _ hy hc => ?_) (fun _ hy hc => ?_) | with_reducible refine obr1 hy (fun _ hy => ?_) (fun _ hy => ?_) | with_reducible refine ochk hc (fun hc => ?_) | with_reducible refine OptOk_chkT ?_)
 all_goals (subst hy; first | rfl)

abbrev kp5 : Nat → Keep := fun j => if j = 3 then { slots := [1, 2, 3, 4], prom := [(3, some 3, shInt)] } else if j = 7 then { slots := [1, 2, 3, 5], prom := [(3, some 4, shFor)] } else { }
abbrev s5_3 (i4 : Int) (ja0 : TS) (ja1 : LC) (ja2 : Sem shInt) (ja3 : LI) (ja4 : LF) (ja5 : Str) (ja6 : Int) (ja7 : Int) (ja8 : Str) (ja9 : Str) (ja10 : LX) (jb0 : List UInt8) (jb2 : Int) (jb5 : List UInt8) (jb6 : Int) (jb7 : Int) (jb8 : List UInt8) (jb9 : List UInt8) (jc0 : TS) (jc1 : LC) (jc2 : Sem shInt) (jc5 : Str) (jc6 : Int) (jc7 : Int) (jc8 : Str) (jc9 : Str) (jc10 : LX) (lh_3 : LI) : St := { tmps := [ny, AV.ptr 0 0, AV.ptr 1 0, AV.ptr 2 0, ai i4, ny, ny, ny, ny, ny, ny, ny, ny, ny, ny, ny, ny, ny, ny, ny, ny, ny, ny, ny, ny, ny, ny, ny, ny, ny, ny, ny, ny, ny, ny, ny, ny, ny, ny, ny, ny, ny, ny, ny, ny, ny, ny, ny, ny, ny, ny, ny, ny, ny, ny, ny, ny, ny, ny, ny, ny, ny, ny, ny, ny, ny, ny, ny, ny, ny], heap := [AO.box [AV.str ja0, AV.sl shCol ja1, ai ja2, AV.sl shInt ja3, AV.sl shFor ja4, AV.str ja5, ai ja6, ai ja7, AV.str ja8, AV.str ja9, AV.sl Sh.expr ja10], AO.box [AV.str jb0, AV.nils, ai jb2, AV.nils, AV.nils, AV.str jb5, ai jb6, ai jb7, AV.str jb8, AV.str jb9, AV.nils], AO.box
 [AV.str jc0, AV.sl shCol jc1, ai jc2, AV.vec 3, AV.nils, AV.str jc5, ai jc6, ai jc7, AV.str jc8, AV.str jc9, AV.sl Sh.expr jc10], AO.vec shInt lh_3] }
theorem ok5 : fnChk (env26).P 56 Tryz.f56 1 := by refine ⟨?_, ?_, ?_, ?_⟩ <;> kernel_rfl
theorem go5 (x0 : Sem shTable) : run (env26) 0 kp5 (Func.results Tryz.f56).toList 400 (bodyOf Tryz.f56) (initSt (Func.ntmps Tryz.f56) [datum shTable x0] []) = Tr.ok (Leaf.head 3 (headK Tryz.f56 3) (s5_3 0 x0.1 x0.2.1 x0.2.2.1 x0.2.2.2.1 x0.2.2.2.2.1 (ExprT.op x0.2.2.2.2.2) (ExprT.v x0.2.2.2.2.2).1 (ExprT.v x0.2.2.2.2.2).2.1 (ExprT.v x0.2.2.2.2.2).2.2 (ExprT.s x0.2.2.2.2.2) (ExprT.l x0.2.2.2.2.2) [] 0 [] 0 0 [] [] (sFew x0.1) (lCols x0.2.1) x0.2.2.1 (ExprT.op (eFew (etaE x0.2.2.2.2.2))) (ExprT.v (eFew (etaE x0.2.2.2.2.2))).1 (ExprT.v (eFew (etaE x0.2.2.2.2.2))).2.1 (ExprT.v (eFew (etaE x0.2.2.2.2.2))).2.2 (ExprT.s (eFew (etaE x0.2.2.2.2.2))) (ExprT.l (eFew (etaE x0.2.2.2.2.2))) [])) := by kernel_rfl
abbrev s5_7 (i5 : Int) (ja0 : TS) (ja1 : LC) (ja2 : Sem shInt) (ja3 : LI) (ja4 : LF) (ja5 : Str) (ja6 : Int) (ja7 : Int) (ja8 : Str) (ja9 : Str) (ja10 : LX) (jb0 : List UInt8) (jb2 : Int) (jb5 : List UInt8) (jb6 : Int) (jb7 : Int) (jb8 : List UInt8) (jb9 : List UInt8) (jc0 : TS) (jc1 : LC) (jc2 : Sem shInt) (jc5 : Str) (jc6 : Int) (jc7 : Int) (jc8 : Str) (jc9 : Str) (jc10 : LX) (lh_3 : LI) (lh_4 : LF) : St := { tmps := [ny, AV.ptr 0 0, AV.ptr 1 0, AV.ptr 2 0, ny, ai i5, ny, ny, ny, ny, ny, ny, ny, ny, ny, ny, ny, ny, ny, ny, ny, ny, ny, ny, ny, ny, ny, ny, ny, ny, ny, ny, ny, ny, ny, ny, ny, ny, ny, ny, ny, ny, ny, ny, ny, ny, ny, ny, ny, ny, ny, ny, ny, ny, ny, ny, ny, ny, ny, ny, ny, ny, ny, ny, ny, ny, ny, ny, ny, ny], heap := [AO.box [AV.str ja0, AV.sl shCol ja1, ai ja2, AV.sl shInt ja3, AV.sl shFor ja4, AV.str ja5, ai ja6, ai ja7, AV.str ja8, AV.str ja9, AV.sl Sh.expr ja10], AO.box [AV.str jb0, AV.nils, ai jb2, AV.nils, AV.nils, AV.str jb5, ai jb6, ai jb7, AV.str jb8, AV.str jb9, AV.nils], AO.box
 [AV.str jc0, AV.sl shCol jc1, ai jc2, AV.vec 3, AV.vec 4, AV.str jc5, ai jc6, ai jc7, AV.str jc8, AV.str jc9, AV.sl Sh.expr jc10], AO.vec shInt lh_3, AO.vec shFor lh_4] }
theorem on5_3 (i4 : Int) (ja0 : TS) (ja1 : LC) (ja2 : Sem shInt) (ja3 : LI) (ja4 : LF) (ja5 : Str) (ja6 : Int) (ja7 : Int) (ja8 : Str) (ja9 : Str) (ja10 : LX) (jb0 : List UInt8) (jb2 : Int) (jb5 : List UInt8) (jb6 : Int) (jb7 : Int) (jb8 : List UInt8) (jb9 : List UInt8) (jc0 : TS) (jc1 : LC) (jc2 : Sem shInt) (jc5 : Str) (jc6 : Int) (jc7 : Int) (jc8 : Str) (jc9 : Str) (jc10 : LX) (lh_3 : LI) : run (env26) 0 kp5 (Func.results Tryz.f56).toList 400 (headK Tryz.f56 3) (s5_3 i4 ja0 ja1 ja2 ja3 ja4 ja5 ja6 ja7 ja8 ja9 ja10 jb0 jb2 jb5 jb6 jb7 jb8 jb9 jc0 jc1 jc2 jc5 jc6 jc7 jc8 jc9 jc10 lh_3) = Tr.br (bif decide (i4 < (↑ja3.length : Int)) then decide (i4 < 10) else false) (Tr.chk (inB i4 ja3.length) (Tr.chk (decide (lh_3.length + [ja3.getD i4.toNat (dflt shInt)].length ≤ 1073741824)) (Tr.ok (Leaf.head 3 (headK Tryz.f56 3) (s5_3 (IntKind.i64.wrap (i4 + 1)) ja0 ja1 ja2 ja3 ja4 ja5 ja6 ja7 ja8 ja9 ja10 jb0 jb2 jb5 jb6 jb7 jb8 jb9 jc0 jc1 jc2 jc5 jc6 jc7 jc8 jc9 jc10 (lh_3 ++ [ja3.getD i4.toNat (dflt shInt)])))))) (Tr.ok (Leaf.head 7 (headK Tryz.f56 7) (s5_7 0 ja0 ja1 ja2 ja3 ja4 ja5 ja6 ja7 ja8 ja9 ja10 jb0 jb2 jb5 jb6 jb7 jb8 jb9 jc0 jc1 jc2 jc5 jc6 jc7 jc8 jc9 jc10 lh_3 []))) := by kernel_rfl
theorem on5_7 (i5 : Int) (ja0 : TS) (ja1 : LC) (ja2 : Sem shInt) (ja3 : LI) (ja4 : LF) (ja5 : Str) (ja6 : Int) (ja7 : Int) (ja8 : Str) (ja9 : Str) (ja10 : LX) (jb0 : List UInt8) (jb2 : Int) (jb5 : List UInt8) (jb6 : Int) (jb7 : Int) (jb8 : List UInt8) (jb9 : List UInt8) (jc0 : TS) (jc1 : LC) (jc2 : Sem shInt) (jc5 : Str) (jc6 : Int) (jc7 : Int) (jc8 : Str) (jc9 : Str) (jc10 : LX) (lh_3 : LI) (lh_4 : LF) : run (env26) 0 kp5 (Func.results Tryz.f56).toList 400 (headK Tryz.f56 7) (s5_7 i5 ja0 ja1 ja2 ja3 ja4 ja5 ja6 ja7 ja8 ja9 ja10 jb0 jb2 jb5 jb6 jb7 jb8 jb9 jc0 jc1 jc2 jc5 jc6 jc7 jc8 jc9 jc10 lh_3 lh_4) = Tr.br (bif decide (i5 < (↑ja4.length : Int)) then decide (i5 < 10) else false) (Tr.chk (inB i5 ja4.length) (Tr.chk (inB i5 ja4.length) (Tr.chk (decide (lh_4.length + [((ja4.getD i5.toNat (dflt shFor)).1, sFew (ja4.getD i5.toNat (dflt shFor)).2)].length ≤ 1073741824)) (Tr.ok (Leaf.head 7 (headK Tryz.f56 7) (s5_7 (IntKind.i64.wrap (i5 + 1)) ja0 ja1 ja2 ja3 ja4 ja5 ja6 ja7 ja8 ja9 ja10 jb0 jb2 jb5 jb6 jb7 jb8 jb9 jc0 jc1 jc2 jc5 jc6 jc7 jc8 jc9 jc10 lh_3 (lh_4 ++ [((ja4.getD i5.toNat (dflt shFor)).1, sFew (ja4.getD i5.toNat (dflt shFor)).2)]))))))) (Tr.ok (Leaf.ret (AV.agg [AV.str jc0, AV.sl shCol jc1, ai jc2, AV.vec 0, AV.vec 1, AV.str jc5, ai jc6, ai jc7, AV.str jc8, AV.str jc9, AV.sl Sh.expr jc10])
 [AO.vec shInt lh_3, AO.vec shFor lh_4])) := by kernel_rfl
def tFew_7 (ja0 : TS) (ja1 : LC) (ja2 : Sem shInt) (ja3 : LI) (ja5 : Str) (ja6 : Int) (ja7 : Int) (ja8 : Str) (ja9 : Str) (ja10 : LX) (jb0 : List UInt8) (jb2 : Int) (jb5 : List UInt8) (jb6 : Int) (jb7 : Int) (jb8 : List UInt8) (jb9 : List UInt8) (jc0 : TS) (jc1 : LC) (jc2 : Sem shInt) (jc5 : Str) (jc6 : Int) (jc7 : Int) (jc8 : Str) (jc9 : Str) (jc10 : LX) (lh_3 : LI) : List (Sem shFor) → Int → List (Sem shFor) → Sem shTable
 | [], _, lh_4 => ((jc0, jc1, jc2, lh_3, lh_4, ExprT.mk jc5 (jc6, jc7, jc8) jc9 jc10))
 | x :: r, i5, lh_4 => (if decide (i5 < 10) = true then
 tFew_7 ja0 ja1 ja2 ja3 ja5 ja6 ja7 ja8 ja9 ja10 jb0 jb2 jb5 jb6 jb7 jb8 jb9 jc0 jc1 jc2 jc5
  jc6 jc7 jc8 jc9 jc10 lh_3 r (i5 + 1) (lh_4 ++ [(x.1, sFew x.2)])
else (jc0, jc1, jc2, lh_3, lh_4, ExprT.mk jc5 (jc6, jc7, jc8) jc9 jc10))
def tFewC_7 (ja0 : TS) (ja1 : LC) (ja2 : Sem shInt) (ja3 : LI) (ja5 : Str) (ja6 : Int) (ja7 : Int) (ja8 : Str) (ja9 : Str) (ja10 : LX) (jb0 : List UInt8) (jb2 : Int) (jb5 : List UInt8) (jb6 : Int) (jb7 : Int) (jb8 : List UInt8) (jb9 : List UInt8) (jc0 : TS) (jc1 : LC) (jc2 : Sem shInt) (jc5 : Str) (jc6 : Int) (jc7 : Int) (jc8 : Str) (jc9 : Str) (jc10 : LX) (lh_3 : LI) : List (Sem shFor) → Int → List (Sem shFor) → Bool
 | [], _, _ => (true)
 | x :: r, i5, lh_4 => (if decide (i5 < 10) = true then
 if decide (lh_4.length + [(x.1, sFew x.2)].length ≤ 1073741824) = true then
  tFewC_7 ja0 ja1 ja2 ja3 ja5 ja6 ja7 ja8 ja9 ja10 jb0 jb2 jb5 jb6 jb7 jb8 jb9 jc0 jc1 jc2 jc5
   jc6 jc7 jc8 jc9 jc10 lh_3 r (i5 + 1) (lh_4 ++ [(x.1, sFew x.2)])
 else false
else true)
theorem at5_7 {C : Ctx} (hC : ∀ id, C.ρ0 id = none) (ja0 : TS) (ja1 : LC) (ja2 : Sem shInt) (ja3 : LI) (ja5 : Str) (ja6 : Int) (ja7 : Int) (ja8 : Str) (ja9 : Str) (ja10 : LX) (jb0 : List UInt8) (jb2 : Int) (jb5 : List UInt8) (jb6 : Int) (jb7 : Int) (jb8 : List UInt8) (jb9 : List UInt8) (jc0 : TS) (jc1 : LC) (jc2 : Sem shInt) (jc5 : Str) (jc6 : Int) (jc7 : Int) (jc8 : Str) (jc9 : Str) (jc10 : LX) (lh_3 : LI) (ja4 : LF) (hl : ja4.length ≤ maxStr) : ∀ (m i : Nat) (lh_4 : LF), ja4.length - i = m → i ≤ ja4.length → tFewC_7 ja0 ja1 ja2 ja3 ja5 ja6 ja7 ja8 ja9 ja10 jb0 jb2 jb5 jb6 jb7 jb8 jb9 jc0 jc1 jc2 jc5 jc6 jc7 jc8 jc9 jc10 lh_3 (ja4.drop i) i lh_4 = true →
  Reach (env26) C 56 (headK Tryz.f56 7) (s5_7 (i : Int) ja0 ja1 ja2 ja3 ja4 ja5 ja6 ja7 ja8 ja9 ja10 jb0 jb2 jb5 jb6 jb7 jb8 jb9 jc0 jc1 jc2 jc5 jc6 jc7 jc8 jc9 jc10 lh_3 lh_4) (fun r h => resOf h [shTable] r = some (tFew_7 ja0 ja1 ja2 ja3 ja5 ja6 ja7 ja8 ja9 ja10 jb0 jb2 jb5 jb6 jb7 jb8 jb9 jc0 jc1 jc2 jc5 jc6 jc7 jc8 jc9 jc10 lh_3 (ja4.drop i) i lh_4, ())) := by
 intro m
 induction m with
 | zero =>
  intro i lh_4 hm hi hc
  obtain rfl : i = ja4.length := by omega
  rw [List.drop_length] at hc ⊢
  refine reach_ok env26_all env26_mix (ok5) (fun id _ => hC id) (on5_7 _ _ _ _ _ _ _ _ _ _ _ _ _ _ _ _ _ _ _ _ _ _ _ _ _ _ _ _ _ _) ?_
  rw [tFewC_7] at hc
  generalize hy : tFew_7 ja0 ja1 ja2 ja3 ja5 ja6 ja7 ja8 ja9 ja10 jb0 jb2 jb5 jb6 jb7 jb8 jb9 jc0 jc1 jc2 jc5 jc6 jc7 jc8 jc9 jc10 lh_3 [] _ lh_4 = y
  rw [tFew_7] at hy
  simp only [lt_dec', cond_false, Tr.val_brF]
  repeat' (first | with_reducible refine obr hy hc (fun _ hy hc => ?_) (fun _ hy hc => ?_) | with_reducible refine obr1 hy (fun _ hy => ?_) (fun _ hy => ?_) | with_reducible refine ochk hc (fun hc => ?_) | with_reducible refine OptOk_chkT ?_)
  all_goals (subst hy; first | (change Reach _ _ _ _ _ _; apply at5_3s hC <;> first | assumption | exact hc) | rfl)
 | succ m IH =>
  intro i lh_4 hm hi hc
  have hlt : i < ja4.length := by omega
  have IH := IH (i + 1)
  have hcast : ((i : Int) + 1) = ((i + 1 : Nat) : Int) := by omega
  have hwr := wrap_add i (by omega)
  rw [List.drop_eq_getElem_cons hlt] at hc ⊢
  refine reach_ok env26_all env26_mix (ok5) (fun id _ => hC id) (on5_7 _ _ _ _ _ _ _ _ _ _ _ _ _ _ _ _ _ _ _ _ _ _ _ _ _ _ _ _ _ _) ?_
  rw [tFewC_7] at hc
  generalize hy : tFew_7 ja0 ja1 ja2 ja3 ja5 ja6 ja7 ja8 ja9 ja10 jb0 jb2 jb5 jb6 jb7 jb8 jb9 jc0 jc1 jc2 jc5 jc6 jc7 jc8 jc9 jc10 lh_3 (ja4[i] :: ja4.drop (i + 1)) (i : Int) lh_4 = y
  rw [tFew_7] at hy
  simp only [lt_dec hlt, inB_of hlt, getD_at ja4 _ hlt, hwr, cond_true]
  clear hwr
  simp only [hcast] at hy
  try simp only [hcast] at hc
  repeat' (first | with_reducible refine obr hy hc (fun _ hy hc => ?_) (fun _ hy hc => ?_) | with_reducible refine obr1 hy (fun _ hy => ?_) (fun _ hy => ?_) | with_reducible refine ochk hc (fun hc => ?_) | with_reducible refine OptOk_chkT ?_)
  all_goals (subst hy; first | (change Reach _ _ _ _ _ _; apply IH <;> first | omega | assumption) | (change Reach _ _ _ _ _ _; apply at5_3s hC <;> first | assumption | exact hc) | rfl)
theorem at5_7s {C : Ctx} (hC : ∀ id, C.ρ0 id = none) (ja0 : TS) (ja1 : LC) (ja2 : Sem shInt) (ja3 : LI) (ja5 : Str) (ja6 : Int) (ja7 : Int) (ja8 : Str) (ja9 : Str) (ja10 : LX) (jb0 : List UInt8) (jb2 : Int) (jb5 : List UInt8) (jb6 : Int) (jb7 : Int) (jb8 : List UInt8) (jb9 : List UInt8) (jc0 : TS) (jc1 : LC) (jc2 : Sem shInt) (jc5 : Str) (jc6 : Int) (jc7 : Int) (jc8 : Str) (jc9 : Str) (jc10 : LX) (lh_3 : LI) (ja4 : LF) (lh_4 : LF) (hc : tFewC_7 ja0 ja1 ja2 ja3 ja5 ja6 ja7 ja8 ja9 ja10 jb0 jb2 jb5 jb6 jb7 jb8 jb9 jc0 jc1 jc2 jc5 jc6 jc7 jc8 jc9 jc10 lh_3 ja4 0 lh_4 = true) :
  Reach (env26) C 56 (headK Tryz.f56 7) (s5_7 0 ja0 ja1 ja2 ja3 ja4 ja5 ja6 ja7 ja8 ja9 ja10 jb0 jb2 jb5 jb6 jb7 jb8 jb9 jc0 jc1 jc2 jc5 jc6 jc7 jc8 jc9 jc10 lh_3 lh_4) (fun r h => resOf h [shTable] r = some (tFew_7 ja0 ja1 ja2 ja3 ja5 ja6 ja7 ja8 ja9 ja10 jb0 jb2 jb5 jb6 jb7 jb8 jb9 jc0 jc1 jc2 jc5 jc6 jc7 jc8 jc9 jc10 lh_3 ja4 0 lh_4, ())) :=
 Reach.lenB 0 4 (shInt.pr Sh.str) ja4 rfl rfl fun hl => at5_7 hC ja0 ja1 ja2 ja3 ja5 ja6 ja7 ja8 ja9 ja10 jb0 jb2 jb5 jb6 jb7 jb8 jb9 jc0 jc1 jc2 jc5 jc6 jc7 jc8 jc9 jc10 lh_3 ja4 hl _ 0 lh_4 rfl (Nat.zero_le _) hc
def tFew_3 (ja0 : TS) (ja1 : LC) (ja2 : Sem shInt) (ja4 : LF) (ja5 : Str) (ja6 : Int) (ja7 : Int) (ja8 : Str) (ja9 : Str) (ja10 : LX) (jb0 : List UInt8) (jb2 : Int) (jb5 : List UInt8) (jb6 : Int) (jb7 : Int) (jb8 : List UInt8) (jb9 : List UInt8) (jc0 : TS) (jc1 : LC) (jc2 : Sem shInt) (jc5 : Str) (jc6 : Int) (jc7 : Int) (jc8 : Str) (jc9 : Str) (jc10 : LX) (ja3 : LI) : List (Sem shInt) → Int → List (Sem shInt) → Sem shTable
 | [], _, lh_3 => (tFew_7 ja0 ja1 ja2 ja3 ja5 ja6 ja7 ja8 ja9 ja10 jb0 jb2 jb5 jb6 jb7 jb8 jb9 jc0 jc1 jc2 jc5
 jc6 jc7 jc8 jc9 jc10 lh_3 ja4 0 [])
 | x :: r, i4, lh_3 => (if decide (i4 < 10) = true then
 tFew_3 ja0 ja1 ja2 ja4 ja5 ja6 ja7 ja8 ja9 ja10 jb0 jb2 jb5 jb6 jb7 jb8 jb9 jc0 jc1 jc2 jc5
  jc6 jc7 jc8 jc9 jc10 ja3 r (i4 + 1) (lh_3 ++ [x])
else
 tFew_7 ja0 ja1 ja2 ja3 ja5 ja6 ja7 ja8 ja9 ja10 jb0 jb2 jb5 jb6 jb7 jb8 jb9 jc0 jc1 jc2 jc5
  jc6 jc7 jc8 jc9 jc10 lh_3 ja4 0 [])
def tFewC_3 (ja0 : TS) (ja1 : LC) (ja2 : Sem shInt) (ja4 : LF) (ja5 : Str) (ja6 : Int) (ja7 : Int) (ja8 : Str) (ja9 : Str) (ja10 : LX) (jb0 : List UInt8) (jb2 : Int) (jb5 : List UInt8) (jb6 : Int) (jb7 : Int) (jb8 : List UInt8) (jb9 : List UInt8) (jc0 : TS) (jc1 : LC) (jc2 : Sem shInt) (jc5 : Str) (jc6 : Int) (jc7 : Int) (jc8 : Str) (jc9 : Str) (jc10 : LX) (ja3 : LI) : List (Sem shInt) → Int → List (Sem shInt) → Bool
 | [], _, lh_3 => (tFewC_7 ja0 ja1 ja2 ja3 ja5 ja6 ja7 ja8 ja9 ja10 jb0 jb2 jb5 jb6 jb7 jb8 jb9 jc0 jc1 jc2 jc5
 jc6 jc7 jc8 jc9 jc10 lh_3 ja4 0 [])
 | x :: r, i4, lh_3 => (if decide (i4 < 10) = true then
 if decide (lh_3.length + [x].length ≤ 1073741824) = true then
  tFewC_3 ja0 ja1 ja2 ja4 ja5 ja6 ja7 ja8 ja9 ja10 jb0 jb2 jb5 jb6 jb7 jb8 jb9 jc0 jc1 jc2 jc5
   jc6 jc7 jc8 jc9 jc10 ja3 r (i4 + 1) (lh_3 ++ [x])
 else false
else
 tFewC_7 ja0 ja1 ja2 ja3 ja5 ja6 ja7 ja8 ja9 ja10 jb0 jb2 jb5 jb6 jb7 jb8 jb9 jc0 jc1 jc2 jc5
  jc6 jc7 jc8 jc9 jc10 lh_3 ja4 0 [])
theorem at5_3 {C : Ctx} (hC : ∀ id, C.ρ0 id = none) (ja0 : TS) (ja1 : LC) (ja2 : Sem shInt) (ja4 : LF) (ja5 : Str) (ja6 : Int) (ja7 : Int) (ja8 : Str) (ja9 : Str) (ja10 : LX) (jb0 : List UInt8) (jb2 : Int) (jb5 : List UInt8) (jb6 : Int) (jb7 : Int) (jb8 : List UInt8) (jb9 : List UInt8) (jc0 : TS) (jc1 : LC) (jc2 : Sem shInt) (jc5 : Str) (jc6 : Int) (jc7 : Int) (jc8 : Str) (jc9 : Str) (jc10 : LX) (ja3 : LI) (hl : ja3.length ≤ maxStr) : ∀ (m i : Nat) (lh_3 : LI), ja3.length - i = m → i ≤ ja3.length → tFewC_3 ja0 ja1 ja2 ja4 ja5 ja6 ja7 ja8 ja9 ja10 jb0 jb2 jb5 jb6 jb7 jb8 jb9 jc0 jc1 jc2 jc5 jc6 jc7 jc8 jc9 jc10 ja3 (ja3.drop i) i lh_3 = true →
  Reach (env26) C 56 (headK Tryz.f56 3) (s5_3 (i : Int) ja0 ja1 ja2 ja3 ja4 ja5 ja6 ja7 ja8 ja9 ja10 jb0 jb2 jb5 jb6 jb7 jb8 jb9 jc0 jc1 jc2 jc5 jc6 jc7 jc8 jc9 jc10 lh_3) (fun r h => resOf h [shTable] r = some (tFew_3 ja0 ja1 ja2 ja4 ja5 ja6 ja7 ja8 ja9 ja10 jb0 jb2 jb5 jb6 jb7 jb8 jb9 jc0 jc1 jc2 jc5 jc6 jc7 jc8 jc9 jc10 ja3 (ja3.drop i) i lh_3, ())) := by
 intro m
 induction m with
 | zero =>
  intro i lh_3 hm hi hc
  obtain rfl : i = ja3.length := by omega
  rw [List.drop_length] at hc ⊢
  refine reach_ok env26_all env26_mix (ok5) (fun id _ => hC id) (on5_3 _ _ _ _ _ _ _ _ _ _ _ _ _ _ _ _ _ _ _ _ _ _ _ _ _ _ _ _ _) ?_
  rw [tFewC_3] at hc
  generalize hy : tFew_3 ja0 ja1 ja2 ja4 ja5 ja6 ja7 ja8 ja9 ja10 jb0 jb2 jb5 jb6 jb7 jb8 jb9 jc0 jc1 jc2 jc5 jc6 jc7 jc8 jc9 jc10 ja3 [] _ lh_3 = y
  rw [tFew_3] at hy
  simp only [lt_dec', cond_false, Tr.val_brF]
  repeat' (first | with_reducible refine obr hy hc (fun _ hy hc => ?_) (fun _ hy hc => ?_) | with_reducible refine obr1 hy (fun _ hy => ?_) (fun _ hy => ?_) | with_reducible refine ochk hc (fun hc => ?_) | with_reducible refine OptOk_chkT ?_)
  all_goals (subst hy; first | (change Reach _ _ _ _ _ _; apply at5_7s hC <;> first | assumption | exact hc) | rfl)
 | succ m IH =>
  intro i lh_3 hm hi hc
  have hlt : i < ja3.length := by omega
  have IH := IH (i + 1)
  have hcast : ((i : Int) + 1) = ((i + 1 : Nat) : Int) := by omega
  have hwr := wrap_add i (by omega)
  rw [List.drop_eq_getElem_cons hlt] at hc ⊢
  refine reach_ok env26_all env26_mix (ok5) (fun id _ => hC id) (on5_3 _ _ _ _ _ _ _ _ _ _ _ _ _ _ _ _ _ _ _ _ _ _ _ _ _ _ _ _ _) ?_
  rw [tFewC_3] at hc
  generalize hy : tFew_3 ja0 ja1 ja2 ja4 ja5 ja6 ja7 ja8 ja9 ja10 jb0 jb2 jb5 jb6 jb7 jb8 jb9 jc0 jc1 jc2 jc5 jc6 jc7 jc8 jc9 jc10 ja3 (ja3[i] :: ja3.drop (i + 1)) (i : Int) lh_3 = y
  rw [tFew_3] at hy
  simp only [lt_dec hlt, inB_of hlt, getD_at ja3 _ hlt, hwr, cond_true]
  clear hwr
  simp only [hcast] at hy
  try simp only [hcast] at hc
  repeat' (first | with_reducible refine obr hy hc (fun _ hy hc => ?_) (fun _ hy hc => ?_) | with_reducible refine obr1 hy (fun _ hy => ?_) (fun _ hy => ?_) | with_reducible refine ochk hc (fun hc => ?_) | with_reducible refine OptOk_chkT ?_)
  all_goals (subst hy; first | (change Reach _ _ _ _ _ _; apply IH <;> first | omega | assumption) | (change Reach _ _ _ _ _ _; apply at5_7s hC <;> first | assumption | exact hc) | rfl)
theorem at5_3s {C : Ctx} (hC : ∀ id, C.ρ0 id = none) (ja0 : TS) (ja1 : LC) (ja2 : Sem shInt) (ja4 : LF) (ja5 : Str) (ja6 : Int) (ja7 : Int) (ja8 : Str) (ja9 : Str) (ja10 : LX) (jb0 : List UInt8) (jb2 : Int) (jb5 : List UInt8) (jb6 : Int) (jb7 : Int) (jb8 : List UInt8) (jb9 : List UInt8) (jc0 : TS) (jc1 : LC) (jc2 : Sem shInt) (jc5 : Str) (jc6 : Int) (jc7 : Int) (jc8 : Str) (jc9 : Str) (jc10 : LX) (ja3 : LI) (lh_3 : LI) (hc : tFewC_3 ja0 ja1 ja2 ja4 ja5 ja6 ja7 ja8 ja9 ja10 jb0 jb2 jb5 jb6 jb7 jb8 jb9 jc0 jc1 jc2 jc5 jc6 jc7 jc8 jc9 jc10 ja3 ja3 0 lh_3 = true) :
  Reach (env26) C 56 (headK Tryz.f56 3) (s5_3 0 ja0 ja1 ja2 ja3 ja4 ja5 ja6 ja7 ja8 ja9 ja10 jb0 jb2 jb5 jb6 jb7 jb8 jb9 jc0 jc1 jc2 jc5 jc6 jc7 jc8 jc9 jc10 lh_3) (fun r h => resOf h [shTable] r = some (tFew_3 ja0 ja1 ja2 ja4 ja5 ja6 ja7 ja8 ja9 ja10 jb0 jb2 jb5 jb6 jb7 jb8 jb9 jc0 jc1 jc2 jc5 jc6 jc7 jc8 jc9 jc10 ja3 ja3 0 lh_3, ())) :=
 Reach.lenB 0 3 (Sh.int IntKind.i64) ja3 rfl rfl fun hl => at5_3 hC ja0 ja1 ja2 ja4 ja5 ja6 ja7 ja8 ja9 ja10 jb0 jb2 jb5 jb6 jb7 jb8 jb9 jc0 jc1 jc2 jc5 jc6 jc7 jc8 jc9 jc10 ja3 hl _ 0 lh_3 rfl (Nat.zero_le _) hc
def tFew (x0 : Sem shTable) : Sem shTable := (tFew_3 x0.1 x0.2.1 x0.2.2.1 x0.2.2.2.2.1 (ExprT.op x0.2.2.2.2.2) (ExprT.v x0.2.2.2.2.2).1 (ExprT.v x0.2.2.2.2.2).2.1 (ExprT.v x0.2.2.2.2.2).2.2 (ExprT.s x0.2.2.2.2.2) (ExprT.l x0.2.2.2.2.2) [] 0 [] 0 0 [] [] (sFew x0.1) (lCols x0.2.1) x0.2.2.1 (ExprT.op (eFew x0.2.2.2.2.2)) (ExprT.v (eFew x0.2.2.2.2.2)).1 (ExprT.v (eFew x0.2.2.2.2.2)).2.1 (ExprT.v (eFew x0.2.2.2.2.2)).2.2 (ExprT.s (eFew x0.2.2.2.2.2)) (ExprT.l (eFew x0.2.2.2.2.2)) x0.2.2.2.1 x0.2.2.2.1 0 [])
def tFewC (x0 : Sem shTable) : Bool := (tFewC_3 x0.1 x0.2.1 x0.2.2.1 x0.2.2.2.2.1 (ExprT.op x0.2.2.2.2.2) (ExprT.v x0.2.2.2.2.2).1 (ExprT.v x0.2.2.2.2.2).2.1 (ExprT.v x0.2.2.2.2.2).2.2 (ExprT.s x0.2.2.2.2.2) (ExprT.l x0.2.2.2.2.2) [] 0 [] 0 0 [] [] (sFew x0.1) (lCols x0.2.1) x0.2.2.1 (ExprT.op (eFew x0.2.2.2.2.2)) (ExprT.v (eFew x0.2.2.2.2.2)).1 (ExprT.v (eFew x0.2.2.2.2.2)).2.1 (ExprT.v (eFew x0.2.2.2.2.2)).2.2 (ExprT.s (eFew x0.2.2.2.2.2)) (ExprT.l (eFew x0.2.2.2.2.2)) x0.2.2.2.1 x0.2.2.2.1 0 [])
def F5 : FSem := plainC [shTable] [shTable] (fun x => tFewC x.1) fun x => (tFew x.1, ())
theorem FOk5 : FOk (env26).P (env26).gl 56 F5 := by
 refine FOk_plainC (ok5) fun x hc C hC => ?_
 unfold tFewC at hc
 refine reach_ok env26_all env26_mix (ok5) (fun id _ => hC id) (go5 x.1) ?_
 generalize hy : tFew x.1 = y
 unfold tFew at hy
 try simp only [ExprT.eta]
 repeat' (first | with_reducible refine obr hy hc (fun _ hy hc => ?_) (fun _ hy hc => ?_) | with_reducible refine obr1 hy (fun _ hy => ?_) (fun _ hy => ?_) | with_reducible refine ochk hc (fun hc => ?_) | with_reducible refine OptOk_chkT ?_)
 all_goals (subst hy; first | (change Reach _ _ _ _ _ _; apply at5_3s hC <;> first | assumption | exact hc) | (change Reach _ _ _ _ _ _; apply at5_7s hC <;> first | assumption | exact hc) | rfl)

noncomputable def env27 : Env := ((env26.add 48 F19).add 56 F5)
theorem env27_all : EnvAll env27 := (EnvAll.addS (EnvAll.addS env26_all (SameE.refl env26) FOk19) ((SameE.refl env26).add _ _) FOk5)
theorem env27_mix : env27.P.follows .mixedOrders = true := (mix_add (mix_add env26_mix _ _) _ _)
open Go Go.Proofs

theorem sCheckC_true (e : ExprT) (cols : List (Sem shCol)) : sCheckC e cols = true := by
 unfold sCheckC
 rw [if_pos (sameCN_nil 15 e)]
theorem tFewC_7_true {a0 a1 a2 a3 a4 a5 a6 a7 a8 a9 b0 b1 b2 b3 b4 b5 b6 d0 d1 d2 d3 d4 d5 d6 d7 d8 d9} : ∀ (l : List (Sem shFor)) (i : Int) (acc : List (Sem shFor)), (acc.length : Int) ≤ i → tFewC_7 a0 a1 a2 a3 a4 a5 a6 a7 a8 a9 b0 b1 b2 b3 b4 b5 b6 d0 d1 d2 d3 d4 d5 d6 d7 d8 d9 l i acc = true
 | [], _, _, _ => rfl
 | x :: r, i, acc, h => by
  rw [tFewC_7]
  split
  ·rename_i hi
   simp only [decide_eq_true_eq] at hi
   rw [if_pos (by simp; omega)]
   exact tFewC_7_true r (i + 1) _ (by simp; omega)
  ·rfl
theorem tFewC_3_true {a0 a1 a2 a3 a4 a5 a6 a7 a8 a9 b0 b1 b2 b3 b4 b5 b6 d0 d1 d2 d3 d4 d5 d6 d7 d8 d9} : ∀ (l : List (Sem shInt)) (i : Int) (acc : List (Sem shInt)), (acc.length : Int) ≤ i → tFewC_3 a0 a1 a2 a3 a4 a5 a6 a7 a8 a9 b0 b1 b2 b3 b4 b5 b6 d0 d1 d2 d3 d4 d5 d6 d7 d8 d9 l i acc = true
 | [], _, _, _ => by rw [tFewC_3]; exact tFewC_7_true _ _ _ (by simp)
 | x :: r, i, acc, h => by
  rw [tFewC_3]
  split
  ·rename_i hi
   simp only [decide_eq_true_eq] at hi
   rw [if_pos (by simp; omega)]
   exact tFewC_3_true r (i + 1) _ (by simp; omega)
  ·exact tFewC_7_true _ _ _ (by simp)
theorem tFewC_true (t : Sem shTable) : tFewC t = true := by
 unfold tFewC
 exact tFewC_3_true _ _ _ (by simp)
def F19t : FSem := plainT [Sh.expr, shCol.sl] [shInt] fun x => (sCheck x.1 x.2.1, ())
theorem FOk19t : FOk env27.P env27.gl 48 F19t := FOk_tot FOk19 fun x => sCheckC_true x.1 x.2.1
def F5t : FSem := plainT [shTable] [shTable] fun x => (tFew x.1, ())
theorem FOk5t : FOk env27.P env27.gl 56 F5t := FOk_tot FOk5 fun x => tFewC_true x.1

noncomputable def env28 : Env := ((env27.add 48 F19t).add 56 F5t)
theorem env28_all : EnvAll env28 := (EnvAll.addS (EnvAll.addS env27_all (SameE.refl env27) FOk19t) ((SameE.refl env27).add _ _) FOk5t)
theorem env28_mix : env28.P.follows .mixedOrders = true := (mix_add (mix_add env27_mix _ _) _ _)
end Cad
