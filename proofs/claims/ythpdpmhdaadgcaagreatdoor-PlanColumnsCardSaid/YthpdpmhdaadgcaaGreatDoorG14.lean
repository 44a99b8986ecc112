/- Plans: places. Plans: what is there. Plans: what is wrong with a target. Plans: sources. Plans: sources, who refers. Plans: sources, who refers. Few tables, few statements. Few bases. Plans: sources. Plans: the columns that are named. Plans: copies, groups. Plans: joins. Plans: the whole. Texts of values and expressions, and tokens: nothing panics. Tokens: nothing panics. Statements' texts: nothing panics. stmt.May: nothing panics. -/
import Derived.Test.YthpdpmhdaadgcaaGreatDoorG13
import Derived.Test.YthpdpmhdaadgcaaGreatDoorG12
namespace Cad
open Go Go.Proofs
set_option maxHeartbeats 4000000
abbrev shPlan : Sh := .pr .str (.pr .str (.pr .str (.pr shTable (.pr (.sl shInt) shInt))))
abbrev cpMk : List CP := [.d (.sl shRel), .d shStmt, .d shTable, .d shTable, .d .str, .d .str, .d .str, .d .str, .nil, .d shInt, .nil, .nil, .d .expr, .nil, .d shInt]
abbrev cpMk3 : List CP := [.d (.sl shRel), .d shStmt, .d shTable, .d shTable, .d .str, .d .str, .d .str, .d .str, .vec shCol, .d shInt, .nil, .nil, .d .expr, .d (.sl shInt), .d shInt]

abbrev kp67p : Nat → Keep := fun j => if j = 2 then { slots := [0, 1, 7, 8] } else { }
abbrev s67p_2 (l0 : LI) (i1 : Sem shInt) (i7 : Int) (i8 : Int) : St := { tmps := [AV.sl shInt l0, ai i1, ny, ny, ny, ny, ny, ai i7, ai i8, ny, ny, ny, ny, ny, ny, ny, ny, ny, ny], heap := [] }
theorem ok67p : fnChk (env52).P 67 Tryz.f67 2 := by refine ⟨?_, ?_, ?_, ?_⟩ <;> kernel_rfl
theorem go67p (x0 : Sem shInt.sl) (x1 : Sem shInt) : run (env52) 0 kp67p (Func.results Tryz.f67).toList 400 (bodyOf Tryz.f67) (initSt (Func.ntmps Tryz.f67) [datum shInt.sl x0, datum shInt x1] []) = Tr.ok (Leaf.head 2 (headK Tryz.f67 2) (s67p_2 x0 x1 (↑(List.length x0) : Int) 0)) := by kernel_rfl
theorem on67p_2 (l0 : LI) (i1 : Sem shInt) (i7 : Int) (i8 : Int) : run (env52) 0 kp67p (Func.results Tryz.f67).toList 400 (headK Tryz.f67 2) (s67p_2 l0 i1 i7 i8) = Tr.br (decide (i8 < i7)) (Tr.chk (inB i8 l0.length) (Tr.br (i1 == l0.getD i8.toNat (dflt shInt)) (Tr.ok (Leaf.ret (ai i8) [])) (Tr.ok (Leaf.head 2 (headK Tryz.f67 2) (s67p_2 l0 i1 i7 (IntKind.i64.wrap (i8 + 1))))))) (Tr.ok (Leaf.ret (ai (-1)) [])) := by kernel_rfl
def ixInt_2 (i1 : Sem shInt) : List (Sem shInt) → Int → Sem shInt
 | [], _ => (-1)
 | x :: r, i8 => (if (i1 == x) = true then i8 else ixInt_2 i1 r (i8 + 1))
theorem at67p_2 {C : Ctx} (hC : ∀ id, C.ρ0 id = none) (i1 : Sem shInt) (l0 : LI) (hl : l0.length ≤ maxStr) : ∀ (m i : Nat), l0.length - i = m → i ≤ l0.length →
  Reach (env52) C 67 (headK Tryz.f67 2) (s67p_2 l0 i1 (l0.length : Int) (i : Int)) (fun r h => resOf h [shInt] r = some (ixInt_2 i1 (l0.drop i) i, ())) := by
 intro m
 induction m with
 | zero =>
  intro i hm hi
  obtain rfl : i = l0.length := by omega
  rw [List.drop_length]
  refine reach_ok env52_all env52_mix (ok67p) (fun id _ => hC id) (on67p_2 _ _ _ _) ?_
  generalize hy : ixInt_2 i1 [] _ = y
  rw [ixInt_2] at hy
  simp only [lt_dec', Tr.val_brF]
  repeat' (first | with_reducible refine obr1 hy (fun _ hy => ?_) (fun _ hy => ?_) | with_reducible refine OptOk_chkT ?_)
  all_goals first | (cases hc; done) | (subst hy; first | rfl)
 | succ m IH =>
  intro i hm hi
  have hlt : i < l0.length := by omega
  have IH := IH (i + 1)
  have hcast : ((i : Int) + 1) = ((i + 1 : Nat) : Int) := by omega
  have hwr := wrap_add i (by omega)
  rw [List.drop_eq_getElem_cons hlt]
  refine reach_ok env52_all env52_mix (ok67p) (fun id _ => hC id) (on67p_2 _ _ _ _) ?_
  generalize hy : ixInt_2 i1 (l0[i] :: l0.drop (i + 1)) (i : Int) = y
  rw [ixInt_2] at hy
  simp only [lt_dec hlt, inB_of hlt, getD_at l0 _ hlt, hwr, Tr.val_brT, Tr.val_chkT]
  clear hwr
  try simp only [inB_of hlt] at hy
  simp only [hcast] at hy
  repeat' (first | with_reducible refine obr1 hy (fun _ hy => ?_) (fun _ hy => ?_) | with_reducible refine OptOk_chkT ?_)
  all_goals first | (cases hc; done) | (subst hy; first | (change Reach _ _ _ _ _ _; apply IH <;> first | omega | assumption) | rfl)
theorem at67p_2s {C : Ctx} (hC : ∀ id, C.ρ0 id = none) (i1 : Sem shInt) (l0 : LI) :
  Reach (env52) C 67 (headK Tryz.f67 2) (s67p_2 l0 i1 (l0.length : Int) 0) (fun r h => resOf h [shInt] r = some (ixInt_2 i1 l0 0, ())) :=
 Reach.len 0 (Sh.int IntKind.i64) l0 rfl fun hl => at67p_2 hC i1 l0 hl _ 0 rfl (Nat.zero_le _)
def ixInt (x0 : Sem shInt.sl) (x1 : Sem shInt) : Sem shInt := (ixInt_2 x1 x0 0)
def F67p : FSem := plainT [shInt.sl, shInt] [shInt] fun x => (ixInt x.1 x.2.1, ())
theorem FOk67p : FOk (env52).P (env52).gl 67 F67p := by
 refine FOk_plainT (ok67p) fun x C hC => ?_
 refine reach_ok env52_all env52_mix (ok67p) (fun id _ => hC id) (go67p x.1 x.2.1) ?_
 generalize hy : ixInt x.1 x.2.1 = y
 unfold ixInt at hy
 try simp only [ExprT.eta]
 repeat' (first | with_reducible refine obr1 hy (fun _ hy => ?_) (fun _ hy => ?_) | with_reducible refine OptOk_chkT ?_)
 all_goals first | (cases hc; done) | (subst hy; first | (change Reach _ _ _ _ _ _; apply at67p_2s hC <;> first | assumption | exact hc) | rfl)

abbrev kp90p : Nat → Keep := fun j => if j = 2 then { slots := [0, 1, 7, 8] } else { }
abbrev s90p_2 (l0 : LS) (s1 : TS) (i7 : Int) (i8 : Int) : St := { tmps := [AV.sl Sh.str l0, AV.str s1, ny, ny, ny, ny, ny, ai i7, ai i8, ny, ny, ny, ny, ny, ny, ny, ny, ny, ny], heap := [] }
theorem ok90p : fnChk (env52).P 90 Tryz.f90 2 := by refine ⟨?_, ?_, ?_, ?_⟩ <;> kernel_rfl
theorem go90p (x0 : Sem Sh.str.sl) (x1 : TS) : run (env52) 0 kp90p (Func.results Tryz.f90).toList 400 (bodyOf Tryz.f90) (initSt (Func.ntmps Tryz.f90) [datum Sh.str.sl x0, datum Sh.str x1] []) = Tr.ok (Leaf.head 2 (headK Tryz.f90 2) (s90p_2 x0 x1 (↑(List.length x0) : Int) 0)) := by kernel_rfl
theorem on90p_2 (l0 : LS) (s1 : TS) (i7 : Int) (i8 : Int) : run (env52) 0 kp90p (Func.results Tryz.f90).toList 400 (headK Tryz.f90 2) (s90p_2 l0 s1 i7 i8) = Tr.br (decide (i8 < i7)) (Tr.chk (inB i8 l0.length) (Tr.br (s1 == l0.getD i8.toNat (dflt Sh.str)) (Tr.ok (Leaf.ret (ai i8) [])) (Tr.ok (Leaf.head 2 (headK Tryz.f90 2) (s90p_2 l0 s1 i7 (IntKind.i64.wrap (i8 + 1))))))) (Tr.ok (Leaf.ret (ai (-1)) [])) := by kernel_rfl
def ixStr_2 (s1 : TS) : List (Sem Sh.str) → Int → Sem shInt
 | [], _ => (-1)
 | x :: r, i8 => (if (s1 == x) = true then i8 else ixStr_2 s1 r (i8 + 1))
theorem at90p_2 {C : Ctx} (hC : ∀ id, C.ρ0 id = none) (s1 : TS) (l0 : LS) (hl : l0.length ≤ maxStr) : ∀ (m i : Nat), l0.length - i = m → i ≤ l0.length →
  Reach (env52) C 90 (headK Tryz.f90 2) (s90p_2 l0 s1 (l0.length : Int) (i : Int)) (fun r h => resOf h [shInt] r = some (ixStr_2 s1 (l0.drop i) i, ())) := by
 intro m
 induction m with
 | zero =>
  intro i hm hi
  obtain rfl : i = l0.length := by omega
  rw [List.drop_length]
  refine reach_ok env52_all env52_mix (ok90p) (fun id _ => hC id) (on90p_2 _ _ _ _) ?_
  generalize hy : ixStr_2 s1 [] _ = y
  rw [ixStr_2] at hy
  simp only [lt_dec', Tr.val_brF]
  repeat' (first | with_reducible refine obr1 hy (fun _ hy => ?_) (fun _ hy => ?_) | with_reducible refine OptOk_chkT ?_)
  all_goals first | (cases hc; done) | (subst hy; first | rfl)
 | succ m IH =>
  intro i hm hi
  have hlt : i < l0.length := by omega
  have IH := IH (i + 1)
  have hcast : ((i : Int) + 1) = ((i + 1 : Nat) : Int) := by omega
  have hwr := wrap_add i (by omega)
  rw [List.drop_eq_getElem_cons hlt]
  refine reach_ok env52_all env52_mix (ok90p) (fun id _ => hC id) (on90p_2 _ _ _ _) ?_
  generalize hy : ixStr_2 s1 (l0[i] :: l0.drop (i + 1)) (i : Int) = y
  rw [ixStr_2] at hy
  simp only [lt_dec hlt, inB_of hlt, getD_at l0 _ hlt, hwr, Tr.val_brT, Tr.val_chkT]
  clear hwr
  try simp only [inB_of hlt] at hy
  simp only [hcast] at hy
  repeat' (first | with_reducible refine obr1 hy (fun _ hy => ?_) (fun _ hy => ?_) | with_reducible refine OptOk_chkT ?_)
  all_goals first | (cases hc; done) | (subst hy; first | (change Reach _ _ _ _ _ _; apply IH <;> first | omega | assumption) | rfl)
theorem at90p_2s {C : Ctx} (hC : ∀ id, C.ρ0 id = none) (s1 : TS) (l0 : LS) :
  Reach (env52) C 90 (headK Tryz.f90 2) (s90p_2 l0 s1 (l0.length : Int) 0) (fun r h => resOf h [shInt] r = some (ixStr_2 s1 l0 0, ())) :=
 Reach.len 0 (Sh.str) l0 rfl fun hl => at90p_2 hC s1 l0 hl _ 0 rfl (Nat.zero_le _)
def ixStr (x0 : Sem Sh.str.sl) (x1 : TS) : Sem shInt := (ixStr_2 x1 x0 0)
def F90p : FSem := plainT [Sh.str.sl, Sh.str] [shInt] fun x => (ixStr x.1 x.2.1, ())
theorem FOk90p : FOk (env52).P (env52).gl 90 F90p := by
 refine FOk_plainT (ok90p) fun x C hC => ?_
 refine reach_ok env52_all env52_mix (ok90p) (fun id _ => hC id) (go90p x.1 x.2.1) ?_
 generalize hy : ixStr x.1 x.2.1 = y
 unfold ixStr at hy
 try simp only [ExprT.eta]
 repeat' (first | with_reducible refine obr1 hy (fun _ hy => ?_) (fun _ hy => ?_) | with_reducible refine OptOk_chkT ?_)
 all_goals first | (cases hc; done) | (subst hy; first | (change Reach _ _ _ _ _ _; apply at90p_2s hC <;> first | assumption | exact hc) | rfl)

abbrev kp117p : Nat → Keep := fun j => if j = 2 then { slots := [0, 3, 7, 8] } else { }
abbrev s117p_2 (l0 : LF) (i7 : Int) (i8 : Int) (ja0 : Sem shInt) (ja1 : TS) : St := { tmps := [AV.sl shFor l0, ny, ny, AV.ptr 0 0, ny, ny, ny, ai i7, ai i8, ny, ny, ny, ny, ny, ny, ny, ny, ny, ny], heap := [AO.box [ai ja0, AV.str ja1]] }
theorem ok117p : fnChk (env52).P 117 Tryz.f117 2 := by refine ⟨?_, ?_, ?_, ?_⟩ <;> kernel_rfl
theorem go117p (x0 : Sem shFor.sl) (x1 : Sem shFor) : run (env52) 0 kp117p (Func.results Tryz.f117).toList 400 (bodyOf Tryz.f117) (initSt (Func.ntmps Tryz.f117) [datum shFor.sl x0, datum shFor x1] []) = Tr.ok (Leaf.head 2 (headK Tryz.f117 2) (s117p_2 x0 (↑(List.length x0) : Int) 0 x1.1 x1.2)) := by kernel_rfl
theorem on117p_2 (l0 : LF) (i7 : Int) (i8 : Int) (ja0 : Sem shInt) (ja1 : TS) : run (env52) 0 kp117p (Func.results Tryz.f117).toList 400 (headK Tryz.f117 2) (s117p_2 l0 i7 i8 ja0 ja1) = Tr.br (decide (i8 < i7)) (Tr.chk (inB i8 l0.length) (Tr.br (ja0 == (l0.getD i8.toNat (dflt shFor)).1 && (ja1 == (l0.getD i8.toNat (dflt shFor)).2 && true)) (Tr.ok (Leaf.ret (ai i8) [])) (Tr.ok (Leaf.head 2 (headK Tryz.f117 2) (s117p_2 l0 i7 (IntKind.i64.wrap (i8 + 1)) ja0 ja1))))) (Tr.ok (Leaf.ret (ai (-1)) [])) := by kernel_rfl
def ixFor_2 (ja0 : Sem shInt) (ja1 : TS) : List (Sem shFor) → Int → Sem shInt
 | [], _ => (-1)
 | x :: r, i8 => (if (ja0 == x.1 && (ja1 == x.2 && true)) = true then i8 else ixFor_2 ja0 ja1 r (i8 + 1))
theorem at117p_2 {C : Ctx} (hC : ∀ id, C.ρ0 id = none) (ja0 : Sem shInt) (ja1 : TS) (l0 : LF) (hl : l0.length ≤ maxStr) : ∀ (m i : Nat), l0.length - i = m → i ≤ l0.length →
  Reach (env52) C 117 (headK Tryz.f117 2) (s117p_2 l0 (l0.length : Int) (i : Int) ja0 ja1) (fun r h => resOf h [shInt] r = some (ixFor_2 ja0 ja1 (l0.drop i) i, ())) := by
 intro m
 induction m with
 | zero =>
  intro i hm hi
  obtain rfl : i = l0.length := by omega
  rw [List.drop_length]
  refine reach_ok env52_all env52_mix (ok117p) (fun id _ => hC id) (on117p_2 _ _ _ _ _) ?_
  generalize hy : ixFor_2 ja0 ja1 [] _ = y
  rw [ixFor_2] at hy
  simp only [lt_dec', Tr.val_brF]
  repeat' (first | with_reducible refine obr1 hy (fun _ hy => ?_) (fun _ hy => ?_) | with_reducible refine OptOk_chkT ?_)
  all_goals first | (cases hc; done) | (subst hy; first | rfl)
 | succ m IH =>
  intro i hm hi
  have hlt : i < l0.length := by omega
  have IH := IH (i + 1)
  have hcast : ((i : Int) + 1) = ((i + 1 : Nat) : Int) := by omega
  have hwr := wrap_add i (by omega)
  rw [List.drop_eq_getElem_cons hlt]
  refine reach_ok env52_all env52_mix (ok117p) (fun id _ => hC id) (on117p_2 _ _ _ _ _) ?_
  generalize hy : ixFor_2 ja0 ja1 (l0[i] :: l0.drop (i + 1)) (i : Int) = y
  rw [ixFor_2] at hy
  simp only [lt_dec hlt, inB_of hlt, getD_at l0 _ hlt, hwr, Tr.val_brT, Tr.val_chkT]
  clear hwr
  try simp only [inB_of hlt] at hy
  simp only [hcast] at hy
  repeat' (first | with_reducible refine obr1 hy (fun _ hy => ?_) (fun _ hy => ?_) | with_reducible refine OptOk_chkT ?_)
  all_goals first | (cases hc; done) | (subst hy; first | (change Reach _ _ _ _ _ _; apply IH <;> first | omega | assumption) | rfl)
theorem at117p_2s {C : Ctx} (hC : ∀ id, C.ρ0 id = none) (ja0 : Sem shInt) (ja1 : TS) (l0 : LF) :
  Reach (env52) C 117 (headK Tryz.f117 2) (s117p_2 l0 (l0.length : Int) 0 ja0 ja1) (fun r h => resOf h [shInt] r = some (ixFor_2 ja0 ja1 l0 0, ())) :=
 Reach.len 0 (shInt.pr Sh.str) l0 rfl fun hl => at117p_2 hC ja0 ja1 l0 hl _ 0 rfl (Nat.zero_le _)
def ixFor (x0 : Sem shFor.sl) (x1 : Sem shFor) : Sem shInt := (ixFor_2 x1.1 x1.2 x0 0)
def F117p : FSem := plainT [shFor.sl, shFor] [shInt] fun x => (ixFor x.1 x.2.1, ())
theorem FOk117p : FOk (env52).P (env52).gl 117 F117p := by
 refine FOk_plainT (ok117p) fun x C hC => ?_
 refine reach_ok env52_all env52_mix (ok117p) (fun id _ => hC id) (go117p x.1 x.2.1) ?_
 generalize hy : ixFor x.1 x.2.1 = y
 unfold ixFor at hy
 try simp only [ExprT.eta]
 repeat' (first | with_reducible refine obr1 hy (fun _ hy => ?_) (fun _ hy => ?_) | with_reducible refine OptOk_chkT ?_)
 all_goals first | (cases hc; done) | (subst hy; first | (change Reach _ _ _ _ _ _; apply at117p_2s hC <;> first | assumption | exact hc) | rfl)

abbrev kp16p : Nat → Keep := fun _ => { }
theorem ok16p : fnChk (env52).P 16 Tryz.f16 1 := by refine ⟨?_, ?_, ?_, ?_⟩ <;> kernel_rfl
theorem go16p (x0 : Sem shPlan) : run (env52) 0 kp16p (Func.results Tryz.f16).toList 400 (bodyOf Tryz.f16) (initSt (Func.ntmps Tryz.f16) [datum shPlan x0] []) = Tr.br (x0.2.2.1 == []) (Tr.ok (Leaf.ret (AV.sl Sh.str [x0.2.1]) [])) (Tr.ok (Leaf.ret (AV.sl Sh.str [x0.2.1, x0.2.2.1]) [])) := by kernel_rfl
def pSources (x0 : Sem shPlan) : Sem Sh.str.sl := (if (x0.2.2.1 == []) = true then [x0.2.1] else [x0.2.1, x0.2.2.1])
def F16p : FSem := plainT [shPlan] [Sh.str.sl] fun x => (pSources x.1, ())
theorem FOk16p : FOk (env52).P (env52).gl 16 F16p := by
 refine FOk_plainT (ok16p) fun x C hC => ?_
 refine reach_ok env52_all env52_mix (ok16p) (fun id _ => hC id) (go16p x.1) ?_
 generalize hy : pSources x.1 = y
 unfold pSources at hy
 try simp only [ExprT.eta]
 repeat' (first | with_reducible refine obr1 hy (fun _ hy => ?_) (fun _ hy => ?_) | with_reducible refine OptOk_chkT ?_)
 all_goals first | (cases hc; done) | (subst hy; first | rfl)

noncomputable def F115p : FSem := liftF (List.replicate 2 none) (autoG env52 Tryz.f115 (List.replicate 2 none))
theorem FOk115p : FOk env52.P env52.gl 115 F115p := FOk_auto _ env52_all env52_mix (by refine ⟨?_, ?_, ?_, ?_⟩ <;> kernel_rfl)

noncomputable def env53 : Env := (((((env52.add 67 F67p).add 90 F90p).add 117 F117p).add 16 F16p).add 115 F115p)
theorem env53_all : EnvAll env53 := (EnvAll.addS (EnvAll.addS (EnvAll.addS (EnvAll.addS (EnvAll.addS env52_all (SameE.refl env52) FOk67p) ((SameE.refl env52).add _ _) FOk90p) (((SameE.refl env52).add _ _).add _ _) FOk117p) ((((SameE.refl env52).add _ _).add _ _).add _ _) FOk16p) (((((SameE.refl env52).add _ _).add _ _).add _ _).add _ _) FOk115p)
theorem env53_mix : env53.P.follows .mixedOrders = true := (mix_add (mix_add (mix_add (mix_add (mix_add env52_mix _ _) _ _) _ _) _ _) _ _)
open Go Go.Proofs
set_option maxHeartbeats 4000000

abbrev kp116p : Nat → Keep := fun _ => { }
theorem ok116p : fnChk (env53).P 116 Tryz.f116 2 := by refine ⟨?_, ?_, ?_, ?_⟩ <;> kernel_rfl
theorem go116p (x0 : Sem shInt.sl) (x1 : Sem shInt) : run (env53) 0 kp116p (Func.results Tryz.f116).toList 400 (bodyOf Tryz.f116) (initSt (Func.ntmps Tryz.f116) [datum shInt.sl x0, datum shInt x1] []) = Tr.ok (Leaf.ret (AV.bool (decide (ixInt x0 x1 ≥ 0))) []) := by kernel_rfl
def hasInt (x0 : Sem shInt.sl) (x1 : Sem shInt) : Sem Sh.bool := (decide (ixInt x0 x1 ≥ 0))
def F116p : FSem := plainT [shInt.sl, shInt] [Sh.bool] fun x => (hasInt x.1 x.2.1, ())
theorem FOk116p : FOk (env53).P (env53).gl 116 F116p := by
 refine FOk_plainT (ok116p) fun x C hC => ?_
 refine reach_ok env53_all env53_mix (ok116p) (fun id _ => hC id) (go116p x.1 x.2.1) ?_
 generalize hy : hasInt x.1 x.2.1 = y
 unfold hasInt at hy
 try simp only [ExprT.eta]
 repeat' (first | with_reducible refine obr1 hy (fun _ hy => ?_) (fun _ hy => ?_) | with_reducible refine OptOk_chkT ?_)
 all_goals first | (cases hc; done) | (subst hy; first | rfl)

abbrev kp50p : Nat → Keep := fun _ => { }
theorem ok50p : fnChk (env53).P 50 Tryz.f50 2 := by refine ⟨?_, ?_, ?_, ?_⟩ <;> kernel_rfl
theorem go50p (x0 : Sem Sh.str.sl) (x1 : TS) : run (env53) 0 kp50p (Func.results Tryz.f50).toList 400 (bodyOf Tryz.f50) (initSt (Func.ntmps Tryz.f50) [datum Sh.str.sl x0, datum Sh.str x1] []) = Tr.ok (Leaf.ret (AV.bool (decide (ixStr x0 x1 ≥ 0))) []) := by kernel_rfl
def hasStr (x0 : Sem Sh.str.sl) (x1 : TS) : Sem Sh.bool := (decide (ixStr x0 x1 ≥ 0))
def F50p : FSem := plainT [Sh.str.sl, Sh.str] [Sh.bool] fun x => (hasStr x.1 x.2.1, ())
theorem FOk50p : FOk (env53).P (env53).gl 50 F50p := by
 refine FOk_plainT (ok50p) fun x C hC => ?_
 refine reach_ok env53_all env53_mix (ok50p) (fun id _ => hC id) (go50p x.1 x.2.1) ?_
 generalize hy : hasStr x.1 x.2.1 = y
 unfold hasStr at hy
 try simp only [ExprT.eta]
 repeat' (first | with_reducible refine obr1 hy (fun _ hy => ?_) (fun _ hy => ?_) | with_reducible refine OptOk_chkT ?_)
 all_goals first | (cases hc; done) | (subst hy; first | rfl)

abbrev kp68p : Nat → Keep := fun _ => { }
theorem ok68p : fnChk (env53).P 68 Tryz.f68 2 := by refine ⟨?_, ?_, ?_, ?_⟩ <;> kernel_rfl
theorem go68p (x0 : Sem shFor.sl) (x1 : Sem shFor) : run (env53) 0 kp68p (Func.results Tryz.f68).toList 400 (bodyOf Tryz.f68) (initSt (Func.ntmps Tryz.f68) [datum shFor.sl x0, datum shFor x1] []) = Tr.ok (Leaf.ret (AV.bool (decide (ixFor x0 x1 ≥ 0))) []) := by kernel_rfl
def hasFor (x0 : Sem shFor.sl) (x1 : Sem shFor) : Sem Sh.bool := (decide (ixFor x0 x1 ≥ 0))
def F68p : FSem := plainT [shFor.sl, shFor] [Sh.bool] fun x => (hasFor x.1 x.2.1, ())
theorem FOk68p : FOk (env53).P (env53).gl 68 F68p := by
 refine FOk_plainT (ok68p) fun x C hC => ?_
 refine reach_ok env53_all env53_mix (ok68p) (fun id _ => hC id) (go68p x.1 x.2.1) ?_
 generalize hy : hasFor x.1 x.2.1 = y
 unfold hasFor at hy
 try simp only [ExprT.eta]
 repeat' (first | with_reducible refine obr1 hy (fun _ hy => ?_) (fun _ hy => ?_) | with_reducible refine OptOk_chkT ?_)
 all_goals first | (cases hc; done) | (subst hy; first | rfl)

noncomputable def env54 : Env := (((env53.add 116 F116p).add 50 F50p).add 68 F68p)
theorem env54_all : EnvAll env54 := (EnvAll.addS (EnvAll.addS (EnvAll.addS env53_all (SameE.refl env53) FOk116p) ((SameE.refl env53).add _ _) FOk50p) (((SameE.refl env53).add _ _).add _ _) FOk68p)
theorem env54_mix : env54.P.follows .mixedOrders = true := (mix_add (mix_add (mix_add env53_mix _ _) _ _) _ _)
open Go Go.Proofs
noncomputable section
set_option maxHeartbeats 4000000

abbrev kp37p : Nat → Keep := fun j => if j = 2 then { slots := [0, 12, 13, 14] } else { }
inductive H37p where
 | h2 (i13 : Int) (i14 : Int) (z0 : CSem cpMk3)
abbrev e37p : H37p → Nat × St
 | .h2 i13 i14 z0 => (2, ⟨tm 65 [(0, AV.ptr 0 0), (12, AV.vec 1), (13, ai i13), (14, ai i14)], [AO.box (cpN [1] cpMk3 z0), AO.vec shCol z0.2.2.2.2.2.2.2.2.1]⟩)
theorem ok37p : fnChk env54.P 37 Tryz.f37 1 := by refine ⟨?_, ?_, ?_, ?_⟩ <;> kernel_rfl
def i37p (y : CSem cpMk3) : Tr (H37p ⊕ Raw) := Tr.to (H37p.h2 (↑y.2.2.2.2.2.2.2.2.1.length : Int) 0 y)
def t37p_2z (i13 : Int) (i14 : Int) (z0 : CSem cpMk3) (a0 : ExprT) (a1 : Sem shCol) (a2 : Sem shInt × Sem shInt) : Tr (H37p ⊕ Raw) := Tr.br (decide (i14 < i13)) (Tr.chk (inB i14 z0.2.2.2.2.2.2.2.2.1.length) (Tr.chk (decide (i14.toNat < z0.2.2.2.2.2.2.2.2.1.length)) (Tr.br (tPlace (z0.2.2.2.2.2.2.2.1, z0.2.2.2.2.2.2.2.2.1, z0.2.2.2.2.2.2.2.2.2.1, [], [], a0) a1.1 != i14) (Tr.re (ai 7) (cpHeap cpMk3 z0)) (Tr.to (H37p.h2 i13 (IntKind.i64.wrap (i14 + 1)) z0))))) (Tr.br (ExprT.op z0.2.2.2.2.2.2.2.2.2.2.1 == []) (Tr.re (ai 0) (cpHeap cpMk3 z0)) (Tr.br (bif a2.2 == 0 then bif a2.1 != 3 then a2.1 != 0 else false else false) (Tr.re (ai 5) (cpHeap cpMk3 z0)) (Tr.re (ai a2.2) (cpHeap cpMk3 z0))))
def t37p_2 (i13 : Int) (i14 : Int) (z0 : CSem cpMk3) : Tr (H37p ⊕ Raw) :=
 let a0 := etaE z0.2.2.2.2.2.2.2.2.2.2.1
 let a1 := z0.2.2.2.2.2.2.2.2.1.getD i14.toNat (dflt shCol)
 let a2 := eType a0 z0.2.2.2.2.2.2.2.2.1
 t37p_2z i13 i14 z0 a0 a1 a2
theorem go37p (y : CSem cpMk3) : run env54 2 kp37p (Func.results Tryz.f37).toList 400 (bodyOf Tryz.f37) (initSt (Func.ntmps Tryz.f37) [AV.ptr 0 0] (cpHeap cpMk3 y)) = (i37p y).map (lf Tryz.f37 e37p) := by kernel_rfl
def t37p : H37p → Tr (H37p ⊕ Raw)
 | .h2 i13 i14 z0 => t37p_2 i13 i14 z0
theorem on37p : ∀ s, run env54 2 kp37p (Func.results Tryz.f37).toList 400 (headK Tryz.f37 (e37p s).1) (e37p s).2 = (t37p s).map (lf Tryz.f37 e37p) | .h2 i13 i14 z0 => by kernel_rfl
def mTargetO (y : CSem cpMk3) : Option (HArgs (List.map some [shInt]) × CSem cpMk3) := outB [shInt] cpMk3 t37p 100000000 (i37p y)
def mTargetC (y : CSem cpMk3) : Bool := (mTargetO y).isSome
def mTarget (y : CSem cpMk3) : (Sem shInt) × CSem cpMk3 := (fun r : HArgs (List.map some [shInt]) × CSem cpMk3 => (r.1.1, r.2)) ((mTargetO y).getD (dfltH [shInt], dfltC cpMk3))
def F37p : FSem := boxF cpMk3 [] [shInt] cpMk3 (fun y _ => mTargetC y) fun y _ => (((mTarget y).1, ()), (mTarget y).2)
theorem FOk37p : FOk env54.P env54.gl 37 F37p := FOk_B1 (keep := kp37p) (gas := 400) (n := 100000000) (e := e37p) (t := t37p) (i := fun y x => i37p y) env54_all env54_mix ok37p (fun y x => go37p y) on37p (fun _ _ => by kernel_rfl) (fun _ _ => by kernel_rfl)

def env55 : Env := (env54.add 37 F37p)
theorem env55_all : EnvAll env55 := (EnvAll.addS env54_all (SameE.refl env54) FOk37p)
theorem env55_mix : env55.P.follows .mixedOrders = true := (mix_add env54_mix _ _)
end
open Go Go.Proofs
set_option maxHeartbeats 4000000

noncomputable def F74p : FSem := liftF (List.replicate 2 none) (autoG env55 Tryz.f74 (List.replicate 2 none))
theorem FOk74p : FOk env55.P env55.gl 74 F74p := FOk_auto _ env55_all env55_mix (by refine ⟨?_, ?_, ?_, ?_⟩ <;> kernel_rfl)

noncomputable def env56 : Env := (env55.add 74 F74p)
theorem env56_all : EnvAll env56 := (EnvAll.addS env55_all (SameE.refl env55) FOk74p)
theorem env56_mix : env56.P.follows .mixedOrders = true := (mix_add env55_mix _ _)
open Go Go.Proofs
set_option maxHeartbeats 4000000

abbrev s98p_74 (s : List Str) (l : LF) (i : Int) : St := { tmps := [.sl shFor l, .clo (.func 74) [] [.ptr 0 0], .any, .any, .any, .any, .any, .int .i64 l.length, .int .i64 i, .any, .any, .any, .any, .any, .any, .any, .any, .any, .any], heap := [.box [.sl .str s]] }
theorem go98p_74 (s : List Str) (l : LF) : run env56 1 kpIx Tryz.f98.results.toList 300 (bodyOf Tryz.f98) (initSt Tryz.f98.ntmps [.sl shFor l, .clo (.func 74) [] [.ptr 0 0]] [.box [.sl .str s]]) = .ok (.head 2 (headK Tryz.f98 2) (s98p_74 s l 0)) := by kernel_rfl
theorem on98p_74 (s : List Str) (l : LF) (i : Int) : run env56 1 kpIx Tryz.f98.results.toList 300 (headK Tryz.f98 2) (s98p_74 s l i) = ixTree (K := headK Tryz.f98 2) (e := shFor) l (fun x => hasStr s x.2) (s98p_74 s l) [.box [.sl .str s]] i := by kernel_rfl

theorem ok98p : fnChk env56.P 98 Tryz.f98 2 := by refine ⟨?_, ?_, ?_, ?_⟩ <;> kernel_rfl
def G98p : GSem [some (.sl shFor), none] := fun x h => match x, h with
 | (l, .clo (.func 74) [] [.ptr 0 0], _), [.box [.sl .str s]] => .ok (.int .i64 (ixFrom (fun x => hasStr s x.2) l 0), [.box [.sl .str s]])
 | _, _ => .err
def F98p : FSem := liftF [some (.sl shFor), none] G98p
theorem FOk98p : FOk env56.P env56.gl 98 F98p := by
 refine FOk_of ok98p fun x h0 res hx C hC => ?_
 unfold G98p at hx
 split at hx
 ·rename_i l u s
  simp only [Tr.val_ok, Option.some.injEq] at hx
  subst hx
  refine Reach.len 0 shFor l rfl fun hl => ?_
  refine reach_ok (n0 := 1) env56_all env56_mix ok98p hC (go98p_74 s l) ?_
  exact reach_ixf l (fun x => hasStr s x.2) (s98p_74 s l) env56_all env56_mix ok98p hC (on98p_74 s l) hl _ 0 rfl (Nat.zero_le _)
 ·simp at hx

noncomputable def env57 : Env := (env56.add 98 F98p)
theorem env57_all : EnvAll env57 := (EnvAll.addS env56_all (SameE.refl env56) FOk98p)
theorem env57_mix : env57.P.follows .mixedOrders = true := (mix_add env56_mix _ _)
open Go Go.Proofs
set_option maxHeartbeats 4000000

noncomputable def F75p : FSem := liftF (List.replicate 2 none) (autoG env57 Tryz.f75 (List.replicate 2 none))
theorem FOk75p : FOk env57.P env57.gl 75 F75p := FOk_auto _ env57_all env57_mix (by refine ⟨?_, ?_, ?_, ?_⟩ <;> kernel_rfl)

noncomputable def env58 : Env := (env57.add 75 F75p)
theorem env58_all : EnvAll env58 := (EnvAll.addS env57_all (SameE.refl env57) FOk75p)
theorem env58_mix : env58.P.follows .mixedOrders = true := (mix_add env57_mix _ _)
open Go Go.Proofs
noncomputable section
set_option maxHeartbeats 4000000
abbrev cpR : List CP := [.d shRel]
abbrev cpRz : List CP := [.d .str, .nil, .d shInt, .nil, .nil, .d .str, .d shInt, .d shInt, .d .str, .d .str, .nil, .nil]
abbrev cpR2 : List CP := [.d shTable, .vec (.sl shVal)]
abbrev cpS : List CP := [.d shStmt]
abbrev cpSz : List CP := [.d .str, .d .str, .d .str, .nil, .nil, .d .str, .nil, .nil, .d .str, .d shInt, .d shInt, .d .str, .d .str, .nil, .nil, .nil, .d .str, .d shInt, .d shInt, .d .str, .d .str, .nil, .d .str]
abbrev cpS3 : List CP := [.d .str, .d .str, .d .str, .d (.sl .str), .d (.sl shCol), .d .str, .d (.sl .str), .vec shRef, .d .expr, .d (.sl shVal), .nil, .d .expr, .d .str]
abbrev cpS7 : List CP := [.d .str, .d .str, .d .str, .d (.sl .str), .d (.sl shCol), .d .str, .d (.sl .str), .vec shRef, .d .expr, .d (.sl shVal), .vec shSet, .d .expr, .d .str]

abbrev kp21p : Nat → Keep := fun j => if j = 6 then { slots := [1, 2, 3, 4, 5], prom := [(3, some 11, .sl shVal)] } else { }
inductive H21p where
 | h6 (i4 : Int) (i5 : Int) (z0 : CSem cpR) (z1 : CSem cpRz) (z2 : CSem cpR2)
abbrev e21p : H21p → Nat × St
 | .h6 i4 i5 z0 z1 z2 => (6, ⟨tm 38 [(1, AV.ptr 0 0), (2, AV.ptr 1 0), (3, AV.ptr 2 0), (4, AV.int .i64 i4), (5, AV.int .i64 i5)], [AO.box (cpN [] cpR z0), AO.box (cpN [] cpRz z1), AO.box (cpN [3] cpR2 z2), AO.vec shVal.sl z2.2.1]⟩)
theorem ok21p : fnChk env58.P 21 Tryz.f21 1 := by refine ⟨?_, ?_, ?_, ?_⟩ <;> kernel_rfl
def i21pz (x0 : Sem shRel) (a0 : Sem shTable × List (Sem shVal.sl) × Unit) : Tr (H21p ⊕ Raw) :=
 Tr.br (decide ((↑(List.length x0.2) : Int) > 200)) (Tr.to (H21p.h6 201 0 (x0, ()) ([], 0, [], 0, 0, [], [], ()) a0))
 (Tr.to (H21p.h6 40 0 (x0, ()) ([], 0, [], 0, 0, [], [], ()) a0))
def i21p (x0 : Sem shRel) : Tr (H21p ⊕ Raw) :=
 let a0 := (tFew (x0.1.1, x0.1.2.1, x0.1.2.2.1, x0.1.2.2.2.1, x0.1.2.2.2.2.1, etaE x0.1.2.2.2.2.2), [], ())
 i21pz x0 a0
def t21p_6z (i4 : Int) (i5 : Int) (z0 : CSem cpR) (z1 : CSem cpRz) (z2 : CSem cpR2) (a0 : Int) (a1 : List (Sem shVal.sl)) : Tr (H21p ⊕ Raw) :=
 Tr.br (bif decide (i5 < a0) then decide (i5 < i4) else false)
 (Tr.chk (inB i5 (List.length z0.1.2))
  (Tr.chk (decide (z2.2.1.length + a1.length ≤ 1073741824)) (Tr.to (H21p.h6 i4 (IntKind.i64.wrap (i5 + 1)) z0 z1 (z2.1, z2.2.1 ++ a1, ())))))
 (Tr.re
  (AV.agg [AV.str z2.1.1, AV.sl shCol z2.1.2.1, AV.int .i64 z2.1.2.2.1, AV.sl shInt z2.1.2.2.2.1, AV.sl shFor z2.1.2.2.2.2.1, AV.str (ExprT.op z2.1.2.2.2.2.2), AV.int .i64 (ExprT.v z2.1.2.2.2.2.2).1, AV.int .i64 (ExprT.v z2.1.2.2.2.2.2).2.1, AV.str (ExprT.v z2.1.2.2.2.2.2).2.2, AV.str (ExprT.s z2.1.2.2.2.2.2), AV.sl Sh.expr (ExprT.l z2.1.2.2.2.2.2), AV.vec 0])
  [AO.vec shVal.sl z2.2.1])
def t21p_6 (i4 : Int) (i5 : Int) (z0 : CSem cpR) (z1 : CSem cpRz) (z2 : CSem cpR2) : Tr (H21p ⊕ Raw) :=
 let a0 := (↑(List.length z0.1.2) : Int)
 let a1 := [lFew2 (List.getD z0.1.2 i5.toNat (dflt shVal.sl))]
 t21p_6z i4 i5 z0 z1 z2 a0 a1
theorem go21p (x0 : Sem shRel) : run env58 0 kp21p (Func.results Tryz.f21).toList 400 (bodyOf Tryz.f21) (initSt (Func.ntmps Tryz.f21) [datum shRel x0] []) = (i21p x0).map (lf Tryz.f21 e21p) := by kernel_rfl
def t21p : H21p → Tr (H21p ⊕ Raw)
 | .h6 i4 i5 z0 z1 z2 => t21p_6 i4 i5 z0 z1 z2
theorem on21p : ∀ s, run env58 0 kp21p (Func.results Tryz.f21).toList 400 (headK Tryz.f21 (e21p s).1) (e21p s).2 = (t21p s).map (lf Tryz.f21 e21p)
 | .h6 i4 i5 z0 z1 z2 => by kernel_rfl
def l7FewO (x0 : Sem shRel) : Option (HArgs (List.map some [shRel])) := outT [shRel] t21p 100000000 (i21p x0)
def l7FewC (x0 : Sem shRel) : Bool := (l7FewO x0).isSome
def l7Few (x0 : Sem shRel) : Sem shRel := (fun r : HArgs (List.map some [shRel]) => r.1) ((l7FewO x0).getD (dfltH [shRel]))
def F21p : FSem := plainC [shRel] [shRel] (fun x => l7FewC x.1) fun x => (l7Few x.1, ())
theorem FOk21p : FOk env58.P env58.gl 21 F21p := FOk_T1 (ks := [shRel]) (outs := [shRel]) (keep := kp21p) (gas := 400) (n := 100000000) (e := e21p) (t := t21p) (i := fun x => i21p x.1) env58_all env58_mix ok21p (fun x => go21p x.1) on21p (fun _ => by kernel_rfl) (fun _ => by kernel_rfl)

abbrev kp8p : Nat → Keep := fun j => if j = 3 then { slots := [1, 2, 3, 4], prom := [(3, some 7, shRef)] } else if j = 7 then { slots := [1, 2, 3, 5], prom := [(3, some 15, shSet)] } else { }
inductive H8p where
 | h3 (i4 : Int) (z0 : CSem cpS) (z1 : CSem cpSz) (z2 : CSem cpS3)
 | h7 (i5 : Int) (z0 : CSem cpS) (z1 : CSem cpSz) (z2 : CSem cpS7)
abbrev e8p : H8p → Nat × St
 | .h3 i4 z0 z1 z2 => (3, ⟨tm 103 [(1, AV.ptr 0 0), (2, AV.ptr 1 0), (3, AV.ptr 2 0), (4, AV.int .i64 i4)], [AO.box (cpN [] cpS z0), AO.box (cpN [] cpSz z1), AO.box (cpN [3] cpS3 z2), AO.vec (Sh.str.pr Sh.str) z2.2.2.2.2.2.2.2.1]⟩)
 | .h7 i5 z0 z1 z2 => (7, ⟨tm 103 [(1, AV.ptr 0 0), (2, AV.ptr 1 0), (3, AV.ptr 2 0), (5, AV.int .i64 i5)], [AO.box (cpN [] cpS z0), AO.box (cpN [] cpSz z1), AO.box (cpN [3, 4] cpS7 z2), AO.vec (Sh.str.pr Sh.str) z2.2.2.2.2.2.2.2.1, AO.vec (Sh.str.pr Sh.expr) z2.2.2.2.2.2.2.2.2.2.2.1]⟩)
theorem ok8p : fnChk env58.P 8 Tryz.f8 1 := by refine ⟨?_, ?_, ?_, ?_⟩ <;> kernel_rfl
def i8p (x0 : Sem shStmt) : Tr (H8p ⊕ Raw) :=
 Tr.chk (l5TextC x0.1)
 (Tr.chk (l5TextC x0.2.1)
  (Tr.chk (l5TextC x0.2.2.1) (Tr.chk (l5TextC x0.2.2.2.2.2.1) (Tr.chk (l5TextC x0.2.2.2.2.2.2.2.2.2.2.2.2) (Tr.chk (l5NamesC x0.2.2.2.1) (Tr.chk (l5NamesC x0.2.2.2.2.2.2.1) (Tr.to (H8p.h3 0 (x0, ()) ([], [], [], [], [], 0, 0, [], [], [], 0, 0, [], [], [], ()) (l5Text x0.1, l5Text x0.2.1, l5Text x0.2.2.1, l5Names x0.2.2.2.1, lCols x0.2.2.2.2.1,
  l5Text x0.2.2.2.2.2.1, l5Names x0.2.2.2.2.2.2.1, [], eFew (etaE x0.2.2.2.2.2.2.2.2.1), lFew2 x0.2.2.2.2.2.2.2.2.2.1, eFew (etaE x0.2.2.2.2.2.2.2.2.2.2.2.1), l5Text x0.2.2.2.2.2.2.2.2.2.2.2.2, ())))))))))
def t8p_3z (i4 : Int) (z0 : CSem cpS) (z1 : CSem cpSz) (z2 : CSem cpS3) (a0 : Int) (a1 : Bool) (a2 : Sem shRef) (a3 : List (Sem (Sh.str.pr Sh.str))) : Tr (H8p ⊕ Raw) :=
 Tr.br (bif decide (i4 < a0) then decide (i4 < 10) else false)
 (Tr.chk a1
  (Tr.chk (l5TextC a2.1) (Tr.chk a1 (Tr.chk (l5TextC a2.2) (Tr.chk (decide (z2.2.2.2.2.2.2.2.1.length + a3.length ≤ 1073741824)) (Tr.to (H8p.h3 (IntKind.i64.wrap (i4 + 1)) z0 z1 (z2.1, z2.2.1, z2.2.2.1, z2.2.2.2.1, z2.2.2.2.2.1, z2.2.2.2.2.2.1, z2.2.2.2.2.2.2.1, z2.2.2.2.2.2.2.2.1 ++ a3, z2.2.2.2.2.2.2.2.2))))))))
 (Tr.to
  (H8p.h7 0 z0 z1 (z2.1, z2.2.1, z2.2.2.1, z2.2.2.2.1, z2.2.2.2.2.1, z2.2.2.2.2.2.1, z2.2.2.2.2.2.2.1, z2.2.2.2.2.2.2.2.1, z2.2.2.2.2.2.2.2.2.1, z2.2.2.2.2.2.2.2.2.2.1, [], z2.2.2.2.2.2.2.2.2.2.2)))
def t8p_3 (i4 : Int) (z0 : CSem cpS) (z1 : CSem cpSz) (z2 : CSem cpS3) : Tr (H8p ⊕ Raw) :=
 let a0 := (↑(List.length z0.1.2.2.2.2.2.2.2.1) : Int)
 let a1 := inB i4 (List.length z0.1.2.2.2.2.2.2.2.1)
 let a2 := List.getD z0.1.2.2.2.2.2.2.2.1 i4.toNat (dflt shRef)
 let a3 := [(l5Text a2.1, l5Text a2.2)]
 t8p_3z i4 z0 z1 z2 a0 a1 a2 a3
def t8p_7z (i5 : Int) (z0 : CSem cpS) (z1 : CSem cpSz) (z2 : CSem cpS7) (a0 : Int) (a1 : Bool) (a2 : Sem shSet) (a3 : List (Sem (Sh.str.pr Sh.expr))) : Tr (H8p ⊕ Raw) :=
 Tr.br (bif decide (i5 < a0) then decide (i5 < 10) else false)
 (Tr.chk a1
  (Tr.chk (l5TextC a2.1) (Tr.chk a1 (Tr.chk (decide (z2.2.2.2.2.2.2.2.2.2.2.1.length + a3.length ≤ 1073741824)) (Tr.to (H8p.h7 (IntKind.i64.wrap (i5 + 1)) z0 z1 (z2.1, z2.2.1, z2.2.2.1, z2.2.2.2.1, z2.2.2.2.2.1, z2.2.2.2.2.2.1, z2.2.2.2.2.2.2.1, z2.2.2.2.2.2.2.2.1, z2.2.2.2.2.2.2.2.2.1, z2.2.2.2.2.2.2.2.2.2.1, z2.2.2.2.2.2.2.2.2.2.2.1 ++ a3, z2.2.2.2.2.2.2.2.2.2.2.2)))))))
 (Tr.re
  (AV.agg [AV.str z2.1, AV.str z2.2.1, AV.str z2.2.2.1, AV.sl Sh.str z2.2.2.2.1, AV.sl shCol z2.2.2.2.2.1, AV.str z2.2.2.2.2.2.1, AV.sl Sh.str z2.2.2.2.2.2.2.1, AV.vec 0, AV.str (ExprT.op z2.2.2.2.2.2.2.2.2.1), AV.int .i64 (ExprT.v z2.2.2.2.2.2.2.2.2.1).1, AV.int .i64 (ExprT.v z2.2.2.2.2.2.2.2.2.1).2.1, AV.str (ExprT.v z2.2.2.2.2.2.2.2.2.1).2.2, AV.str (ExprT.s z2.2.2.2.2.2.2.2.2.1),
  AV.sl Sh.expr (ExprT.l z2.2.2.2.2.2.2.2.2.1), AV.sl shVal z2.2.2.2.2.2.2.2.2.2.1, AV.vec 1, AV.str (ExprT.op z2.2.2.2.2.2.2.2.2.2.2.2.1), AV.int .i64 (ExprT.v z2.2.2.2.2.2.2.2.2.2.2.2.1).1, AV.int .i64 (ExprT.v z2.2.2.2.2.2.2.2.2.2.2.2.1).2.1, AV.str (ExprT.v z2.2.2.2.2.2.2.2.2.2.2.2.1).2.2, AV.str (ExprT.s z2.2.2.2.2.2.2.2.2.2.2.2.1),
  AV.sl Sh.expr (ExprT.l z2.2.2.2.2.2.2.2.2.2.2.2.1), AV.str z2.2.2.2.2.2.2.2.2.2.2.2.2.1])
  [AO.vec (Sh.str.pr Sh.str) z2.2.2.2.2.2.2.2.1, AO.vec (Sh.str.pr Sh.expr) z2.2.2.2.2.2.2.2.2.2.2.1])
def t8p_7 (i5 : Int) (z0 : CSem cpS) (z1 : CSem cpSz) (z2 : CSem cpS7) : Tr (H8p ⊕ Raw) :=
 let a0 := (↑(List.length z0.1.2.2.2.2.2.2.2.2.2.2.1) : Int)
 let a1 := inB i5 (List.length z0.1.2.2.2.2.2.2.2.2.2.2.1)
 let a2 := List.getD z0.1.2.2.2.2.2.2.2.2.2.2.1 i5.toNat (dflt shSet)
 let a3 := [(l5Text a2.1, etaE (eFew (etaE a2.2)))]
 t8p_7z i5 z0 z1 z2 a0 a1 a2 a3
theorem go8p (x0 : Sem shStmt) : run env58 0 kp8p (Func.results Tryz.f8).toList 400 (bodyOf Tryz.f8) (initSt (Func.ntmps Tryz.f8) [datum shStmt x0] []) = (i8p x0).map (lf Tryz.f8 e8p) := by kernel_rfl
def t8p : H8p → Tr (H8p ⊕ Raw)
 | .h3 i4 z0 z1 z2 => t8p_3 i4 z0 z1 z2
 | .h7 i5 z0 z1 z2 => t8p_7 i5 z0 z1 z2
theorem on8p : ∀ s, run env58 0 kp8p (Func.results Tryz.f8).toList 400 (headK Tryz.f8 (e8p s).1) (e8p s).2 = (t8p s).map (lf Tryz.f8 e8p)
 | .h3 i4 z0 z1 z2 => by kernel_rfl
 | .h7 i5 z0 z1 z2 => by kernel_rfl
def l5FewO (x0 : Sem shStmt) : Option (HArgs (List.map some [shStmt])) := outT [shStmt] t8p 100000000 (i8p x0)
def l5FewC (x0 : Sem shStmt) : Bool := (l5FewO x0).isSome
def l5Few (x0 : Sem shStmt) : Sem shStmt := (fun r : HArgs (List.map some [shStmt]) => r.1) ((l5FewO x0).getD (dfltH [shStmt]))
def F8p : FSem := plainC [shStmt] [shStmt] (fun x => l5FewC x.1) fun x => (l5Few x.1, ())
theorem FOk8p : FOk env58.P env58.gl 8 F8p := FOk_T1 (ks := [shStmt]) (outs := [shStmt]) (keep := kp8p) (gas := 400) (n := 100000000) (e := e8p) (t := t8p) (i := fun x => i8p x.1) env58_all env58_mix ok8p (fun x => go8p x.1) on8p (fun _ => by kernel_rfl) (fun _ => by kernel_rfl)

def env70 : Env := ((env58.add 21 F21p).add 8 F8p)
theorem env70_all : EnvAll env70 := (EnvAll.addS (EnvAll.addS env58_all (SameE.refl env58) FOk21p) ((SameE.refl env58).add _ _) FOk8p)
theorem env70_mix : env70.P.follows .mixedOrders = true := (mix_add (mix_add env58_mix _ _) _ _)
end
open Go Go.Proofs
noncomputable section
set_option maxHeartbeats 4000000

abbrev kp7p : Nat → Keep := fun j => if j = 3 then { slots := [0, 3, 4], prom := [(3, none, shRel)] } else { }
inductive H7p where
 | h3 (l0 : List (Sem shRel)) (i4 : Int) (lh_0 : List (Sem shRel))
abbrev e7p : H7p → Nat × St
 | .h3 l0 i4 lh_0 => (3, ⟨tm 24 [(0, AV.sl shRel l0), (3, AV.vec 0), (4, AV.int .i64 i4)], [AO.vec shRel lh_0]⟩)
theorem ok7p : fnChk env70.P 7 Tryz.f7 1 := by refine ⟨?_, ?_, ?_, ?_⟩ <;> kernel_rfl
def i7p (x0 : Sem shRel.sl) : Tr (H7p ⊕ Raw) :=
 Tr.to (H7p.h3 x0 0 [])
def t7p_3z (l0 : List (Sem shRel)) (i4 : Int) (lh_0 : List (Sem shRel)) (_ : Sem shRel) (a1 : Sem shTable × Sem shVal.sl.sl) (_ : Sem shRel) (a3 : List (Sem shRel)) : Tr (H7p ⊕ Raw) :=
 Tr.br (bif decide (i4 < (↑l0.length : Int)) then decide (i4 < 13) else false)
 (Tr.chk (inB i4 l0.length)
  (Tr.chk (l7FewC a1) (Tr.chk (decide (lh_0.length + a3.length ≤ 1073741824)) (Tr.to (H7p.h3 l0 (IntKind.i64.wrap (i4 + 1)) (lh_0 ++ a3))))))
 (Tr.re (AV.vec 0)
  [AO.vec shRel lh_0])
def t7p_3 (l0 : List (Sem shRel)) (i4 : Int) (lh_0 : List (Sem shRel)) : Tr (H7p ⊕ Raw) :=
 let a0 := l0.getD i4.toNat (dflt shRel)
 let a1 := ((a0.1.1, a0.1.2.1, a0.1.2.2.1, a0.1.2.2.2.1, a0.1.2.2.2.2.1, etaE a0.1.2.2.2.2.2), a0.2)
 let a2 := l7Few a1
 let a3 := [((a2.1.1, a2.1.2.1, a2.1.2.2.1, a2.1.2.2.2.1, a2.1.2.2.2.2.1, etaE a2.1.2.2.2.2.2), a2.2)]
 t7p_3z l0 i4 lh_0 a0 a1 a2 a3
theorem go7p (x0 : Sem shRel.sl) : run env70 0 kp7p (Func.results Tryz.f7).toList 400 (bodyOf Tryz.f7) (initSt (Func.ntmps Tryz.f7) [datum shRel.sl x0] []) = (i7p x0).map (lf Tryz.f7 e7p) := by kernel_rfl
def t7p : H7p → Tr (H7p ⊕ Raw)
 | .h3 l0 i4 lh_0 => t7p_3 l0 i4 lh_0
theorem on7p : ∀ s, run env70 0 kp7p (Func.results Tryz.f7).toList 400 (headK Tryz.f7 (e7p s).1) (e7p s).2 = (t7p s).map (lf Tryz.f7 e7p)
 | .h3 l0 i4 lh_0 => by kernel_rfl
def l8FewO (x0 : Sem shRel.sl) : Option (HArgs (List.map some [shRel.sl])) := outT [shRel.sl] t7p 100000000 (i7p x0)
def l8FewC (x0 : Sem shRel.sl) : Bool := (l8FewO x0).isSome
def l8Few (x0 : Sem shRel.sl) : Sem shRel.sl := (fun r : HArgs (List.map some [shRel.sl]) => r.1) ((l8FewO x0).getD (dfltH [shRel.sl]))
def F7p : FSem := plainC [shRel.sl] [shRel.sl] (fun x => l8FewC x.1) fun x => (l8Few x.1, ())
theorem FOk7p : FOk env70.P env70.gl 7 F7p := FOk_T1 (ks := [shRel.sl]) (outs := [shRel.sl]) (keep := kp7p) (gas := 400) (n := 100000000) (e := e7p) (t := t7p) (i := fun x => i7p x.1) env70_all env70_mix ok7p (fun x => go7p x.1) on7p (fun _ => by kernel_rfl) (fun _ => by kernel_rfl)

def env71 : Env := (env70.add 7 F7p)
theorem env71_all : EnvAll env71 := (EnvAll.addS env70_all (SameE.refl env70) FOk7p)
theorem env71_mix : env71.P.follows .mixedOrders = true := (mix_add env70_mix _ _)
end
open Go Go.Proofs
noncomputable section
set_option maxHeartbeats 4000000

abbrev kp36p : Nat → Keep := fun j => if j = 3 then { slots := [0, 3, 14, 15, 16] } else if j = 11 then { slots := [0, 3, 55, 56, 57] } else { }
inductive H36p where
 | h3 (l14 : LS) (i15 : Int) (i16 : Int) (z0 : CSem cpMk) (jb0 : LS)
 | h11 (l55 : List (Sem shRel)) (i56 : Int) (i57 : Int) (z0 : CSem cpMk) (jb0 : LS)
abbrev e36p : H36p → Nat × St
 | .h3 l14 i15 i16 z0 jb0 => (3, ⟨tm 122 [(0, AV.ptr 0 0), (3, AV.ptr 1 0), (14, AV.sl Sh.str l14), (15, ai i15), (16, ai i16)], [AO.box (cpN [] cpMk z0), AO.box [AV.sl Sh.str jb0]]⟩)
 | .h11 l55 i56 i57 z0 jb0 => (11, ⟨tm 122 [(0, AV.ptr 0 0), (3, AV.ptr 1 0), (55, AV.sl shRel l55), (56, ai i56), (57, ai i57)], [AO.box (cpN [] cpMk z0), AO.box [AV.sl Sh.str jb0]]⟩)
theorem ok36p : fnChk env71.P 36 Tryz.f36 1 := by refine ⟨?_, ?_, ?_, ?_⟩ <;> kernel_rfl
def i36pz (y : CSem cpMk) (a0 : Sem Sh.str.sl) : Tr (H36p ⊕ Raw) := Tr.to (H36p.h3 a0 (↑(List.length a0) : Int) 0 y a0)
def i36p (y : CSem cpMk) : Tr (H36p ⊕ Raw) :=
 let a0 := pSources (y.2.2.2.2.1, y.2.2.2.2.2.1, y.2.2.2.2.2.2.1, (y.2.2.2.2.2.2.2.1, [], y.2.2.2.2.2.2.2.2.1, [], [], etaE y.2.2.2.2.2.2.2.2.2.1), [], y.2.2.2.2.2.2.2.2.2.2.1)
 i36pz y a0
def t36p_3z (l14 : LS) (i15 : Int) (i16 : Int) (z0 : CSem cpMk) (jb0 : LS) (a0 : Sem shInt) (a1 : Sem shInt) : Tr (H36p ⊕ Raw) := Tr.br (decide (i16 < i15)) (Tr.chk (inB i16 l14.length) (Tr.br (decide (a0 < 0)) (Tr.re (ai 6) (cpHeap cpMk z0)) (Tr.to (H36p.h3 l14 i15 (IntKind.i64.wrap (i16 + 1)) z0 jb0)))) (Tr.br (bif decide (a1 ≥ 0) then true else z0.2.2.2.2.2.1 == z0.2.2.2.2.2.2.1) (Tr.re (ai 7) (cpHeap cpMk z0)) (Tr.to (H36p.h11 z0.1 (↑(List.length z0.1) : Int) 0 z0 jb0)))
def t36p_3 (l14 : LS) (i15 : Int) (i16 : Int) (z0 : CSem cpMk) (jb0 : LS) : Tr (H36p ⊕ Raw) :=
 let a0 := bFind z0.1 (l14.getD i16.toNat (dflt Sh.str))
 let a1 := bFind z0.1 z0.2.1.2.1
 t36p_3z l14 i15 i16 z0 jb0 a0 a1
def t36p_11z (l55 : List (Sem shRel)) (i56 : Int) (i57 : Int) (z0 : CSem cpMk) (jb0 : LS) (a0 : Sem shRel) (a1 : Int) (a2 : Sem shInt) (a3 : Sem shInt) (a4 : Sem shRel) (a5 : Sem shRel) : Tr (H36p ⊕ Raw) := Tr.br (decide (i57 < i56)) (Tr.chk (inB i57 l55.length) (Tr.br (!hasStr jb0 a0.1.1) (Tr.br (decide (a1 ≥ 0)) (Tr.re (ai 10) (cpHeap cpMk z0)) (Tr.to (H36p.h11 l55 i56 (IntKind.i64.wrap (i57 + 1)) z0 jb0))) (Tr.to (H36p.h11 l55 i56 (IntKind.i64.wrap (i57 + 1)) z0 jb0)))) (Tr.chk (inB a2 (List.length z0.1)) (Tr.br (!z0.2.2.2.2.2.2.1 == []) (Tr.chk (inB a3 (List.length z0.1)) (Tr.re (ai 0) (cpHeap cpMk (z0.1, z0.2.1, a4.1, a5.1, z0.2.2.2.2)))) (Tr.re (ai 0) (cpHeap cpMk (z0.1, z0.2.1, a4.1, z0.2.2.2)))))
def t36p_11 (l55 : List (Sem shRel)) (i56 : Int) (i57 : Int) (z0 : CSem cpMk) (jb0 : LS) : Tr (H36p ⊕ Raw) :=
 let a0 := l55.getD i57.toNat (dflt shRel)
 let a1 := ixFrom (fun x => hasStr jb0 x.2) a0.1.2.2.2.2.1 0
 let a2 := bFind z0.1 z0.2.2.2.2.2.1
 let a3 := bFind z0.1 z0.2.2.2.2.2.2.1
 let a4 := List.getD z0.1 (Int.toNat a2) (dflt shRel)
 let a5 := List.getD z0.1 (Int.toNat a3) (dflt shRel)
 t36p_11z l55 i56 i57 z0 jb0 a0 a1 a2 a3 a4 a5
theorem go36p (y : CSem cpMk) : run env71 1 kp36p (Func.results Tryz.f36).toList 400 (bodyOf Tryz.f36) (initSt (Func.ntmps Tryz.f36) [AV.ptr 0 0] (cpHeap cpMk y)) = (i36p y).map (lf Tryz.f36 e36p) := by kernel_rfl
def t36p : H36p → Tr (H36p ⊕ Raw)
 | .h3 l14 i15 i16 z0 jb0 => t36p_3 l14 i15 i16 z0 jb0
 | .h11 l55 i56 i57 z0 jb0 => t36p_11 l55 i56 i57 z0 jb0
theorem on36p : ∀ s, run env71 1 kp36p (Func.results Tryz.f36).toList 400 (headK Tryz.f36 (e36p s).1) (e36p s).2 = (t36p s).map (lf Tryz.f36 e36p) | .h3 l14 i15 i16 z0 jb0 => by kernel_rfl | .h11 l55 i56 i57 z0 jb0 => by kernel_rfl
def mSourcesO (y : CSem cpMk) : Option (HArgs (List.map some [shInt]) × CSem cpMk) := outB [shInt] cpMk t36p 100000000 (i36p y)
def mSourcesC (y : CSem cpMk) : Bool := (mSourcesO y).isSome
def mSources (y : CSem cpMk) : (Sem shInt) × CSem cpMk := (fun r : HArgs (List.map some [shInt]) × CSem cpMk => (r.1.1, r.2)) ((mSourcesO y).getD (dfltH [shInt], dfltC cpMk))
def F36p : FSem := boxF cpMk [] [shInt] cpMk (fun y _ => mSourcesC y) fun y _ => (((mSources y).1, ()), (mSources y).2)
theorem FOk36p : FOk env71.P env71.gl 36 F36p := FOk_B1 (keep := kp36p) (gas := 400) (n := 100000000) (e := e36p) (t := t36p) (i := fun y x => i36p y) env71_all env71_mix ok36p (fun y x => go36p y) on36p (fun _ _ => by kernel_rfl) (fun _ _ => by kernel_rfl)

def env59 : Env := (env71.add 36 F36p)
theorem env59_all : EnvAll env59 := (EnvAll.addS env71_all (SameE.refl env71) FOk36p)
theorem env59_mix : env59.P.follows .mixedOrders = true := (mix_add env71_mix _ _)
end
open Go Go.Proofs
noncomputable section
set_option maxHeartbeats 4000000
abbrev cpMk2 : List CP := [.d (.sl shRel), .d shStmt, .d shTable, .d shTable, .d .str, .d .str, .d .str, .d .str, .vec shCol, .d shInt, .nil, .nil, .d .expr, .vec shInt, .d shInt]

abbrev kp66p : Nat → Keep := fun j => if j = 3 then { slots := [1, 3, 14, 15, 16, 0], prom := [(0, some 60, .int .i64), (0, some 50, shCol)] } else if j = 12 then { slots := [1, 63, 64, 65, 0] } else if j = 1000000 then { sett := [(0, 60)] } else { }
inductive H66p where
 | h3 (l14 : LS) (i15 : Int) (i16 : Int) (z0 : CSem cpMk2)
 | h12 (i64 : Int) (i65 : Int) (z0 : CSem cpMk2)
 | h12b (i64 : Int) (i65 : Int) (z0 : CSem cpMk2)
abbrev e66p : H66p → Nat × St
 | .h3 l14 i15 i16 z0 => (3, ⟨tm 80 [(0, AV.ptr 0 0), (1, AV.ptr 1 0), (3, AV.clo (Fn.func 115) [] [AV.ptr 1 0]), (14, AV.sl Sh.str l14), (15, ai i15), (16, ai i16)], [AO.box (cpN [2, 3] cpMk2 z0), AO.box [AV.ptr 0 0], AO.vec shCol z0.2.2.2.2.2.2.2.2.1, AO.vec shInt z0.2.2.2.2.2.2.2.2.2.2.2.1]⟩)
 | .h12 i64 i65 z0 => (12, ⟨tm 80 [(0, AV.ptr 0 0), (1, AV.ptr 1 0), (63, AV.vec 2), (64, ai i64), (65, ai i65)], [AO.box (cpN [3, 2] cpMk2 z0), AO.box [AV.ptr 0 0], AO.vec shInt z0.2.2.2.2.2.2.2.2.2.2.2.1, AO.vec shCol z0.2.2.2.2.2.2.2.2.1]⟩)
 | .h12b i64 i65 z0 => (12, ⟨tm 80 [(0, AV.ptr 0 0), (1, AV.ptr 1 0), (63, AV.vec 2), (64, ai i64), (65, ai i65)], [AO.box (cpN [3, 2] cpMk2 z0), AO.box [AV.ptr 0 0], AO.frz shInt z0.2.2.2.2.2.2.2.2.2.2.2.1, AO.vec shCol z0.2.2.2.2.2.2.2.2.1]⟩)
theorem ok66p : fnChk env59.P 66 Tryz.f66 1 := by refine ⟨?_, ?_, ?_, ?_⟩ <;> kernel_rfl
def i66p (y : CSem cpMk) : Tr (H66p ⊕ Raw) := Tr.to (H66p.h3 y.2.1.2.2.2.1 (↑(List.length y.2.1.2.2.2.1) : Int) 0 (y.1, y.2.1, y.2.2.1, y.2.2.2.1, y.2.2.2.2.1, y.2.2.2.2.2.1, y.2.2.2.2.2.2.1, y.2.2.2.2.2.2.2.1, [], y.2.2.2.2.2.2.2.2.1, y.2.2.2.2.2.2.2.2.2.1, [], y.2.2.2.2.2.2.2.2.2.2))
def t66p_3z (l14 : LS) (i15 : Int) (i16 : Int) (z0 : CSem cpMk2) (a0 : Sem shInt) (a1 : LI) (a2 : LC) : Tr (H66p ⊕ Raw) := Tr.br (decide (i16 < i15)) (Tr.chk (inB i16 l14.length) (Tr.br (decide (a0 < 0)) (Tr.re (ai 4) (cpHeap cpMk3 z0)) (Tr.chk (decide (z0.2.2.2.2.2.2.2.2.2.2.2.1.length + a1.length ≤ 1073741824)) (Tr.chk (inB a0 (List.length z0.2.2.1.2.1)) (Tr.chk (decide (z0.2.2.2.2.2.2.2.2.1.length + a2.length ≤ 1073741824)) (Tr.to (H66p.h3 l14 i15 (IntKind.i64.wrap (i16 + 1)) (z0.1, z0.2.1, z0.2.2.1, z0.2.2.2.1, z0.2.2.2.2.1, z0.2.2.2.2.2.1, z0.2.2.2.2.2.2.1, z0.2.2.2.2.2.2.2.1, z0.2.2.2.2.2.2.2.2.1 ++ a2, z0.2.2.2.2.2.2.2.2.2.1, z0.2.2.2.2.2.2.2.2.2.2.1, z0.2.2.2.2.2.2.2.2.2.2.2.1 ++ a1, z0.2.2.2.2.2.2.2.2.2.2.2.2)))))))) (Tr.to (H66p.h12 (↑z0.2.2.2.2.2.2.2.2.2.2.2.1.length : Int) 0 z0))
def t66p_3 (l14 : LS) (i15 : Int) (i16 : Int) (z0 : CSem cpMk2) : Tr (H66p ⊕ Raw) :=
 let a0 := tPlace (z0.2.2.1.1, z0.2.2.1.2.1, z0.2.2.1.2.2.1, z0.2.2.1.2.2.2.1, z0.2.2.1.2.2.2.2.1, etaE z0.2.2.1.2.2.2.2.2) (l14.getD i16.toNat (dflt Sh.str))
 let a1 := [a0]
 let a2 := [List.getD z0.2.2.1.2.1 (Int.toNat a0) (dflt shCol)]
 t66p_3z l14 i15 i16 z0 a0 a1 a2
def t66p_12z (i64 : Int) (i65 : Int) (z0 : CSem cpMk2) (a0 : Int) : Tr (H66p ⊕ Raw) := Tr.br (decide (i65 < i64)) (Tr.chk (inB i65 z0.2.2.2.2.2.2.2.2.2.2.2.1.length) (Tr.chk (decide (i65.toNat < z0.2.2.2.2.2.2.2.2.2.2.2.1.length)) (Tr.chk (decide (0 ≤ 0) && decide (0 ≤ i65) && decide (i65 ≤ a0)) (Tr.br (hasInt (List.take (i65.toNat - Int.toNat 0) (List.drop (Int.toNat 0) z0.2.2.2.2.2.2.2.2.2.2.2.1)) (z0.2.2.2.2.2.2.2.2.2.2.2.1.getD i65.toNat (dflt shInt))) (Tr.re (ai 7) (cpHeap cpMk3 z0)) (Tr.to (H66p.h12b i64 (IntKind.i64.wrap (i65 + 1)) z0)))))) (Tr.re (ai 0) (cpHeap cpMk3 z0))
def t66p_12 (i64 : Int) (i65 : Int) (z0 : CSem cpMk2) : Tr (H66p ⊕ Raw) :=
 let a0 := (↑z0.2.2.2.2.2.2.2.2.2.2.2.1.length : Int)
 t66p_12z i64 i65 z0 a0
def t66p_12bz (i64 : Int) (i65 : Int) (z0 : CSem cpMk2) (a0 : Int) : Tr (H66p ⊕ Raw) := Tr.br (decide (i65 < i64)) (Tr.chk (inB i65 z0.2.2.2.2.2.2.2.2.2.2.2.1.length) (Tr.chk (decide (0 ≤ 0) && decide (0 ≤ i65) && decide (i65 ≤ a0)) (Tr.br (hasInt (List.take (i65.toNat - Int.toNat 0) (List.drop (Int.toNat 0) z0.2.2.2.2.2.2.2.2.2.2.2.1)) (z0.2.2.2.2.2.2.2.2.2.2.2.1.getD i65.toNat (dflt shInt))) (Tr.re (ai 7) (cpHeap cpMk3 z0)) (Tr.to (H66p.h12b i64 (IntKind.i64.wrap (i65 + 1)) z0))))) (Tr.re (ai 0) (cpHeap cpMk3 z0))
def t66p_12b (i64 : Int) (i65 : Int) (z0 : CSem cpMk2) : Tr (H66p ⊕ Raw) :=
 let a0 := (↑z0.2.2.2.2.2.2.2.2.2.2.2.1.length : Int)
 t66p_12bz i64 i65 z0 a0
theorem go66p (y : CSem cpMk) : run env59 1 kp66p (Func.results Tryz.f66).toList 400 (bodyOf Tryz.f66) (initSt (Func.ntmps Tryz.f66) [AV.ptr 0 0] (cpHeap cpMk y)) = (i66p y).map (lf Tryz.f66 e66p) := by kernel_rfl
def t66p : H66p → Tr (H66p ⊕ Raw)
 | .h3 l14 i15 i16 z0 => t66p_3 l14 i15 i16 z0
 | .h12 i64 i65 z0 => t66p_12 i64 i65 z0
 | .h12b i64 i65 z0 => t66p_12b i64 i65 z0
theorem on66p : ∀ s, run env59 1 kp66p (Func.results Tryz.f66).toList 400 (headK Tryz.f66 (e66p s).1) (e66p s).2 = (t66p s).map (lf Tryz.f66 e66p) | .h3 l14 i15 i16 z0 => by kernel_rfl | .h12 i64 i65 z0 => by kernel_rfl | .h12b i64 i65 z0 => by kernel_rfl
def mNamedO (y : CSem cpMk) : Option (HArgs (List.map some [shInt]) × CSem cpMk3) := outB [shInt] cpMk3 t66p 100000000 (i66p y)
def mNamedC (y : CSem cpMk) : Bool := (mNamedO y).isSome
def mNamed (y : CSem cpMk) : (Sem shInt) × CSem cpMk3 := (fun r : HArgs (List.map some [shInt]) × CSem cpMk3 => (r.1.1, r.2)) ((mNamedO y).getD (dfltH [shInt], dfltC cpMk3))
def F66p : FSem := boxF cpMk [] [shInt] cpMk3 (fun y _ => mNamedC y) fun y _ => (((mNamed y).1, ()), (mNamed y).2)
theorem FOk66p : FOk env59.P env59.gl 66 F66p := FOk_B1 (ps := cpMk) (ks := []) (outs := [shInt]) (keep := kp66p) (gas := 400) (n := 100000000) (e := e66p) (t := t66p) (i := fun y x => i66p y) env59_all env59_mix ok66p (fun y x => go66p y) on66p (fun _ _ => by kernel_rfl) (fun _ _ => by kernel_rfl)

def env60 : Env := (env59.add 66 F66p)
theorem env60_all : EnvAll env60 := (EnvAll.addS env59_all (SameE.refl env59) FOk66p)
theorem env60_mix : env60.P.follows .mixedOrders = true := (mix_add env59_mix _ _)
end
open Go Go.Proofs
noncomputable section
set_option maxHeartbeats 4000000

abbrev etaM (y : CSem cpMk) : CSem cpMk := (y.1, (y.2.1.1, y.2.1.2.1, y.2.1.2.2.1, y.2.1.2.2.2.1, y.2.1.2.2.2.2.1, y.2.1.2.2.2.2.2.1, y.2.1.2.2.2.2.2.2.1, y.2.1.2.2.2.2.2.2.2.1, etaE y.2.1.2.2.2.2.2.2.2.2.1, y.2.1.2.2.2.2.2.2.2.2.2.1, y.2.1.2.2.2.2.2.2.2.2.2.2.1, etaE y.2.1.2.2.2.2.2.2.2.2.2.2.2.1, y.2.1.2.2.2.2.2.2.2.2.2.2.2.2), (y.2.2.1.1, y.2.2.1.2.1, y.2.2.1.2.2.1, y.2.2.1.2.2.2.1, y.2.2.1.2.2.2.2.1, etaE y.2.2.1.2.2.2.2.2), (y.2.2.2.1.1, y.2.2.2.1.2.1, y.2.2.2.1.2.2.1, y.2.2.2.1.2.2.2.1, y.2.2.2.1.2.2.2.2.1, etaE y.2.2.2.1.2.2.2.2.2), y.2.2.2.2.1, y.2.2.2.2.2.1, y.2.2.2.2.2.2.1, y.2.2.2.2.2.2.2.1, y.2.2.2.2.2.2.2.2.1, etaE y.2.2.2.2.2.2.2.2.2.1, y.2.2.2.2.2.2.2.2.2.2.1, ())
abbrev etaM3 (y : CSem cpMk3) : CSem cpMk3 := (y.1, (y.2.1.1, y.2.1.2.1, y.2.1.2.2.1, y.2.1.2.2.2.1, y.2.1.2.2.2.2.1, y.2.1.2.2.2.2.2.1, y.2.1.2.2.2.2.2.2.1, y.2.1.2.2.2.2.2.2.2.1, etaE y.2.1.2.2.2.2.2.2.2.2.1, y.2.1.2.2.2.2.2.2.2.2.2.1, y.2.1.2.2.2.2.2.2.2.2.2.2.1, etaE y.2.1.2.2.2.2.2.2.2.2.2.2.2.1, y.2.1.2.2.2.2.2.2.2.2.2.2.2.2), (y.2.2.1.1, y.2.2.1.2.1, y.2.2.1.2.2.1, y.2.2.1.2.2.2.1, y.2.2.1.2.2.2.2.1, etaE y.2.2.1.2.2.2.2.2), (y.2.2.2.1.1, y.2.2.2.1.2.1, y.2.2.2.1.2.2.1, y.2.2.2.1.2.2.2.1, y.2.2.2.1.2.2.2.2.1, etaE y.2.2.2.1.2.2.2.2.2), y.2.2.2.2.1, y.2.2.2.2.2.1, y.2.2.2.2.2.2.1, y.2.2.2.2.2.2.2.1, y.2.2.2.2.2.2.2.2.1, y.2.2.2.2.2.2.2.2.2.1, etaE y.2.2.2.2.2.2.2.2.2.2.1, y.2.2.2.2.2.2.2.2.2.2.2.1, y.2.2.2.2.2.2.2.2.2.2.2.2.1, ())

abbrev kp30p : Nat → Keep := fun _ => { }
theorem ok30p : fnChk env60.P 30 Tryz.f30 1 := by refine ⟨?_, ?_, ?_, ?_⟩ <;> kernel_rfl
def i30pz (_ : CSem cpMk) (a0 : Sem shRel.sl × CSem [CP.d shStmt, CP.d shTable, CP.d shTable, CP.d Sh.str, CP.d Sh.str, CP.d Sh.str, CP.d Sh.str, CP.nil, CP.d shInt, CP.nil, CP.nil, CP.d Sh.expr, CP.nil, CP.d shInt]) (a1 : Sem shInt × CSem cpMk3) (a2 : Sem shInt) : Tr (Empty ⊕ Raw) := Tr.chk (mNamedC a0) (Tr.br (a1.1 != 0) (Tr.re (ai a1.1) (cpHeap cpMk3 a1.2)) (Tr.br (decide (a2 < 0)) (Tr.re (ai 1) (cpHeap cpMk3 (a1.2.1, a1.2.2.1, a1.2.2.2.1, a1.2.2.2.2.1, a1.2.2.2.2.2.1, a1.2.2.2.2.2.2.1, a1.2.2.2.2.2.2.2.1, a1.2.2.2.2.2.2.2.2.1, a1.2.2.2.2.2.2.2.2.2.1, a2, a1.2.2.2.2.2.2.2.2.2.2.2))) (Tr.re (ai 0) (cpHeap cpMk3 (a1.2.1, a1.2.2.1, a1.2.2.2.1, a1.2.2.2.2.1, a1.2.2.2.2.2.1, a1.2.2.2.2.2.2.1, a1.2.2.2.2.2.2.2.1, a1.2.2.2.2.2.2.2.2.1, a1.2.2.2.2.2.2.2.2.2.1, a2, a1.2.2.2.2.2.2.2.2.2.2.2)))))
def i30p (y : CSem cpMk) : Tr (Empty ⊕ Raw) :=
 let a0 := etaM y
 let a1 := mNamed a0
 let a2 := ixInt a1.2.2.2.2.2.2.2.2.2.2.2.2.1 a1.2.2.2.1.2.2.1
 i30pz y a0 a1 a2
theorem go30p (y : CSem cpMk) : run env60 1 kp30p (Func.results Tryz.f30).toList 400 (bodyOf Tryz.f30) (initSt (Func.ntmps Tryz.f30) [AV.ptr 0 0] (cpHeap cpMk y)) = (i30p y).map (lf Tryz.f30 e0) := by kernel_rfl
def mCopyO (y : CSem cpMk) : Option (HArgs (List.map some [shInt]) × CSem cpMk3) := outB [shInt] cpMk3 t0 100000000 (i30p y)
def mCopyC (y : CSem cpMk) : Bool := (mCopyO y).isSome
def mCopy (y : CSem cpMk) : (Sem shInt) × CSem cpMk3 := (fun r : HArgs (List.map some [shInt]) × CSem cpMk3 => (r.1.1, r.2)) ((mCopyO y).getD (dfltH [shInt], dfltC cpMk3))
def F30p : FSem := boxF cpMk [] [shInt] cpMk3 (fun y _ => mCopyC y) fun y _ => (((mCopy y).1, ()), (mCopy y).2)
theorem FOk30p : FOk env60.P env60.gl 30 F30p := FOk_B1 (keep := kp30p) (gas := 400) (n := 100000000) (e := e0) (t := t0) (i := fun y x => i30p y) env60_all env60_mix ok30p (fun y x => go30p y) (on0 _ _ _ _ _) (fun _ _ => by kernel_rfl) (fun _ _ => by kernel_rfl)

abbrev kp32p : Nat → Keep := fun _ => { }
theorem ok32p : fnChk env60.P 32 Tryz.f32 1 := by refine ⟨?_, ?_, ?_, ?_⟩ <;> kernel_rfl
def i32pz (_ : CSem cpMk) (a0 : Sem shRel.sl × CSem [CP.d shStmt, CP.d shTable, CP.d shTable, CP.d Sh.str, CP.d Sh.str, CP.d Sh.str, CP.d Sh.str, CP.nil, CP.d shInt, CP.nil, CP.nil, CP.d Sh.expr, CP.nil, CP.d shInt]) (a1 : Sem shInt × CSem cpMk3) (a2 : Sem shCol) (_ : Sem shCol) (a4 : LC) (a5 : Sem shCol) : Tr (Empty ⊕ Raw) := Tr.chk (mNamedC a0) (Tr.br (a1.1 != 0) (Tr.re (ai a1.1) (cpHeap cpMk3 a1.2)) (Tr.chk (inB 1 a1.2.2.2.2.2.2.2.2.2.1.length) (Tr.chk (decide (Int.toNat 1 < a1.2.2.2.2.2.2.2.2.2.1.length)) (Tr.br (a2.2.1 != 1) (Tr.re (ai 5) (cpHeap cpMk3 a1.2)) (Tr.chk (inB 0 a1.2.2.2.2.2.2.2.2.2.1.length) (Tr.chk (decide (Int.toNat 0 < a1.2.2.2.2.2.2.2.2.2.1.length)) (Tr.chk (inB 1 a4.length) (Tr.chk (decide (Int.toNat 1 < a4.length)) (Tr.re (ai 0) (cpHeap cpMk3 (a1.2.1, a1.2.2.1, a1.2.2.2.1, a1.2.2.2.2.1, a1.2.2.2.2.2.1, a1.2.2.2.2.2.2.1, a1.2.2.2.2.2.2.2.1, a1.2.2.2.2.2.2.2.2.1, a4.set (Int.toNat 1) (a5.1, a5.2.1, false), a1.2.2.2.2.2.2.2.2.2.2)))))))))))
def i32p (y : CSem cpMk) : Tr (Empty ⊕ Raw) :=
 let a0 := etaM y
 let a1 := mNamed a0
 let a2 := a1.2.2.2.2.2.2.2.2.2.1.getD (Int.toNat 1) (dflt shCol)
 let a3 := a1.2.2.2.2.2.2.2.2.2.1.getD (Int.toNat 0) (dflt shCol)
 let a4 := a1.2.2.2.2.2.2.2.2.2.1.set (Int.toNat 0) (a3.1, a3.2.1, true)
 let a5 := a4.getD (Int.toNat 1) (dflt shCol)
 i32pz y a0 a1 a2 a3 a4 a5
theorem go32p (y : CSem cpMk) : run env60 1 kp32p (Func.results Tryz.f32).toList 400 (bodyOf Tryz.f32) (initSt (Func.ntmps Tryz.f32) [AV.ptr 0 0] (cpHeap cpMk y)) = (i32p y).map (lf Tryz.f32 e0) := by kernel_rfl
def mGroupO (y : CSem cpMk) : Option (HArgs (List.map some [shInt]) × CSem cpMk3) := outB [shInt] cpMk3 t0 100000000 (i32p y)
def mGroupC (y : CSem cpMk) : Bool := (mGroupO y).isSome
def mGroup (y : CSem cpMk) : (Sem shInt) × CSem cpMk3 := (fun r : HArgs (List.map some [shInt]) × CSem cpMk3 => (r.1.1, r.2)) ((mGroupO y).getD (dfltH [shInt], dfltC cpMk3))
def F32p : FSem := boxF cpMk [] [shInt] cpMk3 (fun y _ => mGroupC y) fun y _ => (((mGroup y).1, ()), (mGroup y).2)
theorem FOk32p : FOk env60.P env60.gl 32 F32p := FOk_B1 (keep := kp32p) (gas := 400) (n := 100000000) (e := e0) (t := t0) (i := fun y x => i32p y) env60_all env60_mix ok32p (fun y x => go32p y) (on0 _ _ _ _ _) (fun _ _ => by kernel_rfl) (fun _ _ => by kernel_rfl)

def env61 : Env := ((env60.add 30 F30p).add 32 F32p)
theorem env61_all : EnvAll env61 := (EnvAll.addS (EnvAll.addS env60_all (SameE.refl env60) FOk30p) ((SameE.refl env60).add _ _) FOk32p)
theorem env61_mix : env61.P.follows .mixedOrders = true := (mix_add (mix_add env60_mix _ _) _ _)
end
open Go Go.Proofs
noncomputable section
set_option maxHeartbeats 4000000

abbrev kp31p : Nat → Keep := fun j => if j = 11 then { slots := [0, 83, 84, 85], prom := [(0, some 60, .int .i64)] } else if j = 1000000 then { prom := [(0, some 50, shCol), (0, some 60, .int .i64)], sett := [(0, 60)] } else { }
inductive H31p where
 | h11 (l83 : LC) (i84 : Int) (i85 : Int) (z0 : CSem cpMk2)
abbrev e31p : H31p → Nat × St
 | .h11 l83 i84 i85 z0 => (11, ⟨tm 124 [(0, AV.ptr 0 0), (83, AV.sl shCol l83), (84, ai i84), (85, ai i85)], [AO.box (cpN [1, 2] cpMk2 z0), AO.vec shCol z0.2.2.2.2.2.2.2.2.1, AO.vec shInt z0.2.2.2.2.2.2.2.2.2.2.2.1]⟩)
theorem ok31p : fnChk env61.P 31 Tryz.f31 1 := by refine ⟨?_, ?_, ?_, ?_⟩ <;> kernel_rfl
def i31pz (y : CSem cpMk) (a0 : Sem shInt) (a1 : Sem Sh.expr × List (Sem shInt) × Sem shInt × Unit) (a2 : Int) (a3 : Int) : Tr (H31p ⊕ Raw) := Tr.br (decide (a0 < 0)) (Tr.re (ai 4) (cpHeap cpMk3 (y.1, y.2.1, y.2.2.1, y.2.2.2.1, y.2.2.2.2.1, y.2.2.2.2.2.1, y.2.2.2.2.2.2.1, y.2.2.2.2.2.2.2.1, [], y.2.2.2.2.2.2.2.2.1, a1))) (Tr.br (!hasFor y.2.2.1.2.2.2.2.1 (a0, y.2.2.2.2.2.2.1)) (Tr.re (ai 10) (cpHeap cpMk3 (y.1, y.2.1, y.2.2.1, y.2.2.2.1, y.2.2.2.2.1, y.2.2.2.2.2.1, y.2.2.2.2.2.2.1, y.2.2.2.2.2.2.2.1, [], y.2.2.2.2.2.2.2.2.1, a1))) (Tr.br (decide (a3 > 8)) (Tr.re (ai 13) (cpHeap cpMk3 (y.1, y.2.1, y.2.2.1, y.2.2.2.1, y.2.2.2.2.1, y.2.2.2.2.2.1, y.2.2.2.2.2.2.1, y.2.2.2.2.2.2.2.1, [], y.2.2.2.2.2.2.2.2.1, a1))) (Tr.chk (decide (List.length y.2.2.1.2.1 ≤ 1073741824)) (Tr.to (H31p.h11 y.2.2.2.1.2.1 a2 0 (y.1, y.2.1, y.2.2.1, y.2.2.2.1, y.2.2.2.2.1, y.2.2.2.2.2.1, y.2.2.2.2.2.2.1, y.2.2.2.2.2.2.2.1, y.2.2.1.2.1, y.2.2.1.2.2.1, a1))))))
def i31p (y : CSem cpMk) : Tr (H31p ⊕ Raw) :=
 let a0 := tPlace (y.2.2.1.1, y.2.2.1.2.1, y.2.2.1.2.2.1, y.2.2.1.2.2.2.1, y.2.2.1.2.2.2.2.1, etaE y.2.2.1.2.2.2.2.2) y.2.1.2.2.2.2.2.1
 let a1 := (y.2.2.2.2.2.2.2.2.2.1, [], a0, ())
 let a2 := (↑(List.length y.2.2.2.1.2.1) : Int)
 let a3 := IntKind.i64.wrap (IntKind.i64.wrap ((↑(List.length y.2.2.1.2.1) : Int) + a2) - 1)
 i31pz y a0 a1 a2 a3
def t31p_11z (l83 : LC) (i84 : Int) (i85 : Int) (z0 : CSem cpMk2) (a0 : LC) (a1 : Int) : Tr (H31p ⊕ Raw) := Tr.br (decide (i85 < i84)) (Tr.chk (inB i85 l83.length) (Tr.br (i85 != z0.2.2.2.1.2.2.1) (Tr.chk (decide (z0.2.2.2.2.2.2.2.2.2.2.2.1.length + [i85].length ≤ 1073741824)) (Tr.chk (decide (z0.2.2.2.2.2.2.2.2.1.length + a0.length ≤ 1073741824)) (Tr.to (H31p.h11 l83 i84 a1 (z0.1, z0.2.1, z0.2.2.1, z0.2.2.2.1, z0.2.2.2.2.1, z0.2.2.2.2.2.1, z0.2.2.2.2.2.2.1, z0.2.2.2.2.2.2.2.1, z0.2.2.2.2.2.2.2.2.1 ++ a0, z0.2.2.2.2.2.2.2.2.2.1, z0.2.2.2.2.2.2.2.2.2.2.1, z0.2.2.2.2.2.2.2.2.2.2.2.1 ++ [i85], z0.2.2.2.2.2.2.2.2.2.2.2.2))))) (Tr.to (H31p.h11 l83 i84 a1 z0)))) (Tr.re (ai 0) (cpHeap cpMk3 z0))
def t31p_11 (l83 : LC) (i84 : Int) (i85 : Int) (z0 : CSem cpMk2) : Tr (H31p ⊕ Raw) :=
 let a0 := [l83.getD i85.toNat (dflt shCol)]
 let a1 := IntKind.i64.wrap (i85 + 1)
 t31p_11z l83 i84 i85 z0 a0 a1
theorem go31p (y : CSem cpMk) : run env61 1 kp31p (Func.results Tryz.f31).toList 400 (bodyOf Tryz.f31) (initSt (Func.ntmps Tryz.f31) [AV.ptr 0 0] (cpHeap cpMk y)) = (i31p y).map (lf Tryz.f31 e31p) := by kernel_rfl
def t31p : H31p → Tr (H31p ⊕ Raw)
 | .h11 l83 i84 i85 z0 => t31p_11 l83 i84 i85 z0
theorem on31p : ∀ s, run env61 1 kp31p (Func.results Tryz.f31).toList 400 (headK Tryz.f31 (e31p s).1) (e31p s).2 = (t31p s).map (lf Tryz.f31 e31p) | .h11 l83 i84 i85 z0 => by kernel_rfl
def mJoinO (y : CSem cpMk) : Option (HArgs (List.map some [shInt]) × CSem cpMk3) := outB [shInt] cpMk3 t31p 100000000 (i31p y)
def mJoinC (y : CSem cpMk) : Bool := (mJoinO y).isSome
def mJoin (y : CSem cpMk) : (Sem shInt) × CSem cpMk3 := (fun r : HArgs (List.map some [shInt]) × CSem cpMk3 => (r.1.1, r.2)) ((mJoinO y).getD (dfltH [shInt], dfltC cpMk3))
def F31p : FSem := boxF cpMk [] [shInt] cpMk3 (fun y _ => mJoinC y) fun y _ => (((mJoin y).1, ()), (mJoin y).2)
theorem FOk31p : FOk env61.P env61.gl 31 F31p := FOk_B1 (keep := kp31p) (gas := 400) (n := 100000000) (e := e31p) (t := t31p) (i := fun y x => i31p y) env61_all env61_mix ok31p (fun y x => go31p y) on31p (fun _ _ => by kernel_rfl) (fun _ _ => by kernel_rfl)

def env62 : Env := (env61.add 31 F31p)
theorem env62_all : EnvAll env62 := (EnvAll.addS env61_all (SameE.refl env61) FOk31p)
theorem env62_mix : env62.P.follows .mixedOrders = true := (mix_add env61_mix _ _)
end
open Go Go.Proofs
noncomputable section
set_option maxHeartbeats 4000000

abbrev nilAV : AV := AV.agg [AV.str [], AV.str [], AV.str [], AV.str [], AV.nils, ai 0, AV.nils, AV.nils, AV.str [], ai 0, ai 0, AV.str [], AV.str [], AV.nils, AV.nils, ai 0]
abbrev planAV (z : CSem cpMk3) : AV := AV.agg [AV.str z.2.2.2.2.1, AV.str z.2.2.2.2.2.1, AV.str z.2.2.2.2.2.2.1, AV.str z.2.2.2.2.2.2.2.1, AV.vec 0, ai z.2.2.2.2.2.2.2.2.2.1, AV.nils, AV.nils, AV.str (ExprT.op z.2.2.2.2.2.2.2.2.2.2.1), ai (ExprT.v z.2.2.2.2.2.2.2.2.2.2.1).1, ai (ExprT.v z.2.2.2.2.2.2.2.2.2.2.1).2.1, AV.str (ExprT.v z.2.2.2.2.2.2.2.2.2.2.1).2.2, AV.str (ExprT.s z.2.2.2.2.2.2.2.2.2.2.1), AV.sl Sh.expr (ExprT.l z.2.2.2.2.2.2.2.2.2.2.1), AV.sl shInt z.2.2.2.2.2.2.2.2.2.2.2.1, ai z.2.2.2.2.2.2.2.2.2.2.2.2.1]
abbrev planAV0 (z : CSem cpMk) : AV := AV.agg [AV.str z.2.2.2.2.1, AV.str z.2.2.2.2.2.1, AV.str z.2.2.2.2.2.2.1, AV.str z.2.2.2.2.2.2.2.1, AV.nils, ai z.2.2.2.2.2.2.2.2.1, AV.nils, AV.nils, AV.str (ExprT.op z.2.2.2.2.2.2.2.2.2.1), ai (ExprT.v z.2.2.2.2.2.2.2.2.2.1).1, ai (ExprT.v z.2.2.2.2.2.2.2.2.2.1).2.1, AV.str (ExprT.v z.2.2.2.2.2.2.2.2.2.1).2.2, AV.str (ExprT.s z.2.2.2.2.2.2.2.2.2.1), AV.sl Sh.expr (ExprT.l z.2.2.2.2.2.2.2.2.2.1), AV.nils, ai z.2.2.2.2.2.2.2.2.2.2.1]

abbrev kp11p : Nat → Keep := fun _ => { }
theorem ok11p : fnChk env62.P 11 Tryz.f11 2 := by refine ⟨?_, ?_, ?_, ?_⟩ <;> kernel_rfl
def i11pz (_ : Sem shRel.sl) (x1 : Sem shStmt) (_ : ExprT) (_ : Sem Sh.str × Sem (Sh.str.pr (Sh.str.pr (Sh.str.sl.pr (shCol.sl.pr (Sh.str.pr (Sh.str.sl.pr (shRef.sl.pr (Sh.expr.pr (shVal.sl.pr (shSet.sl.pr (Sh.expr.pr Sh.str)))))))))))) (_ : Bool) (a3 : Bool) (a4 : Bool) (a5 : Bool) (_ : Sem shRel.sl × CSem [CP.d shStmt, CP.d shTable, CP.d shTable, CP.d Sh.str, CP.d Sh.str, CP.d Sh.str, CP.d Sh.str, CP.nil, CP.d shInt, CP.nil, CP.nil, CP.d Sh.expr, CP.nil, CP.d shInt]) (a7 : Bool) (a8 : Sem shInt × CSem cpMk) (a9 : Bool) (a10 : Sem shRel.sl × CSem [CP.d shStmt, CP.d shTable, CP.d shTable, CP.d Sh.str, CP.d Sh.str, CP.d Sh.str, CP.d Sh.str, CP.nil, CP.d shInt, CP.nil, CP.nil, CP.d Sh.expr, CP.nil, CP.d shInt]) (a11 : Sem shInt × CSem cpMk3) (a12 : Sem shRel.sl × CSem [CP.d shStmt, CP.d shTable, CP.d shTable, CP.d Sh.str, CP.d Sh.str, CP.d Sh.str, CP.d Sh.str, CP.vec shCol, CP.d shInt, CP.nil, CP.nil, CP.d Sh.expr, CP.d shInt.sl, CP.d shInt]) (a13 : Sem shInt × CSem cpMk3) (a14 : Sem shInt × CSem cpMk3) (a15 : Sem shRel.sl × CSem [CP.d shStmt, CP.d shTable, CP.d shTable, CP.d Sh.str, CP.d Sh.str, CP.d Sh.str, CP.d Sh.str, CP.vec shCol, CP.d shInt, CP.nil, CP.nil, CP.d Sh.expr, CP.d shInt.sl, CP.d shInt]) (a16 : Sem shInt × CSem cpMk3) (a17 : Sem shInt × CSem cpMk3) (a18 : Sem shRel.sl × CSem [CP.d shStmt, CP.d shTable, CP.d shTable, CP.d Sh.str, CP.d Sh.str, CP.d Sh.str, CP.d Sh.str, CP.vec shCol, CP.d shInt, CP.nil, CP.nil, CP.d Sh.expr, CP.d shInt.sl, CP.d shInt]) (a19 : Sem shInt × CSem cpMk3) : Tr (Empty ⊕ Raw) :=
 Tr.chk true (Tr.chk true (Tr.chk true (Tr.br (x1.1 == [99, 111, 112, 121]) (Tr.chk a3 (Tr.br a4 (Tr.re (AV.tup [nilAV, ai 1]) []) (Tr.chk a5 (Tr.chk a7 (Tr.br a9 (Tr.chk (mCopyC a10) (Tr.br (a11.1 == 0) (Tr.chk (mTargetC a12) (Tr.br (a13.1 != 0) (Tr.re (AV.tup [nilAV, ai a13.1]) []) (Tr.re (AV.tup [(planAV a13.2), ai 0]) [AO.vec shCol a13.2.2.2.2.2.2.2.2.2.1]))) (Tr.br (a11.1 != 0) (Tr.re (AV.tup [nilAV, ai a11.1]) []) (Tr.re (AV.tup [(planAV a11.2), ai 0]) [AO.vec shCol a11.2.2.2.2.2.2.2.2.2.1])))) (Tr.br a9 Tr.err (Tr.br (a8.1 != 0) (Tr.re (AV.tup [nilAV, ai a8.1]) []) (Tr.re (AV.tup [(planAV0 a8.2), ai 0]) [])))))))) (Tr.br (x1.1 == [106, 111, 105, 110]) (Tr.chk a3 (Tr.br a4 (Tr.re (AV.tup [nilAV, ai 1]) []) (Tr.chk a5 (Tr.chk a7 (Tr.br a9 (Tr.chk (mJoinC a10) (Tr.br (a14.1 == 0) (Tr.chk (mTargetC a15) (Tr.br (a16.1 != 0) (Tr.re (AV.tup [nilAV, ai a16.1]) []) (Tr.re (AV.tup [(planAV a16.2), ai 0]) [AO.vec shCol a16.2.2.2.2.2.2.2.2.2.1]))) (Tr.br (a14.1 != 0) (Tr.re (AV.tup [nilAV, ai a14.1]) []) (Tr.re (AV.tup [(planAV a14.2), ai 0]) [AO.vec shCol a14.2.2.2.2.2.2.2.2.2.1])))) (Tr.br a9 Tr.err (Tr.br (a8.1 != 0) (Tr.re (AV.tup [nilAV, ai a8.1]) []) (Tr.re (AV.tup [(planAV0 a8.2), ai 0]) []))))))))
 (Tr.br (x1.1 == [103, 114, 111, 117, 112]) (Tr.chk a3 (Tr.br a4 (Tr.re (AV.tup [nilAV, ai 1]) []) (Tr.chk a5 (Tr.chk a7 (Tr.br a9 (Tr.chk (mGroupC a10) (Tr.br (a17.1 == 0) (Tr.chk (mTargetC a18) (Tr.br (a19.1 != 0) (Tr.re (AV.tup [nilAV, ai a19.1]) []) (Tr.re (AV.tup [(planAV a19.2), ai 0]) [AO.vec shCol a19.2.2.2.2.2.2.2.2.2.1]))) (Tr.br (a17.1 != 0) (Tr.re (AV.tup [nilAV, ai a17.1]) []) (Tr.re (AV.tup [(planAV a17.2), ai 0]) [AO.vec shCol a17.2.2.2.2.2.2.2.2.2.1])))) (Tr.br a9 Tr.err (Tr.br (a8.1 != 0) (Tr.re (AV.tup [nilAV, ai a8.1]) []) (Tr.re (AV.tup [(planAV0 a8.2), ai 0]) [])))))))) (Tr.re (AV.tup [nilAV, ai 1]) []))))))
def i11p (x0 : Sem shRel.sl) (x1 : Sem shStmt) : Tr (Empty ⊕ Raw) :=
 let a0 := etaE x1.2.2.2.2.2.2.2.2.1
 let a1 := (x1.1, x1.2.1, x1.2.2.1, x1.2.2.2.1, x1.2.2.2.2.1, x1.2.2.2.2.2.1, x1.2.2.2.2.2.2.1, x1.2.2.2.2.2.2.2.1, a0, x1.2.2.2.2.2.2.2.2.2.1, x1.2.2.2.2.2.2.2.2.2.2.1, etaE x1.2.2.2.2.2.2.2.2.2.2.2.1, x1.2.2.2.2.2.2.2.2.2.2.2.2)
 let a2 := !stMay a1
 let a3 := stMayC a1 && bif a2 then true else bCheckC x0
 let a4 := bif a2 then true else bCheck x0 != 0
 let a5 := cpC 16 a0
 let a6 := (x0, a1, ([], [], 0, [], [], ExprT.mk [] (0, 0, []) [] []), ([], [], 0, [], [], ExprT.mk [] (0, 0, []) [] []), x1.1, x1.2.2.1, x1.2.2.2.2.2.2.2.2.2.2.2.2, x1.2.1, 0, a0, 0, ())
 let a7 := mSourcesC a6
 let a8 := mSources a6
 let a9 := a8.1 == 0
 let a10 := etaM a8.2
 let a11 := mCopy a10
 let a12 := etaM3 a11.2
 let a13 := mTarget a12
 let a14 := mJoin a10
 let a15 := etaM3 a14.2
 let a16 := mTarget a15
 let a17 := mGroup a10
 let a18 := etaM3 a17.2
 let a19 := mTarget a18
 i11pz x0 x1 a0 a1 a2 a3 a4 a5 a6 a7 a8 a9 a10 a11 a12 a13 a14 a15 a16 a17 a18 a19
theorem go11p (x0 : Sem shRel.sl) (x1 : Sem shStmt) : run env62 0 kp11p (Func.results Tryz.f11).toList 400 (bodyOf Tryz.f11) (initSt (Func.ntmps Tryz.f11) [datum shRel.sl x0, datum shStmt x1] []) = (i11p x0 x1).map (lf Tryz.f11 e0) := by kernel_rfl
def pOfO (x0 : Sem shRel.sl) (x1 : Sem shStmt) : Option (HArgs (List.map some [shPlan, shInt])) := outT [shPlan, shInt] t0 100000000 (i11p x0 x1)
def pOfC (x0 : Sem shRel.sl) (x1 : Sem shStmt) : Bool := (pOfO x0 x1).isSome
def pOf (x0 : Sem shRel.sl) (x1 : Sem shStmt) : Sem shPlan × Sem shInt := (fun r : HArgs (List.map some [shPlan, shInt]) => (r.1, r.2.1)) ((pOfO x0 x1).getD (dfltH [shPlan, shInt]))
def F11p : FSem := plainC [shRel.sl, shStmt] [shPlan, shInt] (fun x => pOfC x.1 x.2.1) fun x => ((pOf x.1 x.2.1).1, (pOf x.1 x.2.1).2, ())
theorem FOk11p : FOk env62.P env62.gl 11 F11p := FOk_T1 (ks := [shRel.sl, shStmt]) (outs := [shPlan, shInt]) (keep := kp11p) (gas := 400) (n := 100000000) (e := e0) (t := t0) (i := fun x => i11p x.1 x.2.1) env62_all env62_mix ok11p (fun x => go11p x.1 x.2.1) (on0 _ _ _ _ _) (fun _ => by kernel_rfl) (fun _ => by kernel_rfl)

def env63 : Env := (env62.add 11 F11p)
theorem env63_all : EnvAll env63 := (EnvAll.addS env62_all (SameE.refl env62) FOk11p)
theorem env63_mix : env63.P.follows .mixedOrders = true := (mix_add env62_mix _ _)
end
open Go Go.Proofs

theorem gi {c g : Bool} (h1 : c = true) (h2 : g = true) : (if c = true then g else false) = true := by rw [if_pos h1]; exact h2
theorem dec_le {a b : Nat} (h : a ≤ b) : decide (a ≤ b) = true := decide_eq_true h

theorem vMay_text {v : Sem shVal} (h : vMay v = true) (h2 : (v.1 == 2) = true) : v.2.2.length ≤ 40 := by
 have e : v.1 = 2 := by simpa using h2
 unfold vMay at h
 rw [e] at h
 simp only [show ((2 : Int) == 0) = false from rfl, show ((2 : Int) == 1) = false from rfl, show ((2 : Int) == 2) = true from rfl, Bool.false_eq_true, if_false, if_true] at h
 cases h1 : v.2.1 == 0
 ·rw [h1] at h; simp at h
 ·rw [h1] at h
  cases h3 : decide ((v.2.2.length : Int) ≤ 40)
  ·rw [h3] at h; simp at h
  ·have := of_decide_eq_true h3
   omega

theorem vTextC_true (v : Sem shVal) : vTextC v = true := by
 unfold vTextC
 split
 ·rfl
 ·rename_i hm
  have hm : vMay v = true := by simpa using hm
  split
  ·rfl
  ·split
   ·rename_i h2
    have hl := vMay_text hm h2
    have hr := replaceAll_len v.2.2 [39] [39, 39]
    have hr2 : (Lib.replaceAll v.2.2 [39] [39, 39]).length ≤ 200 := by
     simp only [List.length_cons, List.length_nil] at hr
     omega
    refine gi ?_ (gi (dec_le ?_) (gi (dec_le ?_) rfl))
    ·unfold replC
     simp
     omega
    ·simp; omega
    ·simp; omega
   ·rfl

theorem vText_len (v : Sem shVal) : (vText v).length ≤ 300 := by
 unfold vText
 split
 ·simp
 ·rename_i hm
  have hm : vMay v = true := by simpa using hm
  split
  ·have := itoaF_len v.2.1
   omega
  ·split
   ·rename_i h2
    have hl := vMay_text hm h2
    have hr := replaceAll_len v.2.2 [39] [39, 39]
    simp only [List.length_cons, List.length_nil] at hr
    simp
    omega
   ·split
    ·split <;> simp
    ·simp

theorem wName_len {s : Str} (h : wName s = true) : s.length ≤ 16 := by
 have h : wordOk s = true := h
 unfold wordOk at h
 by_cases h2 : (s.length : Int) ≤ 16
 ·omega
 ·exfalso
  rw [decide_eq_false h2] at h
  cases h1 : decide ((s.length : Int) ≥ 1) <;> rw [h1] at h <;> simp at h

theorem mayS_col {g : ExprT → Int → Int → Bool × Int} {e : ExprT} {d n : Int} (h : (mayS g e d n).1 = true) (hc : e.op = [99, 111, 108]) : e.s.length ≤ 16 := by
 unfold mayS at h
 split at h
 ·cases h
 ·split at h
  ·rename_i h1; rw [hc] at h1; simp at h1
  ·split at h
   ·cases h1 : isNil e.v
    ·rw [h1] at h; simp at h
    ·rw [h1] at h
     cases h2 : wName e.s
     ·rw [h2] at h; simp at h
     ·exact wName_len h2
   ·rename_i h1; rw [hc] at h1; simp at h1

theorem toUpperA_len (s : Str) : (Lib.toUpperA s).length = s.length := by simp [Lib.toUpperA]

theorem eText_ok : ∀ (N : Nat) (e : ExprT) (d n : Int), N ≤ 16 → (mayN N e d n).1 = true → eTextCN N e = true ∧ (eTextN N e).length ≤ 400 * 2 ^ N - 100
 | 0, _, _, _, _, h => by cases h
 | N + 1, e, d, n, hN, h => by
  rw [mayN] at h
  obtain ⟨hl, h2⟩ := mayS_true h
  have hp : 2 ^ N ≤ 2 ^ 15 := Nat.pow_le_pow_right (by omega) (by omega)
  have hp1 : 1 ≤ 2 ^ N := Nat.one_le_two_pow
  have hpp : 2 ^ (N + 1) = 2 * 2 ^ N := by rw [Nat.pow_succ]; omega
  have hparts : ∀ x ∈ e.l, eTextCN N x = true ∧ (eTextN N x).length ≤ 400 * 2 ^ N - 100 := by
   intro x hx
   rcases h2 with h2 | h2
   ·exfalso
    have : partsN e.op = 0 := by
     rcases h2 with h2 | h2 <;> rw [h2] <;> decide
    rw [this] at hl
    have : e.l = [] := List.eq_nil_of_length_eq_zero (by omega)
    rw [this] at hx; simp at hx
   ·obtain ⟨m, hm⟩ := mayL_all e.l _ h2 x hx
    exact eText_ok N x _ _ (by omega) hm
  have hget : ∀ i, i < e.l.length → e.l.getD i (dflt Sh.expr) ∈ e.l := by
   intro i hi
   rw [List.getD_eq_getElem?_getD, List.getElem?_eq_getElem hi]
   exact List.getElem_mem hi
  rw [eTextCN, eTextN]
  unfold eTextSC eTextS
  rcases parts_cases e.op with ⟨hp0, hop | hop⟩ | ⟨hp0, hop | hop⟩ | ⟨hp0, hop⟩ | hp0
  ·rw [hop]
   simp only [beq_self_eq_true, if_true]
   refine ⟨gi (vTextC_true _) rfl, ?_⟩
   have := vText_len e.v
   omega
  ·have hs := mayS_col h hop
   rw [hop]
   refine ⟨rfl, ?_⟩
   show e.s.length ≤ _
   omega
  ·rw [hp0] at hl
   have hlen : e.l.length = 1 := by omega
   obtain ⟨k1, k2⟩ := hparts _ (hget 0 (by omega))
   rw [hop]
   refine ⟨gi ?_ (gi k1 (gi (dec_le ?_) (gi (dec_le ?_) rfl))), ?_⟩
   ·simp [inB, hlen]
   ·simp at k2 ⊢; omega
   ·simp at k2 ⊢; omega
   ·show ([40, 78, 79, 84, 32] ++ eTextN N (e.l.getD 0 (dflt Sh.expr)) ++ [41]).length ≤ _
    simp at k2 ⊢; omega
  ·rw [hp0] at hl
   have hlen : e.l.length = 1 := by omega
   obtain ⟨k1, k2⟩ := hparts _ (hget 0 (by omega))
   rw [hop]
   refine ⟨gi ?_ (gi k1 (gi (dec_le ?_) (gi (dec_le ?_) rfl))), ?_⟩
   ·simp [inB, hlen]
   ·simp at k2 ⊢; omega
   ·simp at k2 ⊢; omega
   ·show ([40] ++ eTextN N (e.l.getD 0 (dflt Sh.expr)) ++ [32, 73, 83, 32, 78, 85, 76, 76, 41]).length ≤ _
    simp at k2 ⊢; omega
  ·rw [hp0] at hl
   have hlen : e.l.length = 2 := by omega
   obtain ⟨k1, k2⟩ := hparts _ (hget 0 (by omega))
   obtain ⟨k3, k4⟩ := hparts _ (hget 1 (by omega))
   have hu : (decide (e.op.length ≤ 140737488355328) && e.op.all fun b => decide (b.toNat < 128)) = true := by
    rcases hop with hop | hop | hop | hop | hop | hop <;> rw [hop] <;> decide
   have hol : e.op.length ≤ 3 := by
    rcases hop with hop | hop | hop | hop | hop | hop <;> rw [hop] <;> simp
   have hul := toUpperA_len e.op
   have n1 : (e.op == [108, 105, 116]) = false := by rcases hop with hop | hop | hop | hop | hop | hop <;> rw [hop] <;> rfl
   have n2 : (e.op == [99, 111, 108]) = false := by rcases hop with hop | hop | hop | hop | hop | hop <;> rw [hop] <;> rfl
   have n3 : (e.op == [110, 111, 116]) = false := by rcases hop with hop | hop | hop | hop | hop | hop <;> rw [hop] <;> rfl
   have n4 : (e.op == [110, 117, 108, 108]) = false := by rcases hop with hop | hop | hop | hop | hop | hop <;> rw [hop] <;> rfl
   simp only [n1, n2, n3, n4, Bool.false_eq_true, if_false]
   refine ⟨gi ?_ (gi k1 (gi (dec_le ?_) (gi (dec_le ?_) (gi hu (gi (dec_le ?_) (gi (dec_le ?_) (gi ?_ (gi k3 (gi (dec_le ?_) (gi (dec_le ?_) rfl)))))))))), ?_⟩
   ·simp [inB, hlen]
   all_goals first
    | (simp [inB, hlen]; done)
    | (simp at k2 k4 ⊢; omega)
  ·rw [hp0] at hl
   omega

theorem exTextC_true (e : ExprT) : exTextC e = true := by
 unfold exTextC
 split
 ·rfl
 ·rename_i h
  exact gi (eText_ok 16 e 1 0 (by omega) (by simpa [eMay] using h)).1 rfl

theorem exText_len (e : ExprT) : (exText e).1.length ≤ 30000000 := by
 unfold exText
 split
 ·simp
 ·rename_i h
  have := (eText_ok 16 e 1 0 (by omega) (by simpa [eMay] using h)).2
  show (eTextN 16 e).length ≤ _
  omega

open Go Go.Proofs

theorem lead_le (p : Int → Bool) : ∀ s : Str, lead p s ≤ s.length
 | [] => by simp [lead]
 | c :: r => by
  have := lead_le p r
  rw [lead]
  split <;> simp <;> omega
theorem runLen_le (f m : Int → Bool) (s : Str) : runLen f m s ≤ s.length := by
 cases s with
 | nil => simp [runLen]
 | cons c r =>
  have := lead_le m r
  rw [runLen]
  split <;> simp <;> omega

theorem wrapN (i : Nat) (h : i ≤ 4000000000) : IntKind.i64.wrap (i : Int) = (i : Int) := by
 have := wrap_add (i - 1) (by unfold maxStr; omega)
 cases i with
 | zero => rfl
 | succ i => simpa using this

theorem wrapN1 (i : Nat) (h : i ≤ 4000000000) : IntKind.i64.wrap ((i : Int) + 1) = ((i + 1 : Nat) : Int) := wrap_add i (by unfold maxStr; omega)

theorem quotedC_true : ∀ (n : Nat) (s : Str) (i : Nat) (a : Int) (b : Str), 1 ≤ i → i ≤ s.length → s.length + 2 ≤ n + i → s.length ≤ 1000000000 → quotedC_2 n s (i : Int) a b = true
 | 0, s, i, a, b, h1, h2, h3, h4 => by omega
 | n + 1, s, i, a, b, h1, h2, h3, h4 => by
  rw [quotedC_2]
  split
  ·rename_i hlt
   have hlt : i < s.length := by have := of_decide_eq_true hlt; omega
   refine gi (inB_of hlt) ?_
   rw [wrapN1 i (by omega)]
   split
   ·exact quotedC_true n s (i + 1) a b (by omega) (by omega) (by omega) h4
   ·refine gi ?_ ?_
    ·cases hd : decide (((i + 1 : Nat) : Int) < (s.length : Int))
     ·rfl
     ·exact inB_of (by have := of_decide_eq_true hd; omega)
    ·split
     ·rename_i hh
      have h5 : i + 1 < s.length := by
       cases hd : decide (((i + 1 : Nat) : Int) < (s.length : Int))
       ·rw [hd] at hh; simp at hh
       ·have := of_decide_eq_true hd; omega
      rw [wrapN1 (i + 1) (by omega)]
      exact quotedC_true n s (i + 1 + 1) a b (by omega) (by omega) (by omega) h4
     ·refine gi ?_ (gi ?_ rfl)
      ·simp; omega
      ·unfold replC
       simp
       omega
  ·rfl

theorem quoted_res : ∀ (n : Nat) (s : Str) (i : Nat) (a : Int) (b : Str), 1 ≤ i → i ≤ s.length → s.length + 2 ≤ n + i → s.length ≤ 1000000000 →
  (quoted_2 n s (i : Int) a b = ((0, []), 0)) ∨ ∃ k : Nat, (quoted_2 n s (i : Int) a b).2 = (k : Int) ∧ 1 ≤ k ∧ k ≤ s.length
 | 0, s, i, a, b, h1, h2, h3, h4 => by omega
 | n + 1, s, i, a, b, h1, h2, h3, h4 => by
  rw [quoted_2]
  split
  ·rename_i hlt
   have hlt : i < s.length := by have := of_decide_eq_true hlt; omega
   rw [wrapN1 i (by omega)]
   split
   ·exact quoted_res n s (i + 1) a b (by omega) (by omega) (by omega) h4
   ·split
    ·rename_i hh
     have h5 : i + 1 < s.length := by
      cases hd : decide (((i + 1 : Nat) : Int) < (s.length : Int))
      ·rw [hd] at hh; simp at hh
      ·have := of_decide_eq_true hd; omega
     rw [wrapN1 (i + 1) (by omega)]
     exact quoted_res n s (i + 1 + 1) a b (by omega) (by omega) (by omega) h4
    ·exact .inr ⟨i + 1, rfl, by omega, by omega⟩
  ·exact .inl rfl

theorem tokMayC_true (t : Sem shTok) : tokMayC t = true := by
 unfold tokMayC
 split
 ·rfl
 ·split
  ·refine gi ?_ rfl
   cases h : ((t.2.length : Int) == 1)
   ·rfl
   ·have : (t.2.length : Int) = 1 := by simpa using h
    simp only [cond_true, beq_iff_eq]
    omega
  ·simp

theorem tokFirstC_true (s : Str) (h0 : s ≠ []) (h1 : s.length ≤ 1000000000) : tokFirstC s = true := by
 have hl : 1 ≤ s.length := by cases s with | nil => exact absurd rfl h0 | cons _ _ => simp
 have r1 := runLen_le letterC partC s
 have r2 := runLen_le digitC digitC s
 have hq : quotedC s = true := quotedC_true (s.length + 1) s 1 _ _ (by omega) hl (by omega) h1
 have hb : inB 0 s.length = true := inB_of hl
 have d1 : (decide ((0 : Int) ≤ 0) && decide (0 ≤ (↑(runLen letterC partC s) : Int)) && decide ((↑(runLen letterC partC s) : Int) ≤ (↑(List.length s) : Int))) = true := by simp; omega
 have d2 : (decide ((0 : Int) ≤ 0) && decide (0 ≤ (↑(runLen digitC digitC s) : Int)) && decide ((↑(runLen digitC digitC s) : Int) ≤ (↑(List.length s) : Int))) = true := by simp; omega
 have d3 : (decide ((0 : Int) ≤ 0) && decide ((0 : Int) ≤ 1) && decide (1 ≤ (↑(List.length s) : Int))) = true := by simp; omega
 unfold tokFirstC
 simp only [hq, hb, if_true, Bool.false_eq_true, if_false]
 repeat' split
 all_goals first
  | rfl
  | (rename_i h; exfalso; apply h; simp; omega)

theorem tokFirst_res (s : Str) (h0 : s ≠ []) (h1 : s.length ≤ 1000000000) (hm : tokMay (tokFirst s).1 = true) : ∃ k : Nat, (tokFirst s).2 = (k : Int) ∧ 1 ≤ k ∧ k ≤ s.length := by
 have hl : 1 ≤ s.length := by cases s with | nil => exact absurd rfl h0 | cons _ _ => simp
 have r1 := runLen_le letterC partC s
 have r2 := runLen_le digitC digitC s
 have hq := quoted_res (s.length + 1) s 1 0 [] (by omega) hl (by omega) h1
 unfold tokFirst at hm ⊢
 simp only [if_true, Bool.false_eq_true, if_false] at hm ⊢
 split
 ·rename_i h
  have := of_decide_eq_true h
  exact ⟨_, rfl, by omega, by omega⟩
 ·rename_i h
  rw [if_neg h] at hm
  split
  ·rename_i h2
   have := of_decide_eq_true h2
   exact ⟨_, rfl, by omega, by omega⟩
  ·rename_i h2
   rw [if_neg h2] at hm
   split
   ·rename_i h3
    rw [if_pos h3] at hm
    rcases hq with hq | ⟨k, hk, hk1, hk2⟩
    ·exfalso
     have hqq : quoted s = ((0, []), 0) := hq
     rw [hqq] at hm
     revert hm
     decide
    ·exact ⟨k, hk, hk1, hk2⟩
   ·exact ⟨1, rfl, by omega, by omega⟩

theorem cutC_true : ∀ (n : Nat) (s : Str) (i : Nat) (l : List (Sem shFor)), i ≤ s.length → s.length + 1 ≤ n + i → s.length ≤ 1000000000 → l.length ≤ 400 → cutC_3 n s (i : Int) l = true
 | 0, s, i, l, h1, h2, h3, h4 => by omega
 | n + 1, s, i, l, h1, h2, h3, h4 => by
  rw [cutC_3]
  split
  ·rename_i hlt
   have hlt : i < s.length := by have := of_decide_eq_true hlt; omega
   have e1 : List.take ((s.length : Int).toNat - (i : Int).toNat) (List.drop (i : Int).toNat s) = s.drop i := by
    simp only [Int.toNat_natCast]
    exact List.take_of_length_le (by simp)
   rw [e1]
   refine gi ?_ ?_
   ·rw [inB_of hlt]
    cases (((s.getD (i : Int).toNat 0).toNat : Int) == 32) <;> rfl
   ·split
    ·rw [wrapN1 i (by omega)]
     exact cutC_true n s (i + 1) l (by omega) (by omega) h3 h4
    ·have hne : s.drop i ≠ [] := by
      intro h
      have := congrArg List.length h
      simp at this
      omega
     have hdl : (s.drop i).length ≤ 1000000000 := by simp; omega
     refine gi ?_ (gi (tokFirstC_true _ hne hdl) (gi (tokMayC_true _) ?_))
     ·simp; omega
     ·split
      ·rfl
      ·rename_i hh
       have hm : tokMay (tokFirst (s.drop i)).1 = true := by
        cases hq : tokMay (tokFirst (s.drop i)).1
        ·rw [hq] at hh; simp at hh
        ·rfl
       have hl4 : l.length ≠ 400 := by
        intro h5
        rw [hm, h5] at hh
        simp at hh
       obtain ⟨k, hk, hk1, hk2⟩ := tokFirst_res _ hne hdl hm
       have hk3 : k ≤ s.length - i := by simpa using hk2
       refine gi (dec_le ?_) ?_
       ·simp; omega
       ·rw [hk, show ((i : Int) + (k : Int)) = ((i + k : Nat) : Int) by omega, wrapN (i + k) (by omega)]
        exact cutC_true n s (i + k) _ (by omega) (by omega) h3 (by simp; omega)
  ·rfl

theorem cutC_all (s : Str) (h : s.length ≤ 1000000000) : cutC s = true := cutC_true (s.length + 1) s 0 [] (by omega) (by omega) h (by simp)
open Go Go.Proofs
set_option maxHeartbeats 4000000

structure ShortS (s : Sem shStmt) : Prop where
 op : s.1.length ≤ 1000
 table : s.2.1.length ≤ 1000
 other : s.2.2.1.length ≤ 1000
 names : s.2.2.2.1.length ≤ 20 ∧ ∀ x ∈ s.2.2.2.1, List.length x ≤ 1000
 cols : s.2.2.2.2.1.length ≤ 20 ∧ ∀ x ∈ s.2.2.2.2.1, List.length x.1 ≤ 1000
 key : s.2.2.2.2.2.1.length ≤ 1000
 uniques : s.2.2.2.2.2.2.1.length ≤ 20 ∧ ∀ x ∈ s.2.2.2.2.2.2.1, List.length x ≤ 1000
 refs : s.2.2.2.2.2.2.2.1.length ≤ 20 ∧ ∀ x ∈ s.2.2.2.2.2.2.2.1, List.length x.1 ≤ 1000 ∧ List.length x.2 ≤ 1000
 row : s.2.2.2.2.2.2.2.2.2.1.length ≤ 20
 sets : s.2.2.2.2.2.2.2.2.2.2.1.length ≤ 20 ∧ ∀ x ∈ s.2.2.2.2.2.2.2.2.2.2.1, List.length x.1 ≤ 1000
 role : s.2.2.2.2.2.2.2.2.2.2.2.2.length ≤ 1000

theorem join_len (sep : Str) (B : Nat) : ∀ l : List Str, (∀ x ∈ l, x.length ≤ B) → (Lib.join l sep).length ≤ l.length * (B + sep.length)
 | [], _ => by simp [Lib.join, List.intercalate]
 | [x], h => by
  rw [Lib.join_one]
  have := h x (by simp)
  simp
  omega
 | x :: y :: r, h => by
  have ih := join_len sep B (y :: r) (fun z hz => h z (List.mem_cons_of_mem _ hz))
  have hx := h x (by simp)
  have e : Lib.join (x :: y :: r) sep = x ++ sep ++ Lib.join (y :: r) sep := by simp [Lib.join, List.intercalate, List.intersperse]
  rw [e]
  simp only [List.length_append, List.length_cons] at ih ⊢
  rw [Nat.succ_mul]
  omega

theorem ixFrom_none {α : Type} (p : α → Bool) : ∀ (l : List α) (i : Nat), (!decide (ixFrom p l i ≥ 0)) = true → ∀ x ∈ l, p x = false
 | [], _, _, x, hx => by simp at hx
 | y :: r, i, h, x, hx => by
  rw [ixFrom] at h
  cases hy : p y
  ·rw [hy] at h
   rcases List.mem_cons.1 hx with rfl | hx
   ·exact hy
   ·exact ixFrom_none p r (i + 1) (by simpa using h) x hx
  ·exfalso
   rw [hy] at h
   simp at h
   try omega

theorem writtenC_true (e : ExprT) : writtenC e = true := gi (exTextC_true e) rfl
theorem written_len (e : ExprT) : (written e).length ≤ 30000000 := exText_len e
theorem wTextC_true (e : ExprT) : wTextC e = true := by
 unfold wTextC
 have := written_len e
 split
 ·rfl
 ·refine gi (writtenC_true e) (gi (dec_le ?_) rfl)
  simp; omega
theorem wText_len (e : ExprT) : (wText e).length ≤ 30000010 := by
 unfold wText
 have := written_len e
 split
 ·simp
 ·simp; omega
theorem chTextC_true (s : Str) (h : s.length ≤ 10) (e : ExprT) : chTextC s e = true := by
 unfold chTextC
 have := written_len e
 split
 ·rfl
 ·refine gi (dec_le ?_) (gi (writtenC_true e) (gi (dec_le ?_) (gi (dec_le ?_) rfl)))
  all_goals (simp; omega)
theorem chText_len (s : Str) (h : s.length ≤ 10) (e : ExprT) : (chText s e).length ≤ 30000030 := by
 unfold chText
 have := written_len e
 split
 ·simp
 ·simp; omega
theorem setTextC_true (x : Sem shSet) (h : List.length x.1 ≤ 1000) : setTextC x = true := by
 unfold setTextC
 have := written_len x.2
 refine gi (dec_le ?_) (gi (writtenC_true _) (gi (dec_le ?_) rfl))
 all_goals (simp; omega)
theorem setText_len (x : Sem shSet) (h : List.length x.1 ≤ 1000) : (setText x).length ≤ 30001010 := by
 unfold setText
 have := written_len x.2
 simp; omega
theorem colTextC_true (x : Sem shCol) (h : List.length x.1 ≤ 1000) (h1 : (1 : Int) ≤ x.2.1) (h2 : LE.le (α := Int) x.2.1 3) : colTextC x = true := by
 obtain ⟨nm, ty, nn⟩ := x
 replace h : nm.length ≤ 1000 := h
 replace h1 : LE.le (α := Int) 1 ty := h1
 replace h2 : LE.le (α := Int) ty 3 := h2
 have hw : IntKind.i64.wrap (ty - 1) = ty - 1 := wrap_small _ (by omega) (by omega)
 have hin : inB (ty - 1) 3 = true := by simp [inB]; omega
 unfold colTextC
 simp only [hw, hin, Bool.cond_eq_ite]
 repeat' split
 all_goals first
  | rfl
  | (rename_i hf; exfalso; apply hf; simp; omega)
  | (rename_i hf _; exfalso; apply hf; simp; omega)
  | (exfalso; simp_all; omega)
theorem colText_len (x : Sem shCol) (h : List.length x.1 ≤ 1000) : (colText x).length ≤ 1100 := by
 unfold colText
 simp only [Bool.cond_eq_ite]
 repeat' split
 all_goals (simp; omega)

theorem colTexts_eq : ∀ (l : List (Sem shCol)) (i : Int) (acc : List Str), colTexts_3 l i acc = Lib.join (acc ++ l.map colText) [32, 44, 32]
 | [], i, acc => by simp [colTexts_3]
 | x :: r, i, acc => by rw [colTexts_3, colTexts_eq r]; simp
theorem colTexts_len (B : Nat) (l : List (Sem shCol)) (h : ∀ x ∈ l, (colText x).length ≤ B) : (colTexts l).length ≤ l.length * (B + 3) := by
 unfold colTexts
 rw [colTexts_eq]
 have := join_len [32, 44, 32] B ([] ++ l.map colText) (fun y hy => by
  simp only [List.nil_append, List.mem_map] at hy
  obtain ⟨x, hx, rfl⟩ := hy
  exact h x hx)
 simpa using this
theorem colTextsC_ok (B : Nat) (hB : B ≤ 100000000) : ∀ (l : List (Sem shCol)) (i : Int) (acc : List Str), (∀ x ∈ l, colTextC x = true ∧ (colText x).length ≤ B) → (∀ x ∈ acc, x.length ≤ B) → acc.length + l.length ≤ 40 → colTextsC_3 l i acc = true
 | [], i, acc, _, ha, hl => by
  rw [colTextsC_3]
  refine gi ?_ rfl
  have h1 := join_len [32, 44, 32] B acc ha
  have h2 : acc.length * (B + 3) ≤ 40 * 100000003 := Nat.mul_le_mul (by simpa using hl) (by omega)
  replace h1 : (Lib.join acc [32, 44, 32]).length ≤ acc.length * (B + 3) := h1
  simp only [Bool.and_eq_true, decide_eq_true_eq]
  simp at hl
  exact ⟨by omega, by omega⟩
 | x :: r, i, acc, h, ha, hl => by
  rw [colTextsC_3]
  have hx := h x (by simp)
  simp at hl
  refine gi hx.1 (gi (dec_le ?_) ?_)
  ·simp; omega
  ·refine colTextsC_ok B hB r (i + 1) _ (fun y hy => h y (List.mem_cons_of_mem _ hy)) (fun y hy => ?_) (by simp; omega)
   rcases List.mem_append.1 hy with hy | hy
   ·exact ha y hy
   ·simp at hy; subst hy; exact hx.2

theorem strTexts_eq : ∀ (l : List (Sem Sh.str)) (i : Int) (acc : List Str), strTexts_3 l i acc = Lib.join (acc ++ l.map sSame) [32, 44, 32]
 | [], i, acc => by simp [strTexts_3]
 | x :: r, i, acc => by rw [strTexts_3, strTexts_eq r]; simp
theorem strTexts_len (B : Nat) (l : List (Sem Sh.str)) (h : ∀ x ∈ l, (sSame x).length ≤ B) : (strTexts l).length ≤ l.length * (B + 3) := by
 unfold strTexts
 rw [strTexts_eq]
 have := join_len [32, 44, 32] B ([] ++ l.map sSame) (fun y hy => by
  simp only [List.nil_append, List.mem_map] at hy
  obtain ⟨x, hx, rfl⟩ := hy
  exact h x hx)
 simpa using this
theorem strTextsC_ok (B : Nat) (hB : B ≤ 100000000) : ∀ (l : List (Sem Sh.str)) (i : Int) (acc : List Str), (∀ x ∈ l, (sSame x).length ≤ B) → (∀ x ∈ acc, x.length ≤ B) → acc.length + l.length ≤ 40 → strTextsC_3 l i acc = true
 | [], i, acc, _, ha, hl => by
  rw [strTextsC_3]
  refine gi ?_ rfl
  have h1 := join_len [32, 44, 32] B acc ha
  have h2 : acc.length * (B + 3) ≤ 40 * 100000003 := Nat.mul_le_mul (by simpa using hl) (by omega)
  replace h1 : (Lib.join acc [32, 44, 32]).length ≤ acc.length * (B + 3) := h1
  simp only [Bool.and_eq_true, decide_eq_true_eq]
  simp at hl
  exact ⟨by omega, by omega⟩
 | x :: r, i, acc, h, ha, hl => by
  rw [strTextsC_3]
  have hx := h x (by simp)
  simp at hl
  refine gi (dec_le ?_) ?_
  ·simp; omega
  ·refine strTextsC_ok B hB r (i + 1) _ (fun y hy => h y (List.mem_cons_of_mem _ hy)) (fun y hy => ?_) (by simp; omega)
   rcases List.mem_append.1 hy with hy | hy
   ·exact ha y hy
   ·simp at hy; subst hy; exact hx

theorem valTexts_eq : ∀ (l : List (Sem shVal)) (i : Int) (acc : List Str), valTexts_3 l i acc = Lib.join (acc ++ l.map vText) [32, 44, 32]
 | [], i, acc => by simp [valTexts_3]
 | x :: r, i, acc => by rw [valTexts_3, valTexts_eq r]; simp
theorem valTexts_len (B : Nat) (l : List (Sem shVal)) (h : ∀ x ∈ l, (vText x).length ≤ B) : (valTexts l).length ≤ l.length * (B + 3) := by
 unfold valTexts
 rw [valTexts_eq]
 have := join_len [32, 44, 32] B ([] ++ l.map vText) (fun y hy => by
  simp only [List.nil_append, List.mem_map] at hy
  obtain ⟨x, hx, rfl⟩ := hy
  exact h x hx)
 simpa using this
theorem valTextsC_ok (B : Nat) (hB : B ≤ 100000000) : ∀ (l : List (Sem shVal)) (i : Int) (acc : List Str), (∀ x ∈ l, vTextC x = true ∧ (vText x).length ≤ B) → (∀ x ∈ acc, x.length ≤ B) → acc.length + l.length ≤ 40 → valTextsC_3 l i acc = true
 | [], i, acc, _, ha, hl => by
  rw [valTextsC_3]
  refine gi ?_ rfl
  have h1 := join_len [32, 44, 32] B acc ha
  have h2 : acc.length * (B + 3) ≤ 40 * 100000003 := Nat.mul_le_mul (by simpa using hl) (by omega)
  replace h1 : (Lib.join acc [32, 44, 32]).length ≤ acc.length * (B + 3) := h1
  simp only [Bool.and_eq_true, decide_eq_true_eq]
  simp at hl
  exact ⟨by omega, by omega⟩
 | x :: r, i, acc, h, ha, hl => by
  rw [valTextsC_3]
  have hx := h x (by simp)
  simp at hl
  refine gi hx.1 (gi (dec_le ?_) ?_)
  ·simp; omega
  ·refine valTextsC_ok B hB r (i + 1) _ (fun y hy => h y (List.mem_cons_of_mem _ hy)) (fun y hy => ?_) (by simp; omega)
   rcases List.mem_append.1 hy with hy | hy
   ·exact ha y hy
   ·simp at hy; subst hy; exact hx.2

theorem setTexts_eq : ∀ (l : List (Sem shSet)) (i : Int) (acc : List Str), setTexts_3 l i acc = Lib.join (acc ++ l.map setText) [32, 44, 32]
 | [], i, acc => by simp [setTexts_3]
 | x :: r, i, acc => by rw [setTexts_3, setTexts_eq r]; simp
theorem setTexts_len (B : Nat) (l : List (Sem shSet)) (h : ∀ x ∈ l, (setText x).length ≤ B) : (setTexts l).length ≤ l.length * (B + 3) := by
 unfold setTexts
 rw [setTexts_eq]
 have := join_len [32, 44, 32] B ([] ++ l.map setText) (fun y hy => by
  simp only [List.nil_append, List.mem_map] at hy
  obtain ⟨x, hx, rfl⟩ := hy
  exact h x hx)
 simpa using this
theorem setTextsC_ok (B : Nat) (hB : B ≤ 100000000) : ∀ (l : List (Sem shSet)) (i : Int) (acc : List Str), (∀ x ∈ l, setTextC x = true ∧ (setText x).length ≤ B) → (∀ x ∈ acc, x.length ≤ B) → acc.length + l.length ≤ 40 → setTextsC_3 l i acc = true
 | [], i, acc, _, ha, hl => by
  rw [setTextsC_3]
  refine gi ?_ rfl
  have h1 := join_len [32, 44, 32] B acc ha
  have h2 : acc.length * (B + 3) ≤ 40 * 100000003 := Nat.mul_le_mul (by simpa using hl) (by omega)
  replace h1 : (Lib.join acc [32, 44, 32]).length ≤ acc.length * (B + 3) := h1
  simp only [Bool.and_eq_true, decide_eq_true_eq]
  simp at hl
  exact ⟨by omega, by omega⟩
 | x :: r, i, acc, h, ha, hl => by
  rw [setTextsC_3]
  have hx := h x (by simp)
  simp at hl
  refine gi hx.1 (gi (dec_le ?_) ?_)
  ·simp; omega
  ·refine setTextsC_ok B hB r (i + 1) _ (fun y hy => h y (List.mem_cons_of_mem _ hy)) (fun y hy => ?_) (by simp; omega)
   rcases List.mem_append.1 hy with hy | hy
   ·exact ha y hy
   ·simp at hy; subst hy; exact hx.2

theorem sParts_of {s : Sem shStmt} {g b : Bool} (hv : (i118p s).val = if g = true then some (.inr (.bool b, [])) else none) : sPartsC s = g ∧ sParts s = (g && b) := by
 unfold sPartsC sParts sPartsO outT runT
 rw [hv]
 cases g <;> cases b <;> exact ⟨rfl, rfl⟩
theorem sParts_else {s : Sem shStmt} (hv : (i118p s).val = some (.inr (.kb false, []))) : sPartsC s = true ∧ sParts s = false := by
 unfold sPartsC sParts sPartsO outT runT
 rw [hv]
 exact ⟨rfl, rfl⟩

theorem upd_ops {s : Sem shStmt} (h : sParts s = true) : (s.1 = [99, 114, 101, 97, 116, 101] ∧ creates s = true) ∨ (s.1 = [103, 114, 111, 117, 112] ∧ s.2.2.2.1.length = 2) ∨
  (s.1 ∈ ([[100, 114, 111, 112], [105, 110, 115, 101, 114, 116], [117, 112, 100, 97, 116, 101], [100, 101, 108, 101, 116, 101], [115, 101, 108, 101, 99, 116], [114, 101, 97, 100], [119, 114, 105, 116, 101], [117, 110, 114, 101, 97, 100], [117, 110, 119, 114, 105, 116, 101], [99, 111, 112, 121], [106, 111, 105, 110]] : List Str)) := by
 by_cases q0 : (s.1 == [99, 114, 101, 97, 116, 101]) = true
 ·refine .inl ⟨eq_of_beq q0, ?_⟩
  obtain ⟨_, hp⟩ := sParts_of (s := s) (g := _) (b := _) (by simp only [i118p, i118pz, Tr.val, q0, if_true, etaE_eq]; exact rfl)
  rw [hp] at h
  cases h2 : creates s
  ·rw [h2] at h
   cases h1 : sName s.2.1 <;> rw [h1] at h <;> simp at h
  ·rfl
 by_cases q1 : (s.1 == [100, 114, 111, 112]) = true
 ·exact .inr (.inr (by rw [eq_of_beq q1]; simp))
 by_cases q2 : (s.1 == [105, 110, 115, 101, 114, 116]) = true
 ·exact .inr (.inr (by rw [eq_of_beq q2]; simp))
 by_cases q3 : (s.1 == [117, 112, 100, 97, 116, 101]) = true
 ·exact .inr (.inr (by rw [eq_of_beq q3]; simp))
 by_cases q4 : (s.1 == [100, 101, 108, 101, 116, 101]) = true
 ·exact .inr (.inr (by rw [eq_of_beq q4]; simp))
 by_cases q5 : (s.1 == [115, 101, 108, 101, 99, 116]) = true
 ·exact .inr (.inr (by rw [eq_of_beq q5]; simp))
 by_cases q6 : (s.1 == [114, 101, 97, 100]) = true
 ·exact .inr (.inr (by rw [eq_of_beq q6]; simp))
 by_cases q7 : (s.1 == [119, 114, 105, 116, 101]) = true
 ·exact .inr (.inr (by rw [eq_of_beq q7]; simp))
 by_cases q8 : (s.1 == [117, 110, 114, 101, 97, 100]) = true
 ·exact .inr (.inr (by rw [eq_of_beq q8]; simp))
 by_cases q9 : (s.1 == [117, 110, 119, 114, 105, 116, 101]) = true
 ·exact .inr (.inr (by rw [eq_of_beq q9]; simp))
 by_cases q10 : (s.1 == [99, 111, 112, 121]) = true
 ·exact .inr (.inr (by rw [eq_of_beq q10]; simp))
 by_cases q11 : (s.1 == [106, 111, 105, 110]) = true
 ·exact .inr (.inr (by rw [eq_of_beq q11]; simp))
 by_cases q12 : (s.1 == [103, 114, 111, 117, 112]) = true
 ·refine .inr (.inl ⟨eq_of_beq q12, ?_⟩)
  obtain ⟨_, hp⟩ := sParts_of (s := s) (g := _) (b := _) (by simp only [i118p, i118pz, Tr.val, q0, q1, q2, q3, q4, q5, q6, q7, q8, q9, q10, q11, q12, if_true, if_false, Bool.false_eq_true, etaE_eq]; exact rfl)
  rw [hp] at h
  by_cases hl : s.2.2.2.1.length = 2
  ·exact hl
  ·exfalso
   have hd : (bif decide ((s.2.2.2.1.length : Int) < 2) then true else decide ((s.2.2.2.1.length : Int) > 2)) = true := by
    rcases Nat.lt_or_gt_of_ne hl with h2 | h2
    ·have : decide ((s.2.2.2.1.length : Int) < 2) = true := decide_eq_true (by omega)
     rw [this]; rfl
    ·have : decide ((s.2.2.2.1.length : Int) > 2) = true := decide_eq_true (by omega)
     rw [this]; cases decide ((s.2.2.2.1.length : Int) < 2) <;> rfl
   rw [hd] at h
   cases h1 : sName s.2.1 <;> cases h2 : sName s.2.2.1 <;> rw [h1, h2] at h <;> simp at h
 obtain ⟨_, hp⟩ := sParts_else (s := s) (by simp only [i118p, i118pz, Tr.val, q0, q1, q2, q3, q4, q5, q6, q7, q8, q9, q10, q11, q12, if_false, Bool.false_eq_true])
 rw [hp] at h
 cases h

open Go Go.Proofs
set_option maxHeartbeats 4000000

theorem createdC_10_true {a0 : Sem Sh.str} {a1 : Sem Sh.str} {a2 : Sem Sh.str} {a3 : List (Sem Sh.str)} {a4 : List (Sem shCol)} {a5 : Sem Sh.str} {a6 : List (Sem Sh.str)} {a7 : List (Sem (Sh.str.pr Sh.str))} {a8 : Str} {a9 : Int} {a10 : Int} {a11 : Str} {a12 : Str} {a13 : List (Sem Sh.expr)} {a14 : List (Sem shVal)} {a15 : List (Sem (Sh.str.pr Sh.expr))} {a16 : Str} {a17 : Int} {a18 : Int} {a19 : Str} {a20 : Str} {a21 : List (Sem Sh.expr)} {a22 : Sem Sh.str} : ∀ (l : List (Sem (Sh.str.pr Sh.str))) (i : Int) (s : Str), (∀ x ∈ l, List.length x.1 ≤ 1000 ∧ List.length x.2 ≤ 1000) → s.length + l.length * 3000 ≤ 1000000 →
  createdC_10 a0 a1 a2 a3 a4 a5 a6 a7 a8 a9 a10 a11 a12 a13 a14 a15 a16 a17 a18 a19 a20 a21 a22 l i s = true ∧ (created_10 a0 a1 a2 a3 a4 a5 a6 a7 a8 a9 a10 a11 a12 a13 a14 a15 a16 a17 a18 a19 a20 a21 a22 l i s).length ≤ 40000000
 | [], i, s, _, hs => by
  rw [createdC_10, created_10]
  have h1 := chText_len [32, 44, 32] (by simp) (ExprT.mk a8 (a9, a10, a11) a12 a13)
  simp at hs
  refine ⟨gi (chTextC_true _ (by simp) _) (gi (dec_le ?_) (gi (dec_le ?_) rfl)), ?_⟩
  all_goals first | omega | (simp; omega)
 | x :: r, i, s, h, hs => by
  have hx := h x (by simp)
  simp at hs
  rw [createdC_10, created_10]
  obtain ⟨k1, k2⟩ := createdC_10_true (a0 := a0) (a1 := a1) (a2 := a2) (a3 := a3) (a4 := a4) (a5 := a5) (a6 := a6) (a7 := a7) (a8 := a8) (a9 := a9) (a10 := a10) (a11 := a11) (a12 := a12) (a13 := a13) (a14 := a14) (a15 := a15) (a16 := a16) (a17 := a17) (a18 := a18) (a19 := a19) (a20 := a20) (a21 := a21) (a22 := a22) r (i + 1) (s ++ ([32, 44, 32, 82, 69, 70, 69, 82, 69, 78, 67, 69, 83, 32, 40, 32] ++ x.1 ++ [32, 41, 32] ++ x.2)) (fun y hy => h y (List.mem_cons_of_mem _ hy)) (by simp; omega)
  refine ⟨gi (dec_le ?_) (gi (dec_le ?_) (gi (dec_le ?_) (gi (dec_le ?_) k1))), k2⟩
  all_goals (simp; omega)

theorem createdC_5_true {a0 : Sem Sh.str} {a1 : Sem Sh.str} {a2 : Sem Sh.str} {a3 : List (Sem Sh.str)} {a4 : List (Sem shCol)} {a5 : Sem Sh.str} {a6 : List (Sem Sh.str)} {a7 : List (Sem (Sh.str.pr Sh.str))} {a8 : Str} {a9 : Int} {a10 : Int} {a11 : Str} {a12 : Str} {a13 : List (Sem Sh.expr)} {a14 : List (Sem shVal)} {a15 : List (Sem (Sh.str.pr Sh.expr))} {a16 : Str} {a17 : Int} {a18 : Int} {a19 : Str} {a20 : Str} {a21 : List (Sem Sh.expr)} {a22 : Sem Sh.str} (h7 : a7.length ≤ 20 ∧ ∀ x ∈ a7, List.length x.1 ≤ 1000 ∧ List.length x.2 ≤ 1000) : ∀ (l : List (Sem Sh.str)) (i : Int) (s : Str), (∀ x ∈ l, List.length x ≤ 1000) → s.length + l.length * 3000 ≤ 900000 →
  createdC_5 a0 a1 a2 a3 a4 a5 a6 a7 a8 a9 a10 a11 a12 a13 a14 a15 a16 a17 a18 a19 a20 a21 a22 l i s = true ∧ (created_5 a0 a1 a2 a3 a4 a5 a6 a7 a8 a9 a10 a11 a12 a13 a14 a15 a16 a17 a18 a19 a20 a21 a22 l i s).length ≤ 40000000
 | [], i, s, _, hs => by
  rw [createdC_5, created_5]
  simp at hs
  exact createdC_10_true a7 0 s h7.2 (by have := h7.1; omega)
 | x :: r, i, s, h, hs => by
  have hx := h x (by simp)
  simp at hs
  rw [createdC_5, created_5]
  obtain ⟨k1, k2⟩ := createdC_5_true (a0 := a0) (a1 := a1) (a2 := a2) (a3 := a3) (a4 := a4) (a5 := a5) (a6 := a6) (a7 := a7) (a8 := a8) (a9 := a9) (a10 := a10) (a11 := a11) (a12 := a12) (a13 := a13) (a14 := a14) (a15 := a15) (a16 := a16) (a17 := a17) (a18 := a18) (a19 := a19) (a20 := a20) (a21 := a21) (a22 := a22) h7 r (i + 1) (s ++ ([32, 44, 32, 85, 78, 73, 81, 85, 69, 32, 40, 32] ++ x ++ [32, 41])) (fun y hy => h y (List.mem_cons_of_mem _ hy)) (by simp; omega)
  refine ⟨gi (dec_le ?_) (gi (dec_le ?_) (gi (dec_le ?_) k1)), k2⟩
  all_goals (simp; omega)

theorem creates_cols {s : Sem shStmt} (h : creates s = true) : ∀ x ∈ s.2.2.2.2.1, colOk x = true := by
 intro x hx
 have hq : (!decide (ixFrom (fun x => !colOk x) s.2.2.2.2.1 0 ≥ 0)) = true := by
  unfold creates at h
  cases h1 : (bif decide ((↑(List.length s.2.2.2.2.1) : Int) < 1) then true else decide ((↑(List.length s.2.2.2.2.1) : Int) > 8))
  ·rw [h1] at h
   cases h2 : (!decide (ixFrom (fun x => !colOk x) s.2.2.2.2.1 0 ≥ 0))
   ·rw [h2] at h; cases h
   ·rfl
  ·rw [h1] at h; cases h
 have := ixFrom_none (fun x => !colOk x) _ 0 hq x hx
 simpa using this

theorem colOk_type {x : Sem shCol} (h : colOk x = true) : LE.le (α := Int) 1 x.2.1 ∧ LE.le (α := Int) x.2.1 3 := by
 unfold colOk at h
 cases h1 : sName x.1
 ·rw [h1] at h; cases h
 ·rw [h1] at h
  cases h2 : decide (x.2.1 ≥ 1)
  ·rw [h2] at h; cases h
  ·rw [h2] at h
   have h3 : decide (x.2.1 ≤ 3) = true := h
   exact ⟨of_decide_eq_true h2, of_decide_eq_true h3⟩

theorem createdC_true {s : Sem shStmt} (hs : ShortS s) (hc : creates s = true) : createdC s = true ∧ (created s).length ≤ 40000000 := by
 have hcol := creates_cols hc
 have c1 : ∀ x ∈ s.2.2.2.2.1, colTextC x = true ∧ (colText x).length ≤ 1100 := fun x hx => ⟨colTextC_true x (hs.cols.2 x hx) (colOk_type (hcol x hx)).1 (colOk_type (hcol x hx)).2, colText_len x (hs.cols.2 x hx)⟩
 have c2 : colTextsC s.2.2.2.2.1 = true := colTextsC_ok 1100 (by omega) _ 0 [] c1 (by simp) (by have := hs.cols.1; simp; omega)
 have c3 := colTexts_len 1100 s.2.2.2.2.1 (fun x hx => (c1 x hx).2)
 have c4 : s.2.2.2.2.1.length * (1100 + 3) ≤ 20 * 1103 := Nat.mul_le_mul hs.cols.1 (by omega)
 have t1 := hs.table
 have t2 := hs.key
 have u1 := hs.uniques.1
 unfold createdC created
 obtain ⟨k1, k2⟩ := createdC_5_true (a0 := s.1) (a1 := s.2.1) (a2 := s.2.2.1) (a3 := s.2.2.2.1) (a4 := s.2.2.2.2.1) (a5 := s.2.2.2.2.2.1) (a6 := s.2.2.2.2.2.2.1) (a8 := s.2.2.2.2.2.2.2.2.1.op) (a9 := s.2.2.2.2.2.2.2.2.1.v.1) (a10 := s.2.2.2.2.2.2.2.2.1.v.2.1) (a11 := s.2.2.2.2.2.2.2.2.1.v.2.2) (a12 := s.2.2.2.2.2.2.2.2.1.s) (a13 := s.2.2.2.2.2.2.2.2.1.l) (a14 := s.2.2.2.2.2.2.2.2.2.1) (a15 := s.2.2.2.2.2.2.2.2.2.2.1) (a16 := s.2.2.2.2.2.2.2.2.2.2.2.1.op) (a17 := s.2.2.2.2.2.2.2.2.2.2.2.1.v.1) (a18 := s.2.2.2.2.2.2.2.2.2.2.2.1.v.2.1) (a19 := s.2.2.2.2.2.2.2.2.2.2.2.1.v.2.2) (a20 := s.2.2.2.2.2.2.2.2.2.2.2.1.s) (a21 := s.2.2.2.2.2.2.2.2.2.2.2.1.l) (a22 := s.2.2.2.2.2.2.2.2.2.2.2.2)
  hs.refs s.2.2.2.2.2.2.1 0 ([67, 82, 69, 65, 84, 69, 32, 84, 65, 66, 76, 69, 32] ++ s.2.1 ++ [32, 40, 32] ++ colTexts s.2.2.2.2.1 ++ ([32, 44, 32, 75, 69, 89, 32, 40, 32] ++ s.2.2.2.2.2.1 ++ [32, 41])) hs.uniques.2 (by
   have : s.2.2.2.2.2.2.1.length * 3000 ≤ 20 * 3000 := Nat.mul_le_mul u1 (by omega)
   simp; omega)
 refine ⟨gi (dec_le ?_) (gi (dec_le ?_) (gi c2 (gi (dec_le ?_) (gi (dec_le ?_) (gi (dec_le ?_) (gi (dec_le ?_) k1)))))), k2⟩
 all_goals (simp; omega)

theorem gx {α β : Type} {c : Bool} {a : Option α} {F : β → Option α} {P : β → Prop} (h : c = true) (k : ∃ t, a = F t ∧ P t) : ∃ t, (if c = true then a else none) = F t ∧ P t := by
 subst h; exact k
theorem sText_of {s : Sem shStmt} (h : ∃ t, (i119p s).val = some (.inr (.str t, [])) ∧ t.length ≤ 1000000000) : sTextC s = true ∧ (sText s).length ≤ 1000000000 := by
 obtain ⟨t, h, k⟩ := h
 unfold sTextC sText sTextO outT runT
 rw [h]
 exact ⟨rfl, k⟩

theorem sTextC_true {s : Sem shStmt} (hs : ShortS s) (hp : sParts s = true) : sTextC s = true ∧ (sText s).length ≤ 1000000000 := by
 have t1 := hs.table
 have t2 := hs.other
 have t3 := hs.key
 have t4 := hs.role
 have t5 := hs.op
 have tu := toUpperA_len s.1
 have w1 := wText_len s.2.2.2.2.2.2.2.2.2.2.2.1
 have w2 := chText_len [32] (by simp) s.2.2.2.2.2.2.2.2.1
 have v1 : valTextsC s.2.2.2.2.2.2.2.2.2.1 = true := valTextsC_ok 300 (by omega) _ 0 [] (fun x _ => ⟨vTextC_true x, vText_len x⟩) (by simp) (by have := hs.row; simp; omega)
 have v2 := valTexts_len 300 s.2.2.2.2.2.2.2.2.2.1 (fun x _ => vText_len x)
 have v3 : s.2.2.2.2.2.2.2.2.2.1.length * (300 + 3) ≤ 20 * 303 := Nat.mul_le_mul hs.row (by omega)
 have e1 : setTextsC s.2.2.2.2.2.2.2.2.2.2.1 = true := setTextsC_ok 30001010 (by omega) _ 0 [] (fun x hx => ⟨setTextC_true x (hs.sets.2 x hx), setText_len x (hs.sets.2 x hx)⟩) (by simp) (by have := hs.sets.1; simp; omega)
 have e2 := setTexts_len 30001010 s.2.2.2.2.2.2.2.2.2.2.1 (fun x hx => setText_len x (hs.sets.2 x hx))
 have e3 : s.2.2.2.2.2.2.2.2.2.2.1.length * (30001010 + 3) ≤ 20 * 30001013 := Nat.mul_le_mul hs.sets.1 (by omega)
 have n1 : strTextsC s.2.2.2.1 = true := strTextsC_ok 1000 (by omega) _ 0 [] (fun x hx => hs.names.2 x hx) (by simp) (by have := hs.names.1; simp; omega)
 have n2 := strTexts_len 1000 s.2.2.2.1 (fun x hx => hs.names.2 x hx)
 have n3 : s.2.2.2.1.length * (1000 + 3) ≤ 20 * 1003 := Nat.mul_le_mul hs.names.1 (by omega)
 have go : ∀ op : Str, s.1 = op → (∀ z : Bool, z = true → z = true) := fun _ _ _ h => h
 clear go
 rcases upd_ops hp with ⟨hop, hc⟩ | ⟨hop, hl2⟩ | hop
 ·have hup : (decide (List.length s.1 ≤ 140737488355328) && List.all s.1 fun b => decide (b.toNat < 128)) = true := by rw [hop]; decide
  have q0 : (s.1 == [99, 114, 101, 97, 116, 101]) = true := by rw [hop]; rfl
  have q1 : (s.1 == [100, 114, 111, 112]) = false := by rw [hop]; rfl
  have q2 : (s.1 == [105, 110, 115, 101, 114, 116]) = false := by rw [hop]; rfl
  have q3 : (s.1 == [117, 112, 100, 97, 116, 101]) = false := by rw [hop]; rfl
  have q4 : (s.1 == [100, 101, 108, 101, 116, 101]) = false := by rw [hop]; rfl
  have q5 : (s.1 == [115, 101, 108, 101, 99, 116]) = false := by rw [hop]; rfl
  have q6 : (s.1 == [114, 101, 97, 100]) = false := by rw [hop]; rfl
  have q7 : (s.1 == [119, 114, 105, 116, 101]) = false := by rw [hop]; rfl
  have q8 : (s.1 == [117, 110, 114, 101, 97, 100]) = false := by rw [hop]; rfl
  have q9 : (s.1 == [117, 110, 119, 114, 105, 116, 101]) = false := by rw [hop]; rfl
  have q10 : (s.1 == [99, 111, 112, 121]) = false := by rw [hop]; rfl
  have q11 : (s.1 == [106, 111, 105, 110]) = false := by rw [hop]; rfl
  have q12 : (s.1 == [103, 114, 111, 117, 112]) = false := by rw [hop]; rfl
  have kc := createdC_true hs hc
  refine sText_of ?_
  simp only [i119p, i119pz, Tr.val, q0, q1, q2, q3, q4, q5, q6, q7, q8, q9, q10, q11, if_true, Bool.false_eq_true, if_false, etaE_eq]
  repeat' (with_reducible refine gx ?_ ?_)
  all_goals first
   | (refine ⟨_, rfl, ?_⟩; exact Nat.le_trans kc.2 (by omega))
   | rfl
   | exact hup
   | exact v1
   | exact e1
   | exact n1
   | exact wTextC_true _
   | exact chTextC_true _ (by simp) _
   | exact kc.1
   | (refine dec_le ?_; simp; omega)
   | (rw [hop]; decide)
   | (refine dec_le ?_; rw [hop]; simp [toUpperA_len]; omega)
 ·have hup : (decide (List.length s.1 ≤ 140737488355328) && List.all s.1 fun b => decide (b.toNat < 128)) = true := by rw [hop]; decide
  have q0 : (s.1 == [99, 114, 101, 97, 116, 101]) = false := by rw [hop]; rfl
  have q1 : (s.1 == [100, 114, 111, 112]) = false := by rw [hop]; rfl
  have q2 : (s.1 == [105, 110, 115, 101, 114, 116]) = false := by rw [hop]; rfl
  have q3 : (s.1 == [117, 112, 100, 97, 116, 101]) = false := by rw [hop]; rfl
  have q4 : (s.1 == [100, 101, 108, 101, 116, 101]) = false := by rw [hop]; rfl
  have q5 : (s.1 == [115, 101, 108, 101, 99, 116]) = false := by rw [hop]; rfl
  have q6 : (s.1 == [114, 101, 97, 100]) = false := by rw [hop]; rfl
  have q7 : (s.1 == [119, 114, 105, 116, 101]) = false := by rw [hop]; rfl
  have q8 : (s.1 == [117, 110, 114, 101, 97, 100]) = false := by rw [hop]; rfl
  have q9 : (s.1 == [117, 110, 119, 114, 105, 116, 101]) = false := by rw [hop]; rfl
  have q10 : (s.1 == [99, 111, 112, 121]) = false := by rw [hop]; rfl
  have q11 : (s.1 == [106, 111, 105, 110]) = false := by rw [hop]; rfl
  have q12 : (s.1 == [103, 114, 111, 117, 112]) = true := by rw [hop]; rfl
  have g0 : List.length (List.getD s.2.2.2.1 (Int.toNat 0) (dflt Sh.str)) ≤ 1000 := by
   rw [List.getD_eq_getElem?_getD, List.getElem?_eq_getElem (show (0 : Int).toNat < s.2.2.2.1.length by rw [hl2]; decide)]
   exact hs.names.2 _ (List.getElem_mem _)
  have g1 : List.length (List.getD s.2.2.2.1 (Int.toNat 1) (dflt Sh.str)) ≤ 1000 := by
   rw [List.getD_eq_getElem?_getD, List.getElem?_eq_getElem (show (1 : Int).toNat < s.2.2.2.1.length by rw [hl2]; decide)]
   exact hs.names.2 _ (List.getElem_mem _)
  refine sText_of ?_
  simp only [i119p, i119pz, Tr.val, q0, q1, q2, q3, q4, q5, q6, q7, q8, q9, q10, q11, Bool.false_eq_true, if_false, etaE_eq]
  repeat' (with_reducible refine gx ?_ ?_)
  all_goals first
   | (refine ⟨_, rfl, ?_⟩; first | (simp at g0 g1 ⊢; omega) | (rw [hop]; simp [toUpperA_len]; omega))
   | rfl
   | exact hup
   | exact v1
   | exact e1
   | exact n1
   | exact wTextC_true _
   | exact chTextC_true _ (by simp) _
   | (simp [inB, hl2]; done)
   | (refine dec_le ?_; simp at g0 g1 ⊢; omega)
   | (rw [hop]; decide)
   | (refine dec_le ?_; rw [hop]; simp [toUpperA_len]; omega)
 ·simp only [List.mem_cons, List.not_mem_nil, or_false] at hop
  rcases hop with hop | hop | hop | hop | hop | hop | hop | hop | hop | hop | hop
  all_goals
   have hup : (decide (List.length s.1 ≤ 140737488355328) && List.all s.1 fun b => decide (b.toNat < 128)) = true := by rw [hop]; decide
   have q0 : (s.1 == [99, 114, 101, 97, 116, 101]) = false := by rw [hop]; rfl
   first | (have q1 : (s.1 == [100, 114, 111, 112]) = false := by rw [hop]; rfl) | (have q1 : (s.1 == [100, 114, 111, 112]) = true := by rw [hop]; rfl)
   first | (have q2 : (s.1 == [105, 110, 115, 101, 114, 116]) = false := by rw [hop]; rfl) | (have q2 : (s.1 == [105, 110, 115, 101, 114, 116]) = true := by rw [hop]; rfl)
   first | (have q3 : (s.1 == [117, 112, 100, 97, 116, 101]) = false := by rw [hop]; rfl) | (have q3 : (s.1 == [117, 112, 100, 97, 116, 101]) = true := by rw [hop]; rfl)
   first | (have q4 : (s.1 == [100, 101, 108, 101, 116, 101]) = false := by rw [hop]; rfl) | (have q4 : (s.1 == [100, 101, 108, 101, 116, 101]) = true := by rw [hop]; rfl)
   first | (have q5 : (s.1 == [115, 101, 108, 101, 99, 116]) = false := by rw [hop]; rfl) | (have q5 : (s.1 == [115, 101, 108, 101, 99, 116]) = true := by rw [hop]; rfl)
   first | (have q6 : (s.1 == [114, 101, 97, 100]) = false := by rw [hop]; rfl) | (have q6 : (s.1 == [114, 101, 97, 100]) = true := by rw [hop]; rfl)
   first | (have q7 : (s.1 == [119, 114, 105, 116, 101]) = false := by rw [hop]; rfl) | (have q7 : (s.1 == [119, 114, 105, 116, 101]) = true := by rw [hop]; rfl)
   first | (have q8 : (s.1 == [117, 110, 114, 101, 97, 100]) = false := by rw [hop]; rfl) | (have q8 : (s.1 == [117, 110, 114, 101, 97, 100]) = true := by rw [hop]; rfl)
   first | (have q9 : (s.1 == [117, 110, 119, 114, 105, 116, 101]) = false := by rw [hop]; rfl) | (have q9 : (s.1 == [117, 110, 119, 114, 105, 116, 101]) = true := by rw [hop]; rfl)
   first | (have q10 : (s.1 == [99, 111, 112, 121]) = false := by rw [hop]; rfl) | (have q10 : (s.1 == [99, 111, 112, 121]) = true := by rw [hop]; rfl)
   first | (have q11 : (s.1 == [106, 111, 105, 110]) = false := by rw [hop]; rfl) | (have q11 : (s.1 == [106, 111, 105, 110]) = true := by rw [hop]; rfl)
   have q12 : (s.1 == [103, 114, 111, 117, 112]) = false := by rw [hop]; rfl
   refine sText_of ?_
   simp only [i119p, i119pz, Tr.val, q0, q1, q2, q3, q4, q5, q6, q7, q8, q9, q10, q11, if_true, Bool.false_eq_true, if_false, etaE_eq]
   repeat' (with_reducible refine gx ?_ ?_)
   all_goals first
    | (refine ⟨_, rfl, ?_⟩; first | (simp; omega) | (rw [hop]; simp [toUpperA_len]; omega))
    | rfl
    | exact hup
    | exact v1
    | exact e1
    | exact n1
    | exact wTextC_true _
    | exact chTextC_true _ (by simp) _
    | (refine dec_le ?_; simp; omega)
    | (rw [hop]; decide)
    | (refine dec_le ?_; rw [hop]; simp [toUpperA_len]; omega)
theorem sEmptyC_true {x : Sem shStmt} (h1 : x.2.1.length ≤ 1000) (h2 : x.2.2.1.length ≤ 1000) (h3 : x.2.2.2.2.2.1.length ≤ 1000) (h4 : x.2.2.2.2.2.2.2.2.2.2.2.2.length ≤ 1000) : sEmptyC x = true := by
 unfold sEmptyC
 refine gi (dec_le ?_) (gi (dec_le ?_) (gi (dec_le ?_) rfl))
 all_goals first | omega | (simp; omega)

theorem bif_true {c g : Bool} (h : g = true) : (bif c then g else true) = true := by cases c <;> simp [h]

theorem sPartsC_true {s : Sem shStmt} (hs : ShortS s) : sPartsC s = true := by
 have t1 := hs.table
 have t2 := hs.other
 have t3 := hs.key
 have t4 := hs.role
 by_cases q0 : (s.1 == [99, 114, 101, 97, 116, 101]) = true
 ·obtain ⟨hc, _⟩ := sParts_of (s := s) (g := _) (b := _) (by simp only [i118p, i118pz, Tr.val, q0, if_true, etaE_eq]; exact rfl)
  rw [hc]
  exact bif_true (sEmptyC_true (by simp) (by first | exact t2 | simp) (by first | exact t3 | simp) (by first | exact t4 | simp))
 by_cases q1 : (s.1 == [100, 114, 111, 112]) = true
 ·obtain ⟨hc, _⟩ := sParts_of (s := s) (g := _) (b := _) (by simp only [i118p, i118pz, Tr.val, q0, q1, if_true, if_false, Bool.false_eq_true, etaE_eq]; exact rfl)
  rw [hc]
  exact bif_true (sEmptyC_true (by simp) (by first | exact t2 | simp) (by first | exact t3 | simp) (by first | exact t4 | simp))
 by_cases q2 : (s.1 == [105, 110, 115, 101, 114, 116]) = true
 ·obtain ⟨hc, _⟩ := sParts_of (s := s) (g := _) (b := _) (by simp only [i118p, i118pz, Tr.val, q0, q1, q2, if_true, if_false, Bool.false_eq_true, etaE_eq]; exact rfl)
  rw [hc]
  exact bif_true (sEmptyC_true (by simp) (by first | exact t2 | simp) (by first | exact t3 | simp) (by first | exact t4 | simp))
 by_cases q3 : (s.1 == [117, 112, 100, 97, 116, 101]) = true
 ·obtain ⟨hc, _⟩ := sParts_of (s := s) (g := _) (b := _) (by simp only [i118p, i118pz, Tr.val, q0, q1, q2, q3, if_true, if_false, Bool.false_eq_true, etaE_eq]; exact rfl)
  rw [hc]
  exact bif_true (sEmptyC_true (by simp) (by first | exact t2 | simp) (by first | exact t3 | simp) (by first | exact t4 | simp))
 by_cases q4 : (s.1 == [100, 101, 108, 101, 116, 101]) = true
 ·obtain ⟨hc, _⟩ := sParts_of (s := s) (g := _) (b := _) (by simp only [i118p, i118pz, Tr.val, q0, q1, q2, q3, q4, if_true, if_false, Bool.false_eq_true, etaE_eq]; exact rfl)
  rw [hc]
  exact bif_true (sEmptyC_true (by simp) (by first | exact t2 | simp) (by first | exact t3 | simp) (by first | exact t4 | simp))
 by_cases q5 : (s.1 == [115, 101, 108, 101, 99, 116]) = true
 ·obtain ⟨hc, _⟩ := sParts_of (s := s) (g := _) (b := _) (by simp only [i118p, i118pz, Tr.val, q0, q1, q2, q3, q4, q5, if_true, if_false, Bool.false_eq_true, etaE_eq]; exact rfl)
  rw [hc]
  exact bif_true (sEmptyC_true (by simp) (by first | exact t2 | simp) (by first | exact t3 | simp) (by first | exact t4 | simp))
 by_cases q6 : (s.1 == [114, 101, 97, 100]) = true
 ·obtain ⟨hc, _⟩ := sParts_of (s := s) (g := _) (b := _) (by simp only [i118p, i118pz, Tr.val, q0, q1, q2, q3, q4, q5, q6, if_true, if_false, Bool.false_eq_true, etaE_eq]; exact rfl)
  rw [hc]
  exact bif_true (sEmptyC_true (by simp) (by first | exact t2 | simp) (by first | exact t3 | simp) (by first | exact t4 | simp))
 by_cases q7 : (s.1 == [119, 114, 105, 116, 101]) = true
 ·obtain ⟨hc, _⟩ := sParts_of (s := s) (g := _) (b := _) (by simp only [i118p, i118pz, Tr.val, q0, q1, q2, q3, q4, q5, q6, q7, if_true, if_false, Bool.false_eq_true, etaE_eq]; exact rfl)
  rw [hc]
  exact bif_true (sEmptyC_true (by simp) (by first | exact t2 | simp) (by first | exact t3 | simp) (by first | exact t4 | simp))
 by_cases q8 : (s.1 == [117, 110, 114, 101, 97, 100]) = true
 ·obtain ⟨hc, _⟩ := sParts_of (s := s) (g := _) (b := _) (by simp only [i118p, i118pz, Tr.val, q0, q1, q2, q3, q4, q5, q6, q7, q8, if_true, if_false, Bool.false_eq_true, etaE_eq]; exact rfl)
  rw [hc]
  exact bif_true (sEmptyC_true (by simp) (by first | exact t2 | simp) (by first | exact t3 | simp) (by first | exact t4 | simp))
 by_cases q9 : (s.1 == [117, 110, 119, 114, 105, 116, 101]) = true
 ·obtain ⟨hc, _⟩ := sParts_of (s := s) (g := _) (b := _) (by simp only [i118p, i118pz, Tr.val, q0, q1, q2, q3, q4, q5, q6, q7, q8, q9, if_true, if_false, Bool.false_eq_true, etaE_eq]; exact rfl)
  rw [hc]
  exact bif_true (sEmptyC_true (by simp) (by first | exact t2 | simp) (by first | exact t3 | simp) (by first | exact t4 | simp))
 by_cases q10 : (s.1 == [99, 111, 112, 121]) = true
 ·obtain ⟨hc, _⟩ := sParts_of (s := s) (g := _) (b := _) (by simp only [i118p, i118pz, Tr.val, q0, q1, q2, q3, q4, q5, q6, q7, q8, q9, q10, if_true, if_false, Bool.false_eq_true, etaE_eq]; exact rfl)
  rw [hc]
  exact bif_true (sEmptyC_true (by simp) (by first | exact t2 | simp) (by first | exact t3 | simp) (by first | exact t4 | simp))
 by_cases q11 : (s.1 == [106, 111, 105, 110]) = true
 ·obtain ⟨hc, _⟩ := sParts_of (s := s) (g := _) (b := _) (by simp only [i118p, i118pz, Tr.val, q0, q1, q2, q3, q4, q5, q6, q7, q8, q9, q10, q11, if_true, if_false, Bool.false_eq_true, etaE_eq]; exact rfl)
  rw [hc]
  exact bif_true (sEmptyC_true (by simp) (by first | exact t2 | simp) (by first | exact t3 | simp) (by first | exact t4 | simp))
 by_cases q12 : (s.1 == [103, 114, 111, 117, 112]) = true
 ·obtain ⟨hc, _⟩ := sParts_of (s := s) (g := _) (b := _) (by simp only [i118p, i118pz, Tr.val, q0, q1, q2, q3, q4, q5, q6, q7, q8, q9, q10, q11, q12, if_true, if_false, Bool.false_eq_true, etaE_eq]; exact rfl)
  rw [hc]
  exact bif_true (sEmptyC_true (by simp) (by first | exact t2 | simp) (by first | exact t3 | simp) (by first | exact t4 | simp))
 exact (sParts_else (by simp only [i118p, i118pz, Tr.val, q0, q1, q2, q3, q4, q5, q6, q7, q8, q9, q10, q11, q12, if_false, Bool.false_eq_true])).1

theorem stMayC_true {s : Sem shStmt} (hs : ShortS s) : stMayC s = true := by
 unfold stMayC
 refine gi ?_ rfl
 unfold stTextC
 refine gi (sPartsC_true hs) ?_
 split
 ·rfl
 ·rename_i h
  have hp : sParts s = true := by simpa using h
  obtain ⟨k1, k2⟩ := sTextC_true hs hp
  exact gi k1 (gi (cutC_all _ k2) rfl)
end Cad
