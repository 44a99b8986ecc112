/- Statements: the ways of many; expressions' texts. Statements: the ways of many, again; tokens. Statements: the ways of many, once more. Statements: many; checks' texts. Statements: what a CREATE has. Functions on a variable to which a pointer leads. Functions as the machine goes through them, round by round. Rounds with an invariant; what a variable's cells say. -/
import Derived.Test.YthpdpmhdaadgcaaGreatDoorG11
namespace Cad
open Go Go.Proofs
noncomputable section
set_option maxHeartbeats 4000000

def F134 : FSem := liftF (List.replicate 2 none) (autoG env36 Tryz.f235 (List.replicate 2 none))
theorem FOk134 : FOk env36.P env36.gl 235 F134 := FOk_auto _ env36_all env36_mix (by refine ⟨?_, ?_, ?_, ?_⟩ <;> kernel_rfl)

def F136 : FSem := liftF (List.replicate 2 none) (autoG env36 Tryz.f237 (List.replicate 2 none))
theorem FOk136 : FOk env36.P env36.gl 237 F136 := FOk_auto _ env36_all env36_mix (by refine ⟨?_, ?_, ?_, ?_⟩ <;> kernel_rfl)

def F115 : FSem := liftF (List.replicate 2 none) (autoG env36 Tryz.f203 (List.replicate 2 none))
theorem FOk115 : FOk env36.P env36.gl 203 F115 := FOk_auto _ env36_all env36_mix (by refine ⟨?_, ?_, ?_, ?_⟩ <;> kernel_rfl)

def F110 : FSem := liftF (List.replicate 2 none) (autoG env36 Tryz.f196 (List.replicate 2 none))
theorem FOk110 : FOk env36.P env36.gl 196 F110 := FOk_auto _ env36_all env36_mix (by refine ⟨?_, ?_, ?_, ?_⟩ <;> kernel_rfl)

def F112 : FSem := liftF (List.replicate 2 none) (autoG env36 Tryz.f200 (List.replicate 2 none))
theorem FOk112 : FOk env36.P env36.gl 200 F112 := FOk_auto _ env36_all env36_mix (by refine ⟨?_, ?_, ?_, ?_⟩ <;> kernel_rfl)

abbrev kp91 : Nat → Keep := fun j => if j = 3 then { slots := [1, 5, 8, 9, 10], prom := [(5, none, .str)] } else { }
abbrev s91_3 (l8 : LV) (i9 : Int) (i10 : Int) (lh_0 : LS) : St := { tmps := [ny, AV.clo (Fn.func 164) [] [], ny, ny, ny, AV.vec 0, ny, ny, AV.sl shVal l8, ai i9, ai i10, ny, ny, ny, ny, ny, ny, ny, ny, ny, ny, ny, ny], heap := [AO.vec Sh.str lh_0] }
theorem ok91 : fnChk (env36).P 163 Tryz.f163 2 := by refine ⟨?_, ?_, ?_, ?_⟩ <;> kernel_rfl
theorem go91 (x0 : Sem shVal.sl) : run (env36) 0 kp91 (Func.results Tryz.f163).toList 400 (bodyOf Tryz.f163) (initSt (Func.ntmps Tryz.f163) [datum shVal.sl x0, AV.clo (Fn.func 164) [] []] []) = Tr.ok (Leaf.head 3 (headK Tryz.f163 3) (s91_3 x0 (↑(List.length x0) : Int) 0 [])) := by kernel_rfl
theorem on91_3 (l8 : LV) (i9 : Int) (i10 : Int) (lh_0 : LS) : run (env36) 0 kp91 (Func.results Tryz.f163).toList 400 (headK Tryz.f163 3) (s91_3 l8 i9 i10 lh_0) = Tr.br (decide (i10 < i9)) (Tr.chk (inB i10 l8.length) (Tr.chk (vTextC (l8.getD i10.toNat (dflt shVal))) (Tr.chk (decide (lh_0.length + [vText (l8.getD i10.toNat (dflt shVal))].length ≤ 1073741824)) (Tr.ok (Leaf.head 3 (headK Tryz.f163 3) (s91_3 l8 i9 (IntKind.i64.wrap (i10 + 1)) (lh_0 ++ [vText (l8.getD i10.toNat (dflt shVal))]))))))) (Tr.chk (decide (lh_0.length ≤ 140737488355328) && decide ((Lib.join lh_0 [32, 44, 32]).length ≤ 140737488355328)) (Tr.ok (Leaf.ret (AV.str (Lib.join lh_0 [32, 44, 32])) []))) := by kernel_rfl
def valTexts_3 : List (Sem shVal) → Int → List (Sem Sh.str) → Sem Sh.str
 | [], _, lh_0 => (Lib.join lh_0 [32, 44, 32])
 | x :: r, i10, lh_0 => (valTexts_3 r (i10 + 1) (lh_0 ++ [vText x]))
def valTextsC_3 : List (Sem shVal) → Int → List (Sem Sh.str) → Bool
 | [], _, lh_0 => (if (decide (lh_0.length ≤ 140737488355328) && decide ((Lib.join lh_0 [32, 44, 32]).length ≤ 140737488355328)) = true then true else false)
 | x :: r, i10, lh_0 => (if vTextC x = true then if decide (lh_0.length + [vText x].length ≤ 1073741824) = true then valTextsC_3 r (i10 + 1) (lh_0 ++ [vText x]) else false else false)
theorem at91_3 {C : Ctx} (hC : ∀ id, C.ρ0 id = none) (l8 : LV) (hl : l8.length ≤ maxStr) : ∀ (m i : Nat) (lh_0 : LS), l8.length - i = m → i ≤ l8.length → valTextsC_3 (l8.drop i) i lh_0 = true →
  Reach (env36) C 163 (headK Tryz.f163 3) (s91_3 l8 (l8.length : Int) (i : Int) lh_0) (fun r h => resOf h [Sh.str] r = some (valTexts_3 (l8.drop i) i lh_0, ())) := by
 intro m
 induction m with
 | zero =>
  intro i lh_0 hm hi hc
  obtain rfl : i = l8.length := by omega
  rw [List.drop_length] at hc ⊢
  refine reach_ok env36_all env36_mix (ok91) (fun id _ => hC id) (on91_3 _ _ _ _) ?_
  rw [valTextsC_3] at hc
  generalize hy : valTexts_3 [] _ lh_0 = y
  rw [valTexts_3] at hy
  simp only [lt_dec', Tr.val_brF]
  repeat' (first | with_reducible refine obr hy hc (fun _ hy hc => ?_) (fun _ hy hc => ?_) | with_reducible refine obr1 hy (fun _ hy => ?_) (fun _ hy => ?_) | with_reducible refine ochk hc (fun hc => ?_) | with_reducible refine OptOk_chkT ?_)
  all_goals first | (cases hc; done) | (subst hy; first | rfl)
 | succ m IH =>
  intro i lh_0 hm hi hc
  have hlt : i < l8.length := by omega
  have IH := IH (i + 1)
  have hcast : ((i : Int) + 1) = ((i + 1 : Nat) : Int) := by omega
  have hwr := wrap_add i (by omega)
  rw [List.drop_eq_getElem_cons hlt] at hc ⊢
  refine reach_ok env36_all env36_mix (ok91) (fun id _ => hC id) (on91_3 _ _ _ _) ?_
  rw [valTextsC_3] at hc
  generalize hy : valTexts_3 (l8[i] :: l8.drop (i + 1)) (i : Int) lh_0 = y
  rw [valTexts_3] at hy
  simp only [lt_dec hlt, inB_of hlt, getD_at l8 _ hlt, hwr, Tr.val_brT, Tr.val_chkT]
  clear hwr
  try simp only [inB_of hlt] at hy
  simp only [hcast] at hy
  try simp only [inB_of hlt] at hc
  try simp only [hcast] at hc
  repeat' (first | with_reducible refine obr hy hc (fun _ hy hc => ?_) (fun _ hy hc => ?_) | with_reducible refine obr1 hy (fun _ hy => ?_) (fun _ hy => ?_) | with_reducible refine ochk hc (fun hc => ?_) | with_reducible refine OptOk_chkT ?_)
  all_goals first | (cases hc; done) | (subst hy; first | (change Reach _ _ _ _ _ _; apply IH <;> first | omega | assumption) | rfl)
theorem at91_3s {C : Ctx} (hC : ∀ id, C.ρ0 id = none) (l8 : LV) (lh_0 : LS) (hc : valTextsC_3 l8 0 lh_0 = true) :
  Reach (env36) C 163 (headK Tryz.f163 3) (s91_3 l8 (l8.length : Int) 0 lh_0) (fun r h => resOf h [Sh.str] r = some (valTexts_3 l8 0 lh_0, ())) :=
 Reach.len 8 (shVal) l8 rfl fun hl => at91_3 hC l8 hl _ 0 lh_0 rfl (Nat.zero_le _) hc
def valTexts (x0 : Sem shVal.sl) : Sem Sh.str := (valTexts_3 x0 0 [])
def valTextsC (x0 : Sem shVal.sl) : Bool := (valTextsC_3 x0 0 [])
def F91 : FSem := plainK [shVal.sl] [Sh.str] [(164, (fun x => valTextsC x.1), fun x => (valTexts x.1, ()))]
theorem FOk91 : FOk (env36).P (env36).gl 163 F91 := by
 refine FOk_plainK (ok91) fun j c g hm x hc C hC => ?_
 simp only [List.mem_singleton, Prod.mk.injEq] at hm
 obtain ⟨rfl, rfl, rfl⟩ := hm
 replace hc : valTextsC x.1 = true := hc
 unfold valTextsC at hc
 refine reach_ok env36_all env36_mix (ok91) (fun id _ => hC id) (go91 x.1) ?_
 generalize hy : valTexts x.1 = y
 unfold valTexts at hy
 repeat' (first | with_reducible refine obr hy hc (fun _ hy hc => ?_) (fun _ hy hc => ?_) | with_reducible refine obr1 hy (fun _ hy => ?_) (fun _ hy => ?_) | with_reducible refine ochk hc (fun hc => ?_) | with_reducible refine OptOk_chkT ?_)
 all_goals first | (cases hc; done) | (subst hy; first | (change Reach _ _ _ _ _ _; apply at91_3s hC <;> first | assumption | exact hc) | rfl)

def en149 (g : Sem Sh.expr → Sem Sh.str) (c : Sem Sh.expr → Bool) : Env := env36.add 251 (plainC [Sh.expr] [Sh.str] (fun x => c x.1) fun x => (g x.1, ()))
theorem en149_all {g : Sem Sh.expr → Sem Sh.str} {c : Sem Sh.expr → Bool} (hg : FOk env36.P env36.gl 251 (plainC [Sh.expr] [Sh.str] (fun x => c x.1) fun x => (g x.1, ()))) : EnvAll (en149 g c) := env36_all.add hg
theorem en149_mix {g : Sem Sh.expr → Sem Sh.str} {c : Sem Sh.expr → Bool} : (en149 g c).P.follows .mixedOrders = true := mix_add env36_mix _ _
abbrev kp149r : Nat → Keep := fun _ => { }
theorem ok149r (g : Sem Sh.expr → Sem Sh.str) (c : Sem Sh.expr → Bool) : fnChk (en149 g c).P 251 Tryz.f251 1 := by refine ⟨?_, ?_, ?_, ?_⟩ <;> kernel_rfl
theorem go149r (g : Sem Sh.expr → Sem Sh.str) (c : Sem Sh.expr → Bool) (x0 : Sem Sh.expr) : run (en149 g c) 0 kp149r (Func.results Tryz.f251).toList 400 (bodyOf Tryz.f251) (initSt (Func.ntmps Tryz.f251) [datum Sh.expr x0] []) = Tr.br (ExprT.op x0 == [108, 105, 116]) (Tr.chk (vTextC (ExprT.v x0)) (Tr.ok (Leaf.ret (AV.str (vText (ExprT.v x0))) []))) (Tr.br (ExprT.op x0 == [99, 111, 108]) (Tr.ok (Leaf.ret (AV.str (ExprT.s x0)) [])) (Tr.br (ExprT.op x0 == [110, 111, 116]) (Tr.chk (inB 0 (ExprT.l x0).length) (Tr.chk (c (etaE ((ExprT.l x0).getD (Int.toNat 0) (dflt Sh.expr)))) (Tr.chk (decide ([40, 78, 79, 84, 32].length + List.length (g (etaE ((ExprT.l x0).getD (Int.toNat 0) (dflt Sh.expr)))) ≤ 1099511627776)) (Tr.chk (decide (List.length ([40, 78, 79, 84, 32] ++ g (etaE ((ExprT.l x0).getD (Int.toNat 0) (dflt Sh.expr)))) + [41].length ≤ 1099511627776)) (Tr.ok (Leaf.ret (AV.str ([40, 78, 79, 84, 32] ++ g (etaE ((ExprT.l x0).getD (Int.toNat 0) (dflt Sh.expr))) ++ [41])) [])))))) (Tr.br (ExprT.op x0 == [110, 117, 108, 108]) (Tr.chk (inB 0 (ExprT.l x0).length) (Tr.chk (c (etaE ((ExprT.l x0).getD (Int.toNat 0) (dflt Sh.expr)))) (Tr.chk (decide ([40].length + List.length (g (etaE ((ExprT.l x0).getD (Int.toNat 0) (dflt Sh.expr)))) ≤ 1099511627776)) (Tr.chk (decide (List.length ([40] ++ g (etaE ((ExprT.l x0).getD (Int.toNat 0) (dflt Sh.expr)))) + [32, 73, 83, 32, 78, 85, 76, 76, 41].length ≤ 1099511627776)) (Tr.ok (Leaf.ret (AV.str ([40] ++ g
 (etaE ((ExprT.l x0).getD (Int.toNat 0) (dflt Sh.expr))) ++ [32, 73, 83, 32, 78, 85, 76, 76, 41])) [])))))) (Tr.chk (inB 0 (ExprT.l x0).length) (Tr.chk (c (etaE ((ExprT.l x0).getD (Int.toNat 0) (dflt Sh.expr)))) (Tr.chk (decide ([40].length + List.length (g (etaE ((ExprT.l x0).getD (Int.toNat 0) (dflt Sh.expr)))) ≤ 1099511627776)) (Tr.chk (decide (List.length ([40] ++ g (etaE ((ExprT.l x0).getD (Int.toNat 0) (dflt Sh.expr)))) + [32].length ≤ 1099511627776)) (Tr.chk (decide (List.length (ExprT.op x0) ≤ 140737488355328) && List.all (ExprT.op x0) fun b => decide (b.toNat < 128)) (Tr.chk (decide (List.length ([40] ++ g (etaE ((ExprT.l x0).getD (Int.toNat 0) (dflt Sh.expr))) ++ [32]) + (Lib.toUpperA (ExprT.op x0)).length ≤ 1099511627776)) (Tr.chk (decide (List.length ([40] ++ g (etaE ((ExprT.l x0).getD (Int.toNat 0) (dflt Sh.expr))) ++ [32] ++ Lib.toUpperA (ExprT.op x0)) + [32].length ≤ 1099511627776)) (Tr.chk (inB 1 (ExprT.l x0).length) (Tr.chk (c (etaE ((ExprT.l x0).getD (Int.toNat 1) (dflt Sh.expr)))) (Tr.chk (decide (List.length ([40] ++ g (etaE ((ExprT.l x0).getD (Int.toNat 0) (dflt Sh.expr))) ++ [32] ++ Lib.toUpperA (ExprT.op x0) ++ [32]) + List.length (g (etaE ((ExprT.l x0).getD (Int.toNat 1) (dflt Sh.expr)))) ≤ 1099511627776)) (Tr.chk (decide (List.length ([40] ++ g (etaE ((ExprT.l x0).getD (Int.toNat 0) (dflt Sh.expr))) ++ [32] ++ Lib.toUpperA (ExprT.op x0) ++ [32] ++ g (etaE ((ExprT.l x0).getD (Int.toNat 1) (dflt Sh.expr)))) + [41].length ≤ 1099511627776)) (Tr.ok
 (Leaf.ret (AV.str ([40] ++ g (etaE ((ExprT.l x0).getD (Int.toNat 0) (dflt Sh.expr))) ++ [32] ++ Lib.toUpperA (ExprT.op x0) ++ [32] ++ g (etaE ((ExprT.l x0).getD (Int.toNat 1) (dflt Sh.expr))) ++ [41])) [])))))))))))))))) := by kernel_rfl
def eTextS (g : Sem Sh.expr → Sem Sh.str) (_ : Sem Sh.expr → Bool) (x0 : Sem Sh.expr) : Sem Sh.str := (if (ExprT.op x0 == [108, 105, 116]) = true then vText (ExprT.v x0) else if (ExprT.op x0 == [99, 111, 108]) = true then ExprT.s x0 else if (ExprT.op x0 == [110, 111, 116]) = true then [40, 78, 79, 84, 32] ++ g ((ExprT.l x0).getD (Int.toNat 0) (dflt Sh.expr)) ++ [41] else if (ExprT.op x0 == [110, 117, 108, 108]) = true then [40] ++ g ((ExprT.l x0).getD (Int.toNat 0) (dflt Sh.expr)) ++ [32, 73, 83, 32, 78, 85, 76, 76, 41] else [40] ++ g ((ExprT.l x0).getD (Int.toNat 0) (dflt Sh.expr)) ++ [32] ++ Lib.toUpperA (ExprT.op x0) ++ [32] ++ g ((ExprT.l x0).getD (Int.toNat 1) (dflt Sh.expr)) ++ [41])
def eTextSC (g : Sem Sh.expr → Sem Sh.str) (c : Sem Sh.expr → Bool) (x0 : Sem Sh.expr) : Bool := (if (ExprT.op x0 == [108, 105, 116]) = true then if vTextC (ExprT.v x0) = true then true else false else if (ExprT.op x0 == [99, 111, 108]) = true then true else if (ExprT.op x0 == [110, 111, 116]) = true then if inB 0 (ExprT.l x0).length = true then if c ((ExprT.l x0).getD (Int.toNat 0) (dflt Sh.expr)) = true then if decide ([40, 78, 79, 84, 32].length + List.length (g ((ExprT.l x0).getD (Int.toNat 0) (dflt Sh.expr))) ≤ 1099511627776) = true then if decide (List.length ([40, 78, 79, 84, 32] ++ g ((ExprT.l x0).getD (Int.toNat 0) (dflt Sh.expr))) + [41].length ≤ 1099511627776) = true then true else false else false else false else false else if (ExprT.op x0 == [110, 117, 108, 108]) = true then if inB 0 (ExprT.l x0).length = true then if c ((ExprT.l x0).getD (Int.toNat 0) (dflt Sh.expr)) = true then if decide ([40].length + List.length (g ((ExprT.l x0).getD (Int.toNat 0) (dflt Sh.expr))) ≤ 1099511627776) = true then if decide (List.length ([40] ++ g ((ExprT.l x0).getD (Int.toNat 0) (dflt Sh.expr))) + [32, 73, 83, 32, 78, 85, 76, 76, 41].length ≤ 1099511627776) = true then true else false else false else false else false else if inB 0 (ExprT.l x0).length = true then if c ((ExprT.l x0).getD (Int.toNat 0) (dflt Sh.expr)) = true then if decide ([40].length + List.length (g ((ExprT.l x0).getD (Int.toNat 0) (dflt Sh.expr))) ≤ 1099511627776) = true then
 if decide (List.length ([40] ++ g ((ExprT.l x0).getD (Int.toNat 0) (dflt Sh.expr))) + [32].length ≤ 1099511627776) = true then if (decide (List.length (ExprT.op x0) ≤ 140737488355328) && List.all (ExprT.op x0) fun b => decide (b.toNat < 128)) = true then if decide (List.length ([40] ++ g ((ExprT.l x0).getD (Int.toNat 0) (dflt Sh.expr)) ++ [32]) + (Lib.toUpperA (ExprT.op x0)).length ≤ 1099511627776) = true then if decide (List.length ([40] ++ g ((ExprT.l x0).getD (Int.toNat 0) (dflt Sh.expr)) ++ [32] ++ Lib.toUpperA (ExprT.op x0)) + [32].length ≤ 1099511627776) = true then if inB 1 (ExprT.l x0).length = true then if c ((ExprT.l x0).getD (Int.toNat 1) (dflt Sh.expr)) = true then if decide (List.length ([40] ++ g ((ExprT.l x0).getD (Int.toNat 0) (dflt Sh.expr)) ++ [32] ++ Lib.toUpperA (ExprT.op x0) ++ [32]) + List.length (g ((ExprT.l x0).getD (Int.toNat 1) (dflt Sh.expr))) ≤ 1099511627776) = true then if decide (List.length ([40] ++ g ((ExprT.l x0).getD (Int.toNat 0) (dflt Sh.expr)) ++ [32] ++ Lib.toUpperA (ExprT.op x0) ++ [32] ++ g ((ExprT.l x0).getD (Int.toNat 1) (dflt Sh.expr))) + [41].length ≤ 1099511627776) = true then true else false else false else false else false else false else false else false else false else false else false else false)
def F149r (g : Sem Sh.expr → Sem Sh.str) (c : Sem Sh.expr → Bool) : FSem := plainC [Sh.expr] [Sh.str] (fun x => eTextSC g c x.1) fun x => (eTextS g c x.1, ())
theorem FOk149r (g : Sem Sh.expr → Sem Sh.str) (c : Sem Sh.expr → Bool) (hg : FOk env36.P env36.gl 251 (plainC [Sh.expr] [Sh.str] (fun x => c x.1) fun x => (g x.1, ()))) : FOk (en149 g c).P (en149 g c).gl 251 (F149r g c) := by
 refine FOk_plainC (ok149r g c) fun x hc C hC => ?_
 unfold eTextSC at hc
 refine reach_ok (en149_all hg) en149_mix (ok149r g c) (fun id _ => hC id) (go149r g c x.1) ?_
 generalize hy : eTextS g c x.1 = y
 unfold eTextS at hy
 try simp only [ExprT.eta]
 repeat' (first | with_reducible refine obr hy hc (fun _ hy hc => ?_) (fun _ hy hc => ?_) | with_reducible refine obr1 hy (fun _ hy => ?_) (fun _ hy => ?_) | with_reducible refine ochk hc (fun hc => ?_) | with_reducible refine OptOk_chkT ?_)
 all_goals first | (cases hc; done) | (subst hy; first | rfl)
mutual
def eTextN : Nat → Sem Sh.expr → Sem Sh.str
 | 0 => fun _ => default
 | n + 1 => eTextS (eTextN n) (eTextCN n)
def eTextCN : Nat → Sem Sh.expr → Bool
 | 0 => fun _ => false
 | n + 1 => eTextSC (eTextN n) (eTextCN n)
end
theorem FOk149N : ∀ n, FOk env36.P env36.gl 251 (plainC [Sh.expr] [Sh.str] (fun x => eTextCN n x.1) fun x => (eTextN n x.1, ()))
 | 0 => FOk_none ⟨Tryz.f251, (ok149r default default).1, (ok149r default default).2.1, (ok149r default default).2.2.1⟩ (fun _ => rfl)
 | n + 1 => FOk149r (eTextN n) (eTextCN n) (FOk149N n)
def F149 : FSem := plainC [Sh.expr] [Sh.str] (fun x => eTextCN 16 x.1) fun x => (eTextN 16 x.1, ())
theorem FOk149 : FOk env36.P env36.gl 251 F149 := FOk149N 16

def env37 : Env := (((((((env36.add 235 F134).add 237 F136).add 203 F115).add 196 F110).add 200 F112).add 163 F91).add 251 F149)
theorem env37_all : EnvAll env37 := (EnvAll.addS (EnvAll.addS (EnvAll.addS (EnvAll.addS (EnvAll.addS (EnvAll.addS (EnvAll.addS env36_all (SameE.refl env36) FOk134) ((SameE.refl env36).add _ _) FOk136) (((SameE.refl env36).add _ _).add _ _) FOk115) ((((SameE.refl env36).add _ _).add _ _).add _ _) FOk110) (((((SameE.refl env36).add _ _).add _ _).add _ _).add _ _) FOk112) ((((((SameE.refl env36).add _ _).add _ _).add _ _).add _ _).add _ _) FOk91) (((((((SameE.refl env36).add _ _).add _ _).add _ _).add _ _).add _ _).add _ _) FOk149)
theorem env37_mix : env37.P.follows .mixedOrders = true := (mix_add (mix_add (mix_add (mix_add (mix_add (mix_add (mix_add env36_mix _ _) _ _) _ _) _ _) _ _) _ _) _ _)
end
open Go Go.Proofs
set_option maxHeartbeats 4000000

abbrev s27b_134 (l : LC) (i : Int) : St := { tmps := [.sl shCol l, .clo (.func 235) [] [.ptr 0 0], .any, .any, .any, .any, .any, .int .i64 l.length, .int .i64 i, .any, .any, .any, .any, .any, .any, .any, .any, .any, .any], heap := [.box [.clo (.func 191) [] []]] }
theorem go27b_134 (l : LC) : run env37 1 kpIx Tryz.f54.results.toList 300 (bodyOf Tryz.f54) (initSt Tryz.f54.ntmps [.sl shCol l, .clo (.func 235) [] [.ptr 0 0]] [.box [.clo (.func 191) [] []]]) = .ok (.head 2 (headK Tryz.f54 2) (s27b_134 l 0)) := by kernel_rfl
theorem on27b_134 (l : LC) (i : Int) : run env37 1 kpIx Tryz.f54.results.toList 300 (headK Tryz.f54 2) (s27b_134 l i) = ixTree (K := headK Tryz.f54 2) (e := shCol) l (fun x => !colOk x) (s27b_134 l) [.box [.clo (.func 191) [] []]] i := by kernel_rfl

theorem ok27b : fnChk env37.P 54 Tryz.f54 2 := by refine ⟨?_, ?_, ?_, ?_⟩ <;> kernel_rfl
def G27b : GSem [some (.sl shCol), none] := fun x h => match x, h with
 | (l, .clo (.func 235) [] [.ptr 0 0], _), [.box [.clo (.func 191) [] []]] => .ok (.int .i64 (ixFrom (fun x => !colOk x) l 0), [.box [.clo (.func 191) [] []]])
 | _, _ => .err
def F27b : FSem := liftF [some (.sl shCol), none] G27b
theorem FOk27b : FOk env37.P env37.gl 54 F27b := by
 refine FOk_of ok27b fun x h0 res hx C hC => ?_
 unfold G27b at hx
 split at hx
 ·rename_i l u
  simp only [Tr.val_ok, Option.some.injEq] at hx
  subst hx
  refine Reach.len 0 shCol l rfl fun hl => ?_
  refine reach_ok (n0 := 1) env37_all env37_mix ok27b hC (go27b_134 l) ?_
  exact reach_ixf l (fun x => !colOk x) (s27b_134 l) env37_all env37_mix ok27b hC (on27b_134 l) hl _ 0 rfl (Nat.zero_le _)
 ·simp at hx

abbrev s152_136 (l : List (Sem shRef)) (i : Int) : St := { tmps := [.sl shRef l, .clo (.func 237) [] [.ptr 0 0], .any, .any, .any, .any, .any, .int .i64 l.length, .int .i64 i, .any, .any, .any, .any, .any, .any, .any, .any, .any, .any], heap := [.box [.clo (.func 192) [] []]] }
theorem go152_136 (l : List (Sem shRef)) : run env37 1 kpIx Tryz.f266.results.toList 300 (bodyOf Tryz.f266) (initSt Tryz.f266.ntmps [.sl shRef l, .clo (.func 237) [] [.ptr 0 0]] [.box [.clo (.func 192) [] []]]) = .ok (.head 2 (headK Tryz.f266 2) (s152_136 l 0)) := by kernel_rfl
theorem on152_136 (l : List (Sem shRef)) (i : Int) : run env37 1 kpIx Tryz.f266.results.toList 300 (headK Tryz.f266 2) (s152_136 l i) = ixTree (K := headK Tryz.f266 2) (e := shRef) l (fun x => !refOk x) (s152_136 l) [.box [.clo (.func 192) [] []]] i := by kernel_rfl

theorem ok152 : fnChk env37.P 266 Tryz.f266 2 := by refine ⟨?_, ?_, ?_, ?_⟩ <;> kernel_rfl
def G152 : GSem [some (.sl shRef), none] := fun x h => match x, h with
 | (l, .clo (.func 237) [] [.ptr 0 0], _), [.box [.clo (.func 192) [] []]] => .ok (.int .i64 (ixFrom (fun x => !refOk x) l 0), [.box [.clo (.func 192) [] []]])
 | _, _ => .err
def F152 : FSem := liftF [some (.sl shRef), none] G152
theorem FOk152 : FOk env37.P env37.gl 266 F152 := by
 refine FOk_of ok152 fun x h0 res hx C hC => ?_
 unfold G152 at hx
 split at hx
 ·rename_i l u
  simp only [Tr.val_ok, Option.some.injEq] at hx
  subst hx
  refine Reach.len 0 shRef l rfl fun hl => ?_
  refine reach_ok (n0 := 1) env37_all env37_mix ok152 hC (go152_136 l) ?_
  exact reach_ixf l (fun x => !refOk x) (s152_136 l) env37_all env37_mix ok152 hC (on152_136 l) hl _ 0 rfl (Nat.zero_le _)
 ·simp at hx

abbrev s139_115 (l : LS) (i : Int) : St := { tmps := [.sl Sh.str l, .clo (.func 203) [] [.ptr 0 0], .any, .any, .any, .any, .any, .int .i64 l.length, .int .i64 i, .any, .any, .any, .any, .any, .any, .any, .any, .any, .any], heap := [.box [.clo (.func 151) [] []]] }
theorem go139_115 (l : LS) : run env37 1 kpIx Tryz.f241.results.toList 300 (bodyOf Tryz.f241) (initSt Tryz.f241.ntmps [.sl Sh.str l, .clo (.func 203) [] [.ptr 0 0]] [.box [.clo (.func 151) [] []]]) = .ok (.head 2 (headK Tryz.f241 2) (s139_115 l 0)) := by kernel_rfl
theorem on139_115 (l : LS) (i : Int) : run env37 1 kpIx Tryz.f241.results.toList 300 (headK Tryz.f241 2) (s139_115 l i) = ixTree (K := headK Tryz.f241 2) (e := Sh.str) l (fun x => !sName x) (s139_115 l) [.box [.clo (.func 151) [] []]] i := by kernel_rfl

theorem ok139 : fnChk env37.P 241 Tryz.f241 2 := by refine ⟨?_, ?_, ?_, ?_⟩ <;> kernel_rfl
def G139 : GSem [some (.sl Sh.str), none] := fun x h => match x, h with
 | (l, .clo (.func 203) [] [.ptr 0 0], _), [.box [.clo (.func 151) [] []]] => .ok (.int .i64 (ixFrom (fun x => !sName x) l 0), [.box [.clo (.func 151) [] []]])
 | _, _ => .err
def F139 : FSem := liftF [some (.sl Sh.str), none] G139
theorem FOk139 : FOk env37.P env37.gl 241 F139 := by
 refine FOk_of ok139 fun x h0 res hx C hC => ?_
 unfold G139 at hx
 split at hx
 ·rename_i l u
  simp only [Tr.val_ok, Option.some.injEq] at hx
  subst hx
  refine Reach.len 0 Sh.str l rfl fun hl => ?_
  refine reach_ok (n0 := 1) env37_all env37_mix ok139 hC (go139_115 l) ?_
  exact reach_ixf l (fun x => !sName x) (s139_115 l) env37_all env37_mix ok139 hC (on139_115 l) hl _ 0 rfl (Nat.zero_le _)
 ·simp at hx

abbrev s137_110 (l : LV) (i : Int) : St := { tmps := [.sl shVal l, .clo (.func 196) [] [.ptr 0 0], .any, .any, .any, .any, .any, .int .i64 l.length, .int .i64 i, .any, .any, .any, .any, .any, .any, .any, .any, .any, .any], heap := [.box [.clo (.func 154) [] []]] }
theorem go137_110 (l : LV) : run env37 1 kpIx Tryz.f238.results.toList 300 (bodyOf Tryz.f238) (initSt Tryz.f238.ntmps [.sl shVal l, .clo (.func 196) [] [.ptr 0 0]] [.box [.clo (.func 154) [] []]]) = .ok (.head 2 (headK Tryz.f238 2) (s137_110 l 0)) := by kernel_rfl
theorem on137_110 (l : LV) (i : Int) : run env37 1 kpIx Tryz.f238.results.toList 300 (headK Tryz.f238 2) (s137_110 l i) = ixTree (K := headK Tryz.f238 2) (e := shVal) l (fun x => !vMay x) (s137_110 l) [.box [.clo (.func 154) [] []]] i := by kernel_rfl

theorem ok137 : fnChk env37.P 238 Tryz.f238 2 := by refine ⟨?_, ?_, ?_, ?_⟩ <;> kernel_rfl
def G137 : GSem [some (.sl shVal), none] := fun x h => match x, h with
 | (l, .clo (.func 196) [] [.ptr 0 0], _), [.box [.clo (.func 154) [] []]] => .ok (.int .i64 (ixFrom (fun x => !vMay x) l 0), [.box [.clo (.func 154) [] []]])
 | _, _ => .err
def F137 : FSem := liftF [some (.sl shVal), none] G137
theorem FOk137 : FOk env37.P env37.gl 238 F137 := by
 refine FOk_of ok137 fun x h0 res hx C hC => ?_
 unfold G137 at hx
 split at hx
 ·rename_i l u
  simp only [Tr.val_ok, Option.some.injEq] at hx
  subst hx
  refine Reach.len 0 shVal l rfl fun hl => ?_
  refine reach_ok (n0 := 1) env37_all env37_mix ok137 hC (go137_110 l) ?_
  exact reach_ixf l (fun x => !vMay x) (s137_110 l) env37_all env37_mix ok137 hC (on137_110 l) hl _ 0 rfl (Nat.zero_le _)
 ·simp at hx

abbrev s138_112 (l : List (Sem shSet)) (i : Int) : St := { tmps := [.sl shSet l, .clo (.func 200) [] [.ptr 0 0], .any, .any, .any, .any, .any, .int .i64 l.length, .int .i64 i, .any, .any, .any, .any, .any, .any, .any, .any, .any, .any], heap := [.box [.clo (.func 155) [] []]] }
theorem go138_112 (l : List (Sem shSet)) : run env37 1 kpIx Tryz.f240.results.toList 300 (bodyOf Tryz.f240) (initSt Tryz.f240.ntmps [.sl shSet l, .clo (.func 200) [] [.ptr 0 0]] [.box [.clo (.func 155) [] []]]) = .ok (.head 2 (headK Tryz.f240 2) (s138_112 l 0)) := by kernel_rfl
theorem on138_112 (l : List (Sem shSet)) (i : Int) : run env37 1 kpIx Tryz.f240.results.toList 300 (headK Tryz.f240 2) (s138_112 l i) = ixTree (K := headK Tryz.f240 2) (e := shSet) l (fun x => !setOk x) (s138_112 l) [.box [.clo (.func 155) [] []]] i := by kernel_rfl

theorem ok138 : fnChk env37.P 240 Tryz.f240 2 := by refine ⟨?_, ?_, ?_, ?_⟩ <;> kernel_rfl
def G138 : GSem [some (.sl shSet), none] := fun x h => match x, h with
 | (l, .clo (.func 200) [] [.ptr 0 0], _), [.box [.clo (.func 155) [] []]] => .ok (.int .i64 (ixFrom (fun x => !setOk x) l 0), [.box [.clo (.func 155) [] []]])
 | _, _ => .err
def F138 : FSem := liftF [some (.sl shSet), none] G138
theorem FOk138 : FOk env37.P env37.gl 240 F138 := by
 refine FOk_of ok138 fun x h0 res hx C hC => ?_
 unfold G138 at hx
 split at hx
 ·rename_i l u
  simp only [Tr.val_ok, Option.some.injEq] at hx
  subst hx
  refine Reach.len 0 shSet l rfl fun hl => ?_
  refine reach_ok (n0 := 1) env37_all env37_mix ok138 hC (go138_112 l) ?_
  exact reach_ixf l (fun x => !setOk x) (s138_112 l) env37_all env37_mix ok138 hC (on138_112 l) hl _ 0 rfl (Nat.zero_le _)
 ·simp at hx

abbrev kp127 : Nat → Keep := fun _ => { }
theorem ok127 : fnChk (env37).P 216 Tryz.f216 1 := by refine ⟨?_, ?_, ?_, ?_⟩ <;> kernel_rfl
theorem go127 (x0 : Sem Sh.expr) : run (env37) 0 kp127 (Func.results Tryz.f216).toList 400 (bodyOf Tryz.f216) (initSt (Func.ntmps Tryz.f216) [datum Sh.expr x0] []) = Tr.br (!eMay (etaE x0)) (Tr.ok (Leaf.ret (AV.tup [AV.str [], ai 1]) [])) (Tr.chk (eTextCN 16 (etaE x0)) (Tr.ok (Leaf.ret (AV.tup [AV.str (eTextN 16 (etaE x0)), ai 0]) []))) := by kernel_rfl
def exText (x0 : Sem Sh.expr) : Sem Sh.str × Sem shInt := (if (!eMay x0) = true then ([], 1) else (eTextN 16 x0, 0))
def exTextC (x0 : Sem Sh.expr) : Bool := (if (!eMay x0) = true then true else if eTextCN 16 x0 = true then true else false)
def F127 : FSem := plainC [Sh.expr] [Sh.str, shInt] (fun x => exTextC x.1) fun x => ((exText x.1).1, (exText x.1).2, ())
theorem FOk127 : FOk (env37).P (env37).gl 216 F127 := by
 refine FOk_plainC (ok127) fun x hc C hC => ?_
 unfold exTextC at hc
 refine reach_ok env37_all env37_mix (ok127) (fun id _ => hC id) (go127 x.1) ?_
 generalize hy : exText x.1 = y
 unfold exText at hy
 try simp only [ExprT.eta]
 repeat' (first | with_reducible refine obr hy hc (fun _ hy hc => ?_) (fun _ hy hc => ?_) | with_reducible refine obr1 hy (fun _ hy => ?_) (fun _ hy => ?_) | with_reducible refine ochk hc (fun hc => ?_) | with_reducible refine OptOk_chkT ?_)
 all_goals first | (cases hc; done) | (subst hy; first | rfl)

abbrev kp69 : Nat → Keep := fun j => if j = 3 then { slots := [0, 4, 5], prom := [(4, none, shTok)] } else { }
abbrev s69_3 (s0 : TS) (i5 : Int) (lh_0 : LF) : St := { tmps := [AV.str s0, ny, ny, ny, AV.vec 0, ai i5, ny, ny, ny, ny, ny, ny, ny, ny, ny, ny, ny, ny, ny, ny, ny, ny, ny, ny, ny, ny, ny, ny, ny, ny, ny, ny, ny, ny, ny, ny, ny, ny, ny, ny, ny, ny, ny, ny, ny, ny, ny], heap := [AO.vec shFor lh_0] }
theorem ok69 : fnChk (env37).P 120 Tryz.f120 1 := by refine ⟨?_, ?_, ?_, ?_⟩ <;> kernel_rfl
theorem go69 (x0 : TS) : run (env37) 0 kp69 (Func.results Tryz.f120).toList 400 (bodyOf Tryz.f120) (initSt (Func.ntmps Tryz.f120) [datum Sh.str x0] []) = Tr.ok (Leaf.head 3 (headK Tryz.f120 3) (s69_3 x0 0 [])) := by kernel_rfl
theorem on69_3 (s0 : TS) (i5 : Int) (lh_0 : LF) : run (env37) 0 kp69 (Func.results Tryz.f120).toList 400 (headK Tryz.f120 3) (s69_3 s0 i5 lh_0) = Tr.br (decide (i5 < (↑(List.length s0) : Int))) (Tr.chk (inB i5 (List.length s0) && bif (↑(List.getD s0 i5.toNat 0).toNat : Int) == 32 then true else inB i5 (List.length s0)) (Tr.br (bif (↑(List.getD s0 i5.toNat 0).toNat : Int) == 32 then true else (↑(List.getD s0 i5.toNat 0).toNat : Int) == 10) (Tr.ok (Leaf.head 3 (headK Tryz.f120 3) (s69_3 s0 (IntKind.i64.wrap (i5 + 1)) lh_0))) (Tr.chk (decide (0 ≤ i5) && decide (i5 ≤ (↑(List.length s0) : Int)) && decide ((↑(List.length s0) : Int) ≤ (↑(List.length s0) : Int))) (Tr.chk (tokFirstC (List.take ((↑(List.length s0) : Int).toNat - i5.toNat) (List.drop i5.toNat s0))) (Tr.chk (tokMayC (tokFirst (List.take ((↑(List.length s0) : Int).toNat - i5.toNat) (List.drop i5.toNat s0))).1) (Tr.br (bif !tokMay (tokFirst (List.take ((↑(List.length s0) : Int).toNat - i5.toNat) (List.drop i5.toNat s0))).1 then true else (↑lh_0.length : Int) == 400) (Tr.ok (Leaf.ret (AV.tup [AV.nils, ai 2]) [])) (Tr.chk (decide (lh_0.length + [(tokFirst (List.take ((↑(List.length s0) : Int).toNat - i5.toNat) (List.drop i5.toNat s0))).1].length ≤ 1073741824)) (Tr.ok (Leaf.head 3 (headK Tryz.f120 3) (s69_3 s0 (IntKind.i64.wrap (i5 + (tokFirst (List.take ((↑(List.length s0) : Int).toNat - i5.toNat) (List.drop i5.toNat s0))).2))
 (lh_0 ++ [(tokFirst (List.take ((↑(List.length s0) : Int).toNat - i5.toNat) (List.drop i5.toNat s0))).1]))))))))))) (Tr.ok (Leaf.ret (AV.tup [AV.vec 0, ai 0]) [AO.vec shFor lh_0])) := by kernel_rfl
def cut_3 : Nat → (Sem Sh.str) → Int → (List (Sem shFor)) → Sem shTok.sl × Sem shInt
 | 0, _, _, _ => default
 | n + 1, s0, i5, lh_0 => (if decide (i5 < (↑(List.length s0) : Int)) = true then
 if (bif (↑(List.getD s0 i5.toNat 0).toNat : Int) == 32 then true else (↑(List.getD s0 i5.toNat 0).toNat : Int) == 10) = true then
  cut_3 n s0 (IntKind.i64.wrap (i5 + 1)) lh_0
 else
  if
    (bif !tokMay (tokFirst (List.take ((↑(List.length s0) : Int).toNat - i5.toNat) (List.drop i5.toNat s0))).1 then true
     else (↑lh_0.length : Int) == 400) =
     true then
   ([], 2)
  else
   cut_3 n s0 (IntKind.i64.wrap (i5 + (tokFirst (List.take ((↑(List.length s0) : Int).toNat - i5.toNat) (List.drop i5.toNat s0))).2))
    (lh_0 ++ [(tokFirst (List.take ((↑(List.length s0) : Int).toNat - i5.toNat) (List.drop i5.toNat s0))).1])
else (lh_0, 0))
def cutC_3 : Nat → (Sem Sh.str) → Int → (List (Sem shFor)) → Bool
 | 0, _, _, _ => false
 | n + 1, s0, i5, lh_0 => (if decide (i5 < (↑(List.length s0) : Int)) = true then
 if (inB i5 (List.length s0) && bif (↑(List.getD s0 i5.toNat 0).toNat : Int) == 32 then true else inB i5 (List.length s0)) = true then
  if (bif (↑(List.getD s0 i5.toNat 0).toNat : Int) == 32 then true else (↑(List.getD s0 i5.toNat 0).toNat : Int) == 10) = true then
   cutC_3 n s0 (IntKind.i64.wrap (i5 + 1)) lh_0
  else
   if (decide (0 ≤ i5) && decide (i5 ≤ (↑(List.length s0) : Int)) && decide ((↑(List.length s0) : Int) ≤ (↑(List.length s0) : Int))) = true then
    if tokFirstC (List.take ((↑(List.length s0) : Int).toNat - i5.toNat) (List.drop i5.toNat s0)) = true then
     if tokMayC (tokFirst (List.take ((↑(List.length s0) : Int).toNat - i5.toNat) (List.drop i5.toNat s0))).1 = true then
      if
        (bif !tokMay (tokFirst (List.take ((↑(List.length s0) : Int).toNat - i5.toNat) (List.drop i5.toNat s0))).1 then true
         else (↑lh_0.length : Int) == 400) =
         true then
       true
      else
       if
         decide (lh_0.length + [(tokFirst (List.take ((↑(List.length s0) : Int).toNat - i5.toNat) (List.drop i5.toNat s0))).1].length ≤ 1073741824) =
          true then
        cutC_3 n s0 (IntKind.i64.wrap (i5 + (tokFirst (List.take ((↑(List.length s0) : Int).toNat - i5.toNat) (List.drop i5.toNat s0))).2))
         (lh_0 ++ [(tokFirst (List.take ((↑(List.length s0) : Int).toNat - i5.toNat) (List.drop i5.toNat s0))).1])
       else false
     else false
    else false
   else false
 else false
else true)
theorem at69_3 {C : Ctx} (hC : ∀ id, C.ρ0 id = none) : ∀ (n : Nat) (s0 : TS) (i5 : Int) (lh_0 : LF), cutC_3 n s0 i5 lh_0 = true →
  Reach (env37) C 120 (headK Tryz.f120 3) (s69_3 s0 i5 lh_0) (fun r h => resOf h [shTok.sl, shInt] r = some ((cut_3 n s0 i5 lh_0).1, (cut_3 n s0 i5 lh_0).2, ()))
 | 0, s0, i5, lh_0, hc => by cases hc
 | n + 1, s0, i5, lh_0, hc => by
  refine reach_ok env37_all env37_mix (ok69) (fun id _ => hC id) (on69_3 _ _ _) ?_
  rw [cutC_3] at hc
  generalize hy : cut_3 (n + 1) s0 i5 lh_0 = y
  rw [cut_3] at hy
  try simp only [ExprT.eta, etaE_eq]
  repeat' (first | with_reducible refine obr hy hc (fun _ hy hc => ?_) (fun _ hy hc => ?_) | with_reducible refine obr1 hy (fun _ hy => ?_) (fun _ hy => ?_) | with_reducible refine ochk hc (fun hc => ?_) | with_reducible refine OptOk_chkT ?_)
  all_goals first | (cases hc; done) | (subst hy; first | (change Reach _ _ _ _ _ _; refine at69_3 hC n _ _ _ ?_ <;> exact hc) | rfl)
def cut (x0 : TS) : Sem shTok.sl × Sem shInt := (cut_3 (List.length x0 + 1) x0 0 [])
def cutC (x0 : TS) : Bool := (cutC_3 (List.length x0 + 1) x0 0 [])
def F69 : FSem := plainC [Sh.str] [shTok.sl, shInt] (fun x => cutC x.1) fun x => ((cut x.1).1, (cut x.1).2, ())
theorem FOk69 : FOk (env37).P (env37).gl 120 F69 := by
 refine FOk_plainC (ok69) fun x hc C hC => ?_
 unfold cutC at hc
 refine reach_ok env37_all env37_mix (ok69) (fun id _ => hC id) (go69 x.1) ?_
 generalize hy : cut x.1 = y
 unfold cut at hy
 try simp only [ExprT.eta, etaE_eq]
 repeat' (first | with_reducible refine obr hy hc (fun _ hy hc => ?_) (fun _ hy hc => ?_) | with_reducible refine obr1 hy (fun _ hy => ?_) (fun _ hy => ?_) | with_reducible refine ochk hc (fun hc => ?_) | with_reducible refine OptOk_chkT ?_)
 all_goals first | (cases hc; done) | (subst hy; first | (change Reach _ _ _ _ _ _; refine at69_3 hC _ _ _ _ ?_ <;> exact hc) | rfl)

noncomputable def env38 : Env := (((((((env37.add 54 F27b).add 266 F152).add 241 F139).add 238 F137).add 240 F138).add 216 F127).add 120 F69)
theorem env38_all : EnvAll env38 := (EnvAll.addS (EnvAll.addS (EnvAll.addS (EnvAll.addS (EnvAll.addS (EnvAll.addS (EnvAll.addS env37_all (SameE.refl env37) FOk27b) ((SameE.refl env37).add _ _) FOk152) (((SameE.refl env37).add _ _).add _ _) FOk139) ((((SameE.refl env37).add _ _).add _ _).add _ _) FOk137) (((((SameE.refl env37).add _ _).add _ _).add _ _).add _ _) FOk138) ((((((SameE.refl env37).add _ _).add _ _).add _ _).add _ _).add _ _) FOk127) (((((((SameE.refl env37).add _ _).add _ _).add _ _).add _ _).add _ _).add _ _) FOk69)
theorem env38_mix : env38.P.follows .mixedOrders = true := (mix_add (mix_add (mix_add (mix_add (mix_add (mix_add (mix_add env37_mix _ _) _ _) _ _) _ _) _ _) _ _) _ _)
open Go Go.Proofs
set_option maxHeartbeats 4000000

noncomputable def F133 : FSem := liftF (List.replicate 2 none) (autoG env38 Tryz.f234 (List.replicate 2 none))
theorem FOk133 : FOk env38.P env38.gl 234 F133 := FOk_auto _ env38_all env38_mix (by refine ⟨?_, ?_, ?_, ?_⟩ <;> kernel_rfl)

noncomputable def F135 : FSem := liftF (List.replicate 2 none) (autoG env38 Tryz.f236 (List.replicate 2 none))
theorem FOk135 : FOk env38.P env38.gl 236 F135 := FOk_auto _ env38_all env38_mix (by refine ⟨?_, ?_, ?_, ?_⟩ <;> kernel_rfl)

noncomputable def F114 : FSem := liftF (List.replicate 2 none) (autoG env38 Tryz.f202 (List.replicate 2 none))
theorem FOk114 : FOk env38.P env38.gl 202 F114 := FOk_auto _ env38_all env38_mix (by refine ⟨?_, ?_, ?_, ?_⟩ <;> kernel_rfl)

noncomputable def F109 : FSem := liftF (List.replicate 2 none) (autoG env38 Tryz.f195 (List.replicate 2 none))
theorem FOk109 : FOk env38.P env38.gl 195 F109 := FOk_auto _ env38_all env38_mix (by refine ⟨?_, ?_, ?_, ?_⟩ <;> kernel_rfl)

noncomputable def F111 : FSem := liftF (List.replicate 2 none) (autoG env38 Tryz.f199 (List.replicate 2 none))
theorem FOk111 : FOk env38.P env38.gl 199 F111 := FOk_auto _ env38_all env38_mix (by refine ⟨?_, ?_, ?_, ?_⟩ <;> kernel_rfl)

abbrev kp94 : Nat → Keep := fun _ => { }
theorem ok94 : fnChk (env38).P 166 Tryz.f166 1 := by refine ⟨?_, ?_, ?_, ?_⟩ <;> kernel_rfl
theorem go94 (x0 : Sem Sh.expr) : run (env38) 0 kp94 (Func.results Tryz.f166).toList 400 (bodyOf Tryz.f166) (initSt (Func.ntmps Tryz.f166) [datum Sh.expr x0] []) = Tr.chk (exTextC (etaE x0)) (Tr.ok (Leaf.ret (AV.str (exText (etaE x0)).1) [])) := by kernel_rfl
def written (x0 : Sem Sh.expr) : Sem Sh.str := ((exText x0).1)
def writtenC (x0 : Sem Sh.expr) : Bool := (if exTextC x0 = true then true else false)
def F94 : FSem := plainC [Sh.expr] [Sh.str] (fun x => writtenC x.1) fun x => (written x.1, ())
theorem FOk94 : FOk (env38).P (env38).gl 166 F94 := by
 refine FOk_plainC (ok94) fun x hc C hC => ?_
 unfold writtenC at hc
 refine reach_ok env38_all env38_mix (ok94) (fun id _ => hC id) (go94 x.1) ?_
 generalize hy : written x.1 = y
 unfold written at hy
 try simp only [ExprT.eta]
 repeat' (first | with_reducible refine obr hy hc (fun _ hy hc => ?_) (fun _ hy hc => ?_) | with_reducible refine obr1 hy (fun _ hy => ?_) (fun _ hy => ?_) | with_reducible refine ochk hc (fun hc => ?_) | with_reducible refine OptOk_chkT ?_)
 all_goals first | (cases hc; done) | (subst hy; first | rfl)

noncomputable def env39 : Env := ((((((env38.add 234 F133).add 236 F135).add 202 F114).add 195 F109).add 199 F111).add 166 F94)
theorem env39_all : EnvAll env39 := (EnvAll.addS (EnvAll.addS (EnvAll.addS (EnvAll.addS (EnvAll.addS (EnvAll.addS env38_all (SameE.refl env38) FOk133) ((SameE.refl env38).add _ _) FOk135) (((SameE.refl env38).add _ _).add _ _) FOk114) ((((SameE.refl env38).add _ _).add _ _).add _ _) FOk109) (((((SameE.refl env38).add _ _).add _ _).add _ _).add _ _) FOk111) ((((((SameE.refl env38).add _ _).add _ _).add _ _).add _ _).add _ _) FOk94)
theorem env39_mix : env39.P.follows .mixedOrders = true := (mix_add (mix_add (mix_add (mix_add (mix_add (mix_add env38_mix _ _) _ _) _ _) _ _) _ _) _ _)
open Go Go.Proofs
set_option maxHeartbeats 4000000

noncomputable def F107 : FSem := liftF (List.replicate 4 none) (autoG env39 Tryz.f193 (List.replicate 4 none))
theorem FOk107 : FOk env39.P env39.gl 193 F107 := FOk_auto _ env39_all env39_mix (by refine ⟨?_, ?_, ?_, ?_⟩ <;> kernel_rfl)

noncomputable def F108 : FSem := liftF (List.replicate 4 none) (autoG env39 Tryz.f194 (List.replicate 4 none))
theorem FOk108 : FOk env39.P env39.gl 194 F108 := FOk_auto _ env39_all env39_mix (by refine ⟨?_, ?_, ?_, ?_⟩ <;> kernel_rfl)

noncomputable def F86 : FSem := liftF (List.replicate 4 none) (autoG env39 Tryz.f158 (List.replicate 4 none))
theorem FOk86 : FOk env39.P env39.gl 158 F86 := FOk_auto _ env39_all env39_mix (by refine ⟨?_, ?_, ?_, ?_⟩ <;> kernel_rfl)

noncomputable def F82 : FSem := liftF (List.replicate 4 none) (autoG env39 Tryz.f153 (List.replicate 4 none))
theorem FOk82 : FOk env39.P env39.gl 153 F82 := FOk_auto _ env39_all env39_mix (by refine ⟨?_, ?_, ?_, ?_⟩ <;> kernel_rfl)

noncomputable def F84 : FSem := liftF (List.replicate 4 none) (autoG env39 Tryz.f156 (List.replicate 4 none))
theorem FOk84 : FOk env39.P env39.gl 156 F84 := FOk_auto _ env39_all env39_mix (by refine ⟨?_, ?_, ?_, ?_⟩ <;> kernel_rfl)

abbrev kp96 : Nat → Keep := fun _ => { }
theorem ok96 : fnChk (env39).P 168 Tryz.f168 1 := by refine ⟨?_, ?_, ?_, ?_⟩ <;> kernel_rfl
theorem go96 (x0 : Sem Sh.expr) : run (env39) 0 kp96 (Func.results Tryz.f168).toList 400 (bodyOf Tryz.f168) (initSt (Func.ntmps Tryz.f168) [datum Sh.expr x0] []) = Tr.br (eNone (etaE x0)) (Tr.ok (Leaf.ret (AV.str []) [])) (Tr.chk (writtenC (etaE x0)) (Tr.chk (decide ([32, 87, 72, 69, 82, 69, 32].length + List.length (written (etaE x0)) ≤ 1099511627776)) (Tr.ok (Leaf.ret (AV.str ([32, 87, 72, 69, 82, 69, 32] ++ written (etaE x0))) [])))) := by kernel_rfl
def wText (x0 : Sem Sh.expr) : Sem Sh.str := (if eNone x0 = true then [] else [32, 87, 72, 69, 82, 69, 32] ++ written x0)
def wTextC (x0 : Sem Sh.expr) : Bool := (if eNone x0 = true then true else if writtenC x0 = true then if decide ([32, 87, 72, 69, 82, 69, 32].length + List.length (written x0) ≤ 1099511627776) = true then true else false else false)
def F96 : FSem := plainC [Sh.expr] [Sh.str] (fun x => wTextC x.1) fun x => (wText x.1, ())
theorem FOk96 : FOk (env39).P (env39).gl 168 F96 := by
 refine FOk_plainC (ok96) fun x hc C hC => ?_
 unfold wTextC at hc
 refine reach_ok env39_all env39_mix (ok96) (fun id _ => hC id) (go96 x.1) ?_
 generalize hy : wText x.1 = y
 unfold wText at hy
 try simp only [ExprT.eta]
 repeat' (first | with_reducible refine obr hy hc (fun _ hy hc => ?_) (fun _ hy hc => ?_) | with_reducible refine obr1 hy (fun _ hy => ?_) (fun _ hy => ?_) | with_reducible refine ochk hc (fun hc => ?_) | with_reducible refine OptOk_chkT ?_)
 all_goals first | (cases hc; done) | (subst hy; first | rfl)

abbrev kp98 : Nat → Keep := fun _ => { }
theorem ok98 : fnChk (env39).P 170 Tryz.f170 2 := by refine ⟨?_, ?_, ?_, ?_⟩ <;> kernel_rfl
theorem go98 (x0 : TS) (x1 : Sem Sh.expr) : run (env39) 0 kp98 (Func.results Tryz.f170).toList 400 (bodyOf Tryz.f170) (initSt (Func.ntmps Tryz.f170) [datum Sh.str x0, datum Sh.expr x1] []) = Tr.br (eNone (etaE x1)) (Tr.ok (Leaf.ret (AV.str []) [])) (Tr.chk (decide (List.length x0 + [67, 72, 69, 67, 75, 32, 40, 32].length ≤ 1099511627776)) (Tr.chk (writtenC (etaE x1)) (Tr.chk (decide (List.length (x0 ++ [67, 72, 69, 67, 75, 32, 40, 32]) + List.length (written (etaE x1)) ≤ 1099511627776)) (Tr.chk (decide (List.length (x0 ++ [67, 72, 69, 67, 75, 32, 40, 32] ++ written (etaE x1)) + [32, 41].length ≤ 1099511627776)) (Tr.ok (Leaf.ret (AV.str (x0 ++ [67, 72, 69, 67, 75, 32, 40, 32] ++ written (etaE x1) ++ [32, 41])) [])))))) := by kernel_rfl
def chText (x0 : TS) (x1 : Sem Sh.expr) : Sem Sh.str := (if eNone x1 = true then [] else x0 ++ [67, 72, 69, 67, 75, 32, 40, 32] ++ written x1 ++ [32, 41])
def chTextC (x0 : TS) (x1 : Sem Sh.expr) : Bool := (if eNone x1 = true then true else if decide (List.length x0 + [67, 72, 69, 67, 75, 32, 40, 32].length ≤ 1099511627776) = true then if writtenC x1 = true then if decide (List.length (x0 ++ [67, 72, 69, 67, 75, 32, 40, 32]) + List.length (written x1) ≤ 1099511627776) = true then if decide (List.length (x0 ++ [67, 72, 69, 67, 75, 32, 40, 32] ++ written x1) + [32, 41].length ≤ 1099511627776) = true then true else false else false else false else false)
def F98 : FSem := plainC [Sh.str, Sh.expr] [Sh.str] (fun x => chTextC x.1 x.2.1) fun x => (chText x.1 x.2.1, ())
theorem FOk98 : FOk (env39).P (env39).gl 170 F98 := by
 refine FOk_plainC (ok98) fun x hc C hC => ?_
 unfold chTextC at hc
 refine reach_ok env39_all env39_mix (ok98) (fun id _ => hC id) (go98 x.1 x.2.1) ?_
 generalize hy : chText x.1 x.2.1 = y
 unfold chText at hy
 try simp only [ExprT.eta]
 repeat' (first | with_reducible refine obr hy hc (fun _ hy hc => ?_) (fun _ hy hc => ?_) | with_reducible refine obr1 hy (fun _ hy => ?_) (fun _ hy => ?_) | with_reducible refine ochk hc (fun hc => ?_) | with_reducible refine OptOk_chkT ?_)
 all_goals first | (cases hc; done) | (subst hy; first | rfl)

abbrev kp93 : Nat → Keep := fun _ => { }
theorem ok93 : fnChk (env39).P 165 Tryz.f165 1 := by refine ⟨?_, ?_, ?_, ?_⟩ <;> kernel_rfl
theorem go93 (x0 : Sem shSet) : run (env39) 0 kp93 (Func.results Tryz.f165).toList 400 (bodyOf Tryz.f165) (initSt (Func.ntmps Tryz.f165) [datum shSet x0] []) = Tr.chk (decide (List.length x0.1 + [32, 61, 32].length ≤ 1099511627776)) (Tr.chk (writtenC (etaE x0.2)) (Tr.chk (decide (List.length (x0.1 ++ [32, 61, 32]) + List.length (written (etaE x0.2)) ≤ 1099511627776)) (Tr.ok (Leaf.ret (AV.str (x0.1 ++ [32, 61, 32] ++ written (etaE x0.2))) [])))) := by kernel_rfl
def setText (x0 : Sem shSet) : Sem Sh.str := (x0.1 ++ [32, 61, 32] ++ written x0.2)
def setTextC (x0 : Sem shSet) : Bool := (if decide (List.length x0.1 + [32, 61, 32].length ≤ 1099511627776) = true then if writtenC x0.2 = true then if decide (List.length (x0.1 ++ [32, 61, 32]) + List.length (written x0.2) ≤ 1099511627776) = true then true else false else false else false)
def F93 : FSem := plainC [shSet] [Sh.str] (fun x => setTextC x.1) fun x => (setText x.1, ())
theorem FOk93 : FOk (env39).P (env39).gl 165 F93 := by
 refine FOk_plainC (ok93) fun x hc C hC => ?_
 unfold setTextC at hc
 refine reach_ok env39_all env39_mix (ok93) (fun id _ => hC id) (go93 x.1) ?_
 generalize hy : setText x.1 = y
 unfold setText at hy
 try simp only [ExprT.eta]
 repeat' (first | with_reducible refine obr hy hc (fun _ hy hc => ?_) (fun _ hy hc => ?_) | with_reducible refine obr1 hy (fun _ hy => ?_) (fun _ hy => ?_) | with_reducible refine ochk hc (fun hc => ?_) | with_reducible refine OptOk_chkT ?_)
 all_goals first | (cases hc; done) | (subst hy; first | rfl)

noncomputable def env40 : Env := ((((((((env39.add 193 F107).add 194 F108).add 158 F86).add 153 F82).add 156 F84).add 168 F96).add 170 F98).add 165 F93)
theorem env40_all : EnvAll env40 := (EnvAll.addS (EnvAll.addS (EnvAll.addS (EnvAll.addS (EnvAll.addS (EnvAll.addS (EnvAll.addS (EnvAll.addS env39_all (SameE.refl env39) FOk107) ((SameE.refl env39).add _ _) FOk108) (((SameE.refl env39).add _ _).add _ _) FOk86) ((((SameE.refl env39).add _ _).add _ _).add _ _) FOk82) (((((SameE.refl env39).add _ _).add _ _).add _ _).add _ _) FOk84) ((((((SameE.refl env39).add _ _).add _ _).add _ _).add _ _).add _ _) FOk96) (((((((SameE.refl env39).add _ _).add _ _).add _ _).add _ _).add _ _).add _ _) FOk98) ((((((((SameE.refl env39).add _ _).add _ _).add _ _).add _ _).add _ _).add _ _).add _ _) FOk93)
theorem env40_mix : env40.P.follows .mixedOrders = true := (mix_add (mix_add (mix_add (mix_add (mix_add (mix_add (mix_add (mix_add env39_mix _ _) _ _) _ _) _ _) _ _) _ _) _ _) _ _)
open Go Go.Proofs
set_option maxHeartbeats 4000000

abbrev kp81 : Nat → Keep := fun _ => { }
theorem ok81 : fnChk (env40).P 152 Tryz.f152 1 := by refine ⟨?_, ?_, ?_, ?_⟩ <;> kernel_rfl
theorem go81 (x0 : Sem shStmt) : run (env40) 0 kp81 (Func.results Tryz.f152).toList 400 (bodyOf Tryz.f152) (initSt (Func.ntmps Tryz.f152) [datum shStmt x0] []) = Tr.ok (Leaf.ret (AV.bool (bif bif decide ((↑(List.length x0.2.2.2.2.1) : Int) < 1) then true else decide ((↑(List.length x0.2.2.2.2.1) : Int) > 8) then false else bif !decide (ixFrom (fun x => !colOk x) x0.2.2.2.2.1 0 ≥ 0) then bif sName x0.2.2.2.2.2.1 then bif bif decide ((↑(List.length x0.2.2.2.2.2.2.1) : Int) < 0) then true else decide ((↑(List.length x0.2.2.2.2.2.2.1) : Int) > 8) then false else bif !decide (ixFrom (fun x => !sName x) x0.2.2.2.2.2.2.1 0 ≥ 0) then bif bif decide ((↑(List.length x0.2.2.2.2.2.2.2.1) : Int) < 0) then true else decide ((↑(List.length x0.2.2.2.2.2.2.2.1) : Int) > 8) then false else bif !decide (ixFrom (fun x => !refOk x) x0.2.2.2.2.2.2.2.1 0 ≥ 0) then eMaybe (etaE x0.2.2.2.2.2.2.2.2.1) else false else false else false else false)) []) := by kernel_rfl
def creates (x0 : Sem shStmt) : Sem Sh.bool := (bif bif decide ((↑(List.length x0.2.2.2.2.1) : Int) < 1) then true else decide ((↑(List.length x0.2.2.2.2.1) : Int) > 8) then false else bif !decide (ixFrom (fun x => !colOk x) x0.2.2.2.2.1 0 ≥ 0) then bif sName x0.2.2.2.2.2.1 then bif bif decide ((↑(List.length x0.2.2.2.2.2.2.1) : Int) < 0) then true else decide ((↑(List.length x0.2.2.2.2.2.2.1) : Int) > 8) then false else bif !decide (ixFrom (fun x => !sName x) x0.2.2.2.2.2.2.1 0 ≥ 0) then bif bif decide ((↑(List.length x0.2.2.2.2.2.2.2.1) : Int) < 0) then true else decide ((↑(List.length x0.2.2.2.2.2.2.2.1) : Int) > 8) then false else bif !decide (ixFrom (fun x => !refOk x) x0.2.2.2.2.2.2.2.1 0 ≥ 0) then eMaybe x0.2.2.2.2.2.2.2.2.1 else false else false else false else false)
def F81 : FSem := plainT [shStmt] [Sh.bool] fun x => (creates x.1, ())
theorem FOk81 : FOk (env40).P (env40).gl 152 F81 := by
 refine FOk_plainT (ok81) fun x C hC => ?_
 refine reach_ok env40_all env40_mix (ok81) (fun id _ => hC id) (go81 x.1) ?_
 generalize hy : creates x.1 = y
 unfold creates at hy
 try simp only [ExprT.eta]
 repeat' (first | with_reducible refine obr1 hy (fun _ hy => ?_) (fun _ hy => ?_) | with_reducible refine OptOk_chkT ?_)
 all_goals first | (cases hc; done) | (subst hy; first | rfl)

abbrev kp95 : Nat → Keep := fun j => if j = 3 then { slots := [1, 5, 8, 9, 10], prom := [(5, none, .str)] } else { }
abbrev s95_3 (l8 : List (Sem (Sh.str.pr Sh.expr))) (i9 : Int) (i10 : Int) (lh_0 : LS) : St := { tmps := [ny, AV.clo (Fn.func 165) [] [], ny, ny, ny, AV.vec 0, ny, ny, AV.sl (Sh.str.pr Sh.expr) l8, ai i9, ai i10, ny, ny, ny, ny, ny, ny, ny, ny, ny, ny, ny, ny], heap := [AO.vec Sh.str lh_0] }
theorem ok95 : fnChk (env40).P 167 Tryz.f167 2 := by refine ⟨?_, ?_, ?_, ?_⟩ <;> kernel_rfl
theorem go95 (x0 : Sem shSet.sl) : run (env40) 0 kp95 (Func.results Tryz.f167).toList 400 (bodyOf Tryz.f167) (initSt (Func.ntmps Tryz.f167) [datum shSet.sl x0, AV.clo (Fn.func 165) [] []] []) = Tr.ok (Leaf.head 3 (headK Tryz.f167 3) (s95_3 x0 (↑(List.length x0) : Int) 0 [])) := by kernel_rfl
theorem on95_3 (l8 : List (Sem (Sh.str.pr Sh.expr))) (i9 : Int) (i10 : Int) (lh_0 : LS) : run (env40) 0 kp95 (Func.results Tryz.f167).toList 400 (headK Tryz.f167 3) (s95_3 l8 i9 i10 lh_0) = Tr.br (decide (i10 < i9)) (Tr.chk (inB i10 l8.length) (Tr.chk (setTextC ((l8.getD i10.toNat (dflt (Sh.str.pr Sh.expr))).1, ExprT.mk (ExprT.op (l8.getD i10.toNat (dflt (Sh.str.pr Sh.expr))).2) (ExprT.v (l8.getD i10.toNat (dflt (Sh.str.pr Sh.expr))).2) (ExprT.s (l8.getD i10.toNat (dflt (Sh.str.pr Sh.expr))).2) (ExprT.l (l8.getD i10.toNat (dflt (Sh.str.pr Sh.expr))).2))) (Tr.chk (decide (lh_0.length + [setText ((l8.getD i10.toNat (dflt (Sh.str.pr Sh.expr))).1, ExprT.mk (ExprT.op (l8.getD i10.toNat (dflt (Sh.str.pr Sh.expr))).2) (ExprT.v (l8.getD i10.toNat (dflt (Sh.str.pr Sh.expr))).2) (ExprT.s (l8.getD i10.toNat (dflt (Sh.str.pr Sh.expr))).2) (ExprT.l (l8.getD i10.toNat (dflt (Sh.str.pr Sh.expr))).2))].length ≤ 1073741824)) (Tr.ok (Leaf.head 3 (headK Tryz.f167 3) (s95_3 l8 i9 (IntKind.i64.wrap (i10 + 1)) (lh_0 ++ [setText ((l8.getD i10.toNat (dflt (Sh.str.pr Sh.expr))).1, ExprT.mk (ExprT.op (l8.getD i10.toNat (dflt (Sh.str.pr Sh.expr))).2) (ExprT.v (l8.getD i10.toNat (dflt (Sh.str.pr Sh.expr))).2) (ExprT.s (l8.getD i10.toNat (dflt (Sh.str.pr Sh.expr))).2) (ExprT.l (l8.getD i10.toNat (dflt (Sh.str.pr Sh.expr))).2))]))))))) (Tr.chk (decide (lh_0.length ≤ 140737488355328) && decide ((Lib.join lh_0 [32, 44, 32]).length ≤ 140737488355328))
 (Tr.ok (Leaf.ret (AV.str (Lib.join lh_0 [32, 44, 32])) []))) := by kernel_rfl
def setTexts_3 : List (Sem (Sh.str.pr Sh.expr)) → Int → List (Sem Sh.str) → Sem Sh.str
 | [], _, lh_0 => (Lib.join lh_0 [32, 44, 32])
 | x :: r, i10, lh_0 => (setTexts_3 r (i10 + 1) (lh_0 ++ [setText x]))
def setTextsC_3 : List (Sem (Sh.str.pr Sh.expr)) → Int → List (Sem Sh.str) → Bool
 | [], _, lh_0 => (if (decide (lh_0.length ≤ 140737488355328) && decide ((Lib.join lh_0 [32, 44, 32]).length ≤ 140737488355328)) = true then true else false)
 | x :: r, i10, lh_0 => (if setTextC x = true then if decide (lh_0.length + [setText x].length ≤ 1073741824) = true then setTextsC_3 r (i10 + 1) (lh_0 ++ [setText x]) else false
else false)
theorem at95_3 {C : Ctx} (hC : ∀ id, C.ρ0 id = none) (l8 : List (Sem (Sh.str.pr Sh.expr))) (hl : l8.length ≤ maxStr) : ∀ (m i : Nat) (lh_0 : LS), l8.length - i = m → i ≤ l8.length → setTextsC_3 (l8.drop i) i lh_0 = true →
  Reach (env40) C 167 (headK Tryz.f167 3) (s95_3 l8 (l8.length : Int) (i : Int) lh_0) (fun r h => resOf h [Sh.str] r = some (setTexts_3 (l8.drop i) i lh_0, ())) := by
 intro m
 induction m with
 | zero =>
  intro i lh_0 hm hi hc
  obtain rfl : i = l8.length := by omega
  rw [List.drop_length] at hc ⊢
  refine reach_ok env40_all env40_mix (ok95) (fun id _ => hC id) (on95_3 _ _ _ _) ?_
  rw [setTextsC_3] at hc
  generalize hy : setTexts_3 [] _ lh_0 = y
  rw [setTexts_3] at hy
  simp only [ExprT.eta, lt_dec', Tr.val_brF]
  repeat' (first | with_reducible refine obr hy hc (fun _ hy hc => ?_) (fun _ hy hc => ?_) | with_reducible refine obr1 hy (fun _ hy => ?_) (fun _ hy => ?_) | with_reducible refine ochk hc (fun hc => ?_) | with_reducible refine OptOk_chkT ?_)
  all_goals first | (cases hc; done) | (subst hy; first | rfl)
 | succ m IH =>
  intro i lh_0 hm hi hc
  have hlt : i < l8.length := by omega
  have IH := IH (i + 1)
  have hcast : ((i : Int) + 1) = ((i + 1 : Nat) : Int) := by omega
  have hwr := wrap_add i (by omega)
  rw [List.drop_eq_getElem_cons hlt] at hc ⊢
  refine reach_ok env40_all env40_mix (ok95) (fun id _ => hC id) (on95_3 _ _ _ _) ?_
  rw [setTextsC_3] at hc
  generalize hy : setTexts_3 (l8[i] :: l8.drop (i + 1)) (i : Int) lh_0 = y
  rw [setTexts_3] at hy
  simp only [ExprT.eta, lt_dec hlt, inB_of hlt, getD_at l8 _ hlt, hwr, Tr.val_brT, Tr.val_chkT]
  clear hwr
  try simp only [inB_of hlt] at hy
  simp only [hcast] at hy
  try simp only [inB_of hlt] at hc
  try simp only [hcast] at hc
  repeat' (first | with_reducible refine obr hy hc (fun _ hy hc => ?_) (fun _ hy hc => ?_) | with_reducible refine obr1 hy (fun _ hy => ?_) (fun _ hy => ?_) | with_reducible refine ochk hc (fun hc => ?_) | with_reducible refine OptOk_chkT ?_)
  all_goals first | (cases hc; done) | (subst hy; first | (change Reach _ _ _ _ _ _; apply IH <;> first | omega | assumption) | rfl)
theorem at95_3s {C : Ctx} (hC : ∀ id, C.ρ0 id = none) (l8 : List (Sem (Sh.str.pr Sh.expr))) (lh_0 : LS) (hc : setTextsC_3 l8 0 lh_0 = true) :
  Reach (env40) C 167 (headK Tryz.f167 3) (s95_3 l8 (l8.length : Int) 0 lh_0) (fun r h => resOf h [Sh.str] r = some (setTexts_3 l8 0 lh_0, ())) :=
 Reach.len 8 (Sh.str.pr Sh.expr) l8 rfl fun hl => at95_3 hC l8 hl _ 0 lh_0 rfl (Nat.zero_le _) hc
def setTexts (x0 : Sem shSet.sl) : Sem Sh.str := (setTexts_3 x0 0 [])
def setTextsC (x0 : Sem shSet.sl) : Bool := (setTextsC_3 x0 0 [])
def F95 : FSem := plainK [shSet.sl] [Sh.str] [(165, (fun x => setTextsC x.1), fun x => (setTexts x.1, ()))]
theorem FOk95 : FOk (env40).P (env40).gl 167 F95 := by
 refine FOk_plainK (ok95) fun j c g hm x hc C hC => ?_
 simp only [List.mem_singleton, Prod.mk.injEq] at hm
 obtain ⟨rfl, rfl, rfl⟩ := hm
 replace hc : setTextsC x.1 = true := hc
 unfold setTextsC at hc
 refine reach_ok env40_all env40_mix (ok95) (fun id _ => hC id) (go95 x.1) ?_
 generalize hy : setTexts x.1 = y
 unfold setTexts at hy
 repeat' (first | with_reducible refine obr hy hc (fun _ hy hc => ?_) (fun _ hy hc => ?_) | with_reducible refine obr1 hy (fun _ hy => ?_) (fun _ hy => ?_) | with_reducible refine ochk hc (fun hc => ?_) | with_reducible refine OptOk_chkT ?_)
 all_goals first | (cases hc; done) | (subst hy; first | (change Reach _ _ _ _ _ _; apply at95_3s hC <;> first | assumption | exact hc) | rfl)

abbrev kp90 : Nat → Keep := fun j => if j = 5 then { slots := [1, 3, 24, 25, 26] } else if j = 10 then { slots := [1, 3, 37, 38, 39] } else { }
abbrev s90_5 (s3 : Str) (l24 : LS) (i25 : Int) (i26 : Int) (ja0 : TS) (ja1 : TS) (ja2 : TS) (ja3 : LS) (ja4 : LC) (ja5 : TS) (ja6 : LS) (ja7 : List (Sem (Sh.str.pr Sh.str))) (ja8 : Str) (ja9 : Int) (ja10 : Int) (ja11 : Str) (ja12 : Str) (ja13 : LX) (ja14 : LV) (ja15 : List (Sem (Sh.str.pr Sh.expr))) (ja16 : Str) (ja17 : Int) (ja18 : Int) (ja19 : Str) (ja20 : Str) (ja21 : LX) (ja22 : TS) : St := { tmps := [ny, AV.ptr 0 0, ny, AV.str s3, ny, ny, ny, ny, ny, ny, ny, ny, ny, ny, ny, ny, ny, ny, ny, ny, ny, ny, ny, ny, AV.sl Sh.str l24, ai i25, ai i26, ny, ny, ny, ny, ny, ny, ny, ny, ny, ny, ny, ny, ny, ny, ny, ny, ny, ny, ny, ny, ny, ny, ny, ny, ny, ny, ny, ny, ny, ny, ny, ny], heap := [AO.box [AV.str ja0, AV.str ja1, AV.str ja2, AV.sl Sh.str ja3, AV.sl shCol ja4, AV.str ja5, AV.sl Sh.str ja6, AV.sl (Sh.str.pr Sh.str) ja7, AV.str ja8, ai ja9, ai ja10, AV.str ja11, AV.str ja12, AV.sl Sh.expr ja13, AV.sl shVal ja14, AV.sl (Sh.str.pr Sh.expr) ja15, AV.str ja16, ai ja17, ai ja18, AV.str ja19, AV.str ja20, AV.sl Sh.expr ja21, AV.str ja22]] }
theorem ok90 : fnChk (env40).P 162 Tryz.f162 1 := by refine ⟨?_, ?_, ?_, ?_⟩ <;> kernel_rfl
theorem go90 (x0 : Sem shStmt) : run (env40) 0 kp90 (Func.results Tryz.f162).toList 400 (bodyOf Tryz.f162) (initSt (Func.ntmps Tryz.f162) [datum shStmt x0] []) = Tr.chk (decide ([67, 82, 69, 65, 84, 69, 32, 84, 65, 66, 76, 69, 32].length + List.length x0.2.1 ≤ 1099511627776)) (Tr.chk (decide (List.length ([67, 82, 69, 65, 84, 69, 32, 84, 65, 66, 76, 69, 32] ++ x0.2.1) + [32, 40, 32].length ≤ 1099511627776)) (Tr.chk (colTextsC x0.2.2.2.2.1) (Tr.chk (decide (List.length ([67, 82, 69, 65, 84, 69, 32, 84, 65, 66, 76, 69, 32] ++ x0.2.1 ++ [32, 40, 32]) + List.length (colTexts x0.2.2.2.2.1) ≤ 1099511627776)) (Tr.chk (decide ([32, 44, 32, 75, 69, 89, 32, 40, 32].length + List.length x0.2.2.2.2.2.1 ≤ 1099511627776)) (Tr.chk (decide (List.length ([32, 44, 32, 75, 69, 89, 32, 40, 32] ++ x0.2.2.2.2.2.1) + [32, 41].length ≤ 1099511627776)) (Tr.chk (decide (List.length ([67, 82, 69, 65, 84, 69, 32, 84, 65, 66, 76, 69, 32] ++ x0.2.1 ++ [32, 40, 32] ++ colTexts x0.2.2.2.2.1) + List.length ([32, 44, 32, 75, 69, 89, 32, 40, 32] ++ x0.2.2.2.2.2.1 ++ [32, 41]) ≤ 1099511627776)) (Tr.ok (Leaf.head 5 (headK Tryz.f162 5) (s90_5 ([67, 82, 69, 65, 84, 69, 32, 84, 65, 66, 76, 69, 32] ++ x0.2.1 ++ [32, 40, 32] ++ colTexts x0.2.2.2.2.1 ++ ([32, 44, 32, 75, 69, 89, 32, 40, 32] ++ x0.2.2.2.2.2.1 ++ [32, 41])) x0.2.2.2.2.2.2.1 (↑(List.length x0.2.2.2.2.2.2.1) : Int) 0 x0.1 x0.2.1 x0.2.2.1 x0.2.2.2.1 x0.2.2.2.2.1 x0.2.2.2.2.2.1 x0.2.2.2.2.2.2.1 x0.2.2.2.2.2.2.2.1
 (ExprT.op x0.2.2.2.2.2.2.2.2.1) (ExprT.v x0.2.2.2.2.2.2.2.2.1).1 (ExprT.v x0.2.2.2.2.2.2.2.2.1).2.1 (ExprT.v x0.2.2.2.2.2.2.2.2.1).2.2 (ExprT.s x0.2.2.2.2.2.2.2.2.1) (ExprT.l x0.2.2.2.2.2.2.2.2.1) x0.2.2.2.2.2.2.2.2.2.1 x0.2.2.2.2.2.2.2.2.2.2.1 (ExprT.op x0.2.2.2.2.2.2.2.2.2.2.2.1) (ExprT.v x0.2.2.2.2.2.2.2.2.2.2.2.1).1 (ExprT.v x0.2.2.2.2.2.2.2.2.2.2.2.1).2.1 (ExprT.v x0.2.2.2.2.2.2.2.2.2.2.2.1).2.2 (ExprT.s x0.2.2.2.2.2.2.2.2.2.2.2.1) (ExprT.l x0.2.2.2.2.2.2.2.2.2.2.2.1) x0.2.2.2.2.2.2.2.2.2.2.2.2))))))))) := by kernel_rfl
abbrev s90_10 (s3 : Str) (l37 : List (Sem (Sh.str.pr Sh.str))) (i38 : Int) (i39 : Int) (ja0 : TS) (ja1 : TS) (ja2 : TS) (ja3 : LS) (ja4 : LC) (ja5 : TS) (ja6 : LS) (ja7 : List (Sem (Sh.str.pr Sh.str))) (ja8 : Str) (ja9 : Int) (ja10 : Int) (ja11 : Str) (ja12 : Str) (ja13 : LX) (ja14 : LV) (ja15 : List (Sem (Sh.str.pr Sh.expr))) (ja16 : Str) (ja17 : Int) (ja18 : Int) (ja19 : Str) (ja20 : Str) (ja21 : LX) (ja22 : TS) : St := { tmps := [ny, AV.ptr 0 0, ny, AV.str s3, ny, ny, ny, ny, ny, ny, ny, ny, ny, ny, ny, ny, ny, ny, ny, ny, ny, ny, ny, ny, ny, ny, ny, ny, ny, ny, ny, ny, ny, ny, ny, ny, ny, AV.sl (Sh.str.pr Sh.str) l37, ai i38, ai i39, ny, ny, ny, ny, ny, ny, ny, ny, ny, ny, ny, ny, ny, ny, ny, ny, ny, ny, ny], heap := [AO.box [AV.str ja0, AV.str ja1, AV.str ja2, AV.sl Sh.str ja3, AV.sl shCol ja4, AV.str ja5, AV.sl Sh.str ja6, AV.sl (Sh.str.pr Sh.str) ja7, AV.str ja8, ai ja9, ai ja10, AV.str ja11, AV.str ja12, AV.sl Sh.expr ja13, AV.sl shVal ja14, AV.sl (Sh.str.pr Sh.expr) ja15, AV.str ja16, ai ja17, ai ja18, AV.str ja19, AV.str ja20, AV.sl Sh.expr ja21, AV.str ja22]] }
theorem on90_5 (s3 : Str) (l24 : LS) (i25 : Int) (i26 : Int) (ja0 : TS) (ja1 : TS) (ja2 : TS) (ja3 : LS) (ja4 : LC) (ja5 : TS) (ja6 : LS) (ja7 : List (Sem (Sh.str.pr Sh.str))) (ja8 : Str) (ja9 : Int) (ja10 : Int) (ja11 : Str) (ja12 : Str) (ja13 : LX) (ja14 : LV) (ja15 : List (Sem (Sh.str.pr Sh.expr))) (ja16 : Str) (ja17 : Int) (ja18 : Int) (ja19 : Str) (ja20 : Str) (ja21 : LX) (ja22 : TS) : run (env40) 0 kp90 (Func.results Tryz.f162).toList 400 (headK Tryz.f162 5) (s90_5 s3 l24 i25 i26 ja0 ja1 ja2 ja3 ja4 ja5 ja6 ja7 ja8 ja9 ja10 ja11 ja12 ja13 ja14 ja15 ja16 ja17 ja18 ja19 ja20 ja21 ja22) = Tr.br (decide (i26 < i25)) (Tr.chk (inB i26 l24.length) (Tr.chk (decide ([32, 44, 32, 85, 78, 73, 81, 85, 69, 32, 40, 32].length + List.length (l24.getD i26.toNat (dflt Sh.str)) ≤ 1099511627776)) (Tr.chk (decide (List.length ([32, 44, 32, 85, 78, 73, 81, 85, 69, 32, 40, 32] ++ l24.getD i26.toNat (dflt Sh.str)) + [32, 41].length ≤ 1099511627776)) (Tr.chk (decide (List.length s3 + List.length ([32, 44, 32, 85, 78, 73, 81, 85, 69, 32, 40, 32] ++ l24.getD i26.toNat (dflt Sh.str) ++ [32, 41]) ≤ 1099511627776)) (Tr.ok (Leaf.head 5 (headK Tryz.f162 5) (s90_5 (s3 ++ ([32, 44, 32, 85, 78, 73, 81, 85, 69, 32, 40, 32] ++ l24.getD i26.toNat (dflt Sh.str) ++ [32, 41])) l24 i25
 (IntKind.i64.wrap (i26 + 1)) ja0 ja1 ja2 ja3 ja4 ja5 ja6 ja7 ja8 ja9 ja10 ja11 ja12 ja13 ja14 ja15 ja16 ja17 ja18 ja19 ja20 ja21 ja22))))))) (Tr.ok (Leaf.head 10 (headK Tryz.f162 10) (s90_10 s3 ja7 (↑ja7.length : Int) 0 ja0 ja1 ja2 ja3 ja4 ja5 ja6 ja7 ja8 ja9 ja10 ja11 ja12 ja13 ja14 ja15 ja16 ja17 ja18 ja19 ja20 ja21 ja22))) := by kernel_rfl
theorem on90_10 (s3 : Str) (l37 : List (Sem (Sh.str.pr Sh.str))) (i38 : Int) (i39 : Int) (ja0 : TS) (ja1 : TS) (ja2 : TS) (ja3 : LS) (ja4 : LC) (ja5 : TS) (ja6 : LS) (ja7 : List (Sem (Sh.str.pr Sh.str))) (ja8 : Str) (ja9 : Int) (ja10 : Int) (ja11 : Str) (ja12 : Str) (ja13 : LX) (ja14 : LV) (ja15 : List (Sem (Sh.str.pr Sh.expr))) (ja16 : Str) (ja17 : Int) (ja18 : Int) (ja19 : Str) (ja20 : Str) (ja21 : LX) (ja22 : TS) : run (env40) 0 kp90 (Func.results Tryz.f162).toList 400 (headK Tryz.f162 10) (s90_10 s3 l37 i38 i39 ja0 ja1 ja2 ja3 ja4 ja5 ja6 ja7 ja8 ja9 ja10 ja11 ja12 ja13 ja14 ja15 ja16 ja17 ja18 ja19 ja20 ja21 ja22) = Tr.br (decide (i39 < i38)) (Tr.chk (inB i39 l37.length) (Tr.chk (decide ([32, 44, 32, 82, 69, 70, 69, 82, 69, 78, 67, 69, 83, 32, 40, 32].length + List.length (l37.getD i39.toNat (dflt (Sh.str.pr Sh.str))).1 ≤ 1099511627776)) (Tr.chk (decide (List.length ([32, 44, 32, 82, 69, 70, 69, 82, 69, 78, 67, 69, 83, 32, 40, 32] ++ (l37.getD i39.toNat (dflt (Sh.str.pr Sh.str))).1) + [32, 41, 32].length ≤ 1099511627776)) (Tr.chk (decide (List.length ([32, 44, 32, 82, 69, 70, 69, 82, 69, 78, 67, 69, 83, 32, 40, 32] ++ (l37.getD i39.toNat (dflt (Sh.str.pr Sh.str))).1 ++ [32, 41, 32]) + List.length (l37.getD i39.toNat (dflt (Sh.str.pr Sh.str))).2 ≤ 1099511627776)) (Tr.chk (decide (List.length s3 + List.length
 ([32, 44, 32, 82, 69, 70, 69, 82, 69, 78, 67, 69, 83, 32, 40, 32] ++ (l37.getD i39.toNat (dflt (Sh.str.pr Sh.str))).1 ++ [32, 41, 32] ++ (l37.getD i39.toNat (dflt (Sh.str.pr Sh.str))).2) ≤ 1099511627776)) (Tr.ok (Leaf.head 10 (headK Tryz.f162 10) (s90_10 (s3 ++ ([32, 44, 32, 82, 69, 70, 69, 82, 69, 78, 67, 69, 83, 32, 40, 32] ++ (l37.getD i39.toNat (dflt (Sh.str.pr Sh.str))).1 ++ [32, 41, 32] ++ (l37.getD i39.toNat (dflt (Sh.str.pr Sh.str))).2)) l37 i38 (IntKind.i64.wrap (i39 + 1)) ja0 ja1 ja2 ja3 ja4 ja5 ja6 ja7 ja8 ja9 ja10 ja11 ja12 ja13 ja14 ja15 ja16 ja17 ja18 ja19 ja20 ja21 ja22)))))))) (Tr.chk (chTextC [32, 44, 32] (ExprT.mk ja8 (ja9, ja10, ja11) ja12 ja13)) (Tr.chk (decide (List.length s3 + List.length (chText [32, 44, 32] (ExprT.mk ja8 (ja9, ja10, ja11) ja12 ja13)) ≤ 1099511627776)) (Tr.chk (decide (List.length (s3 ++ chText [32, 44, 32] (ExprT.mk ja8 (ja9, ja10, ja11) ja12 ja13)) + [32, 41].length ≤ 1099511627776)) (Tr.ok (Leaf.ret (AV.str (s3 ++ chText [32, 44, 32] (ExprT.mk ja8 (ja9, ja10, ja11) ja12 ja13) ++ [32, 41])) []))))) := by kernel_rfl
def created_10 (ja0 : TS) (ja1 : TS) (ja2 : TS) (ja3 : LS) (ja4 : LC) (ja5 : TS) (ja6 : LS) (ja7 : List (Sem (Sh.str.pr Sh.str))) (ja8 : Str) (ja9 : Int) (ja10 : Int) (ja11 : Str) (ja12 : Str) (ja13 : LX) (ja14 : LV) (ja15 : List (Sem (Sh.str.pr Sh.expr))) (ja16 : Str) (ja17 : Int) (ja18 : Int) (ja19 : Str) (ja20 : Str) (ja21 : LX) (ja22 : TS) : List (Sem (Sh.str.pr Sh.str)) → Int → Str → Sem Sh.str
 | [], _, s3 => (s3 ++ chText [32, 44, 32] (ExprT.mk ja8 (ja9, ja10, ja11) ja12 ja13) ++ [32, 41])
 | x :: r, i39, s3 => (created_10 ja0 ja1 ja2 ja3 ja4 ja5 ja6 ja7 ja8 ja9 ja10 ja11 ja12 ja13 ja14 ja15 ja16 ja17 ja18 ja19
 ja20 ja21 ja22 r (i39 + 1) (s3 ++ ([32, 44, 32, 82, 69, 70, 69, 82, 69, 78, 67, 69, 83, 32, 40, 32] ++ x.1 ++ [32, 41, 32] ++ x.2)))
def createdC_10 (ja0 : TS) (ja1 : TS) (ja2 : TS) (ja3 : LS) (ja4 : LC) (ja5 : TS) (ja6 : LS) (ja7 : List (Sem (Sh.str.pr Sh.str))) (ja8 : Str) (ja9 : Int) (ja10 : Int) (ja11 : Str) (ja12 : Str) (ja13 : LX) (ja14 : LV) (ja15 : List (Sem (Sh.str.pr Sh.expr))) (ja16 : Str) (ja17 : Int) (ja18 : Int) (ja19 : Str) (ja20 : Str) (ja21 : LX) (ja22 : TS) : List (Sem (Sh.str.pr Sh.str)) → Int → Str → Bool
 | [], _, s3 => (if chTextC [32, 44, 32] (ExprT.mk ja8 (ja9, ja10, ja11) ja12 ja13) = true then
 if decide (List.length s3 + List.length (chText [32, 44, 32] (ExprT.mk ja8 (ja9, ja10, ja11) ja12 ja13)) ≤ 1099511627776) = true then
  if
    decide (List.length (s3 ++ chText [32, 44, 32] (ExprT.mk ja8 (ja9, ja10, ja11) ja12 ja13)) + [32, 41].length ≤ 1099511627776) =
     true then
   true
  else false
 else false
else false)
 | x :: r, i39, s3 => (if decide ([32, 44, 32, 82, 69, 70, 69, 82, 69, 78, 67, 69, 83, 32, 40, 32].length + List.length x.1 ≤ 1099511627776) = true then
 if decide (List.length ([32, 44, 32, 82, 69, 70, 69, 82, 69, 78, 67, 69, 83, 32, 40, 32] ++ x.1) + [32, 41, 32].length ≤ 1099511627776) = true then
  if
    decide (List.length ([32, 44, 32, 82, 69, 70, 69, 82, 69, 78, 67, 69, 83, 32, 40, 32] ++ x.1 ++ [32, 41, 32]) + List.length x.2 ≤ 1099511627776) =
     true then
   if
     decide
       (List.length s3 + List.length ([32, 44, 32, 82, 69, 70, 69, 82, 69, 78, 67, 69, 83, 32, 40, 32] ++ x.1 ++ [32, 41, 32] ++ x.2) ≤
        1099511627776) =
      true then
    createdC_10 ja0 ja1 ja2 ja3 ja4 ja5 ja6 ja7 ja8 ja9 ja10 ja11 ja12 ja13 ja14 ja15 ja16 ja17
     ja18 ja19 ja20 ja21 ja22 r (i39 + 1)
     (s3 ++ ([32, 44, 32, 82, 69, 70, 69, 82, 69, 78, 67, 69, 83, 32, 40, 32] ++ x.1 ++ [32, 41, 32] ++ x.2))
   else false
  else false
 else false
else false)
theorem at90_10 {C : Ctx} (hC : ∀ id, C.ρ0 id = none) (ja0 : TS) (ja1 : TS) (ja2 : TS) (ja3 : LS) (ja4 : LC) (ja5 : TS) (ja6 : LS) (ja7 : List (Sem (Sh.str.pr Sh.str))) (ja8 : Str) (ja9 : Int) (ja10 : Int) (ja11 : Str) (ja12 : Str) (ja13 : LX) (ja14 : LV) (ja15 : List (Sem (Sh.str.pr Sh.expr))) (ja16 : Str) (ja17 : Int) (ja18 : Int) (ja19 : Str) (ja20 : Str) (ja21 : LX) (ja22 : TS) (l37 : List (Sem (Sh.str.pr Sh.str))) (hl : l37.length ≤ maxStr) : ∀ (m i : Nat) (s3 : Str), l37.length - i = m → i ≤ l37.length → createdC_10 ja0 ja1 ja2 ja3 ja4 ja5 ja6 ja7 ja8 ja9 ja10 ja11 ja12 ja13 ja14 ja15 ja16 ja17 ja18 ja19 ja20 ja21 ja22 (l37.drop i) i s3 = true →
  Reach (env40) C 162 (headK Tryz.f162 10) (s90_10 s3 l37 (l37.length : Int) (i : Int) ja0 ja1 ja2 ja3 ja4 ja5 ja6 ja7 ja8 ja9 ja10 ja11 ja12 ja13 ja14 ja15 ja16 ja17 ja18 ja19 ja20 ja21 ja22) (fun r h => resOf h [Sh.str] r = some (created_10 ja0 ja1 ja2 ja3 ja4 ja5 ja6 ja7 ja8 ja9 ja10 ja11 ja12 ja13 ja14 ja15 ja16 ja17 ja18 ja19 ja20 ja21 ja22 (l37.drop i) i s3, ())) := by
 intro m
 induction m with
 | zero =>
  intro i s3 hm hi hc
  obtain rfl : i = l37.length := by omega
  rw [List.drop_length] at hc ⊢
  refine reach_ok env40_all env40_mix (ok90) (fun id _ => hC id) (on90_10 _ _ _ _ _ _ _ _ _ _ _ _ _ _ _ _ _ _ _ _ _ _ _ _ _ _ _) ?_
  rw [createdC_10] at hc
  generalize hy : created_10 ja0 ja1 ja2 ja3 ja4 ja5 ja6 ja7 ja8 ja9 ja10 ja11 ja12 ja13 ja14 ja15 ja16 ja17 ja18 ja19 ja20 ja21 ja22 [] _ s3 = y
  rw [created_10] at hy
  simp only [lt_dec', Tr.val_brF]
  repeat' (first | with_reducible refine obr hy hc (fun _ hy hc => ?_) (fun _ hy hc => ?_) | with_reducible refine obr1 hy (fun _ hy => ?_) (fun _ hy => ?_) | with_reducible refine ochk hc (fun hc => ?_) | with_reducible refine OptOk_chkT ?_)
  all_goals first | (cases hc; done) | (subst hy; first | (change Reach _ _ _ _ _ _; apply at90_5s hC <;> first | assumption | exact hc) | rfl)
 | succ m IH =>
  intro i s3 hm hi hc
  have hlt : i < l37.length := by omega
  have IH := IH (i + 1)
  have hcast : ((i : Int) + 1) = ((i + 1 : Nat) : Int) := by omega
  have hwr := wrap_add i (by omega)
  rw [List.drop_eq_getElem_cons hlt] at hc ⊢
  refine reach_ok env40_all env40_mix (ok90) (fun id _ => hC id) (on90_10 _ _ _ _ _ _ _ _ _ _ _ _ _ _ _ _ _ _ _ _ _ _ _ _ _ _ _) ?_
  rw [createdC_10] at hc
  generalize hy : created_10 ja0 ja1 ja2 ja3 ja4 ja5 ja6 ja7 ja8 ja9 ja10 ja11 ja12 ja13 ja14 ja15 ja16 ja17 ja18 ja19 ja20 ja21 ja22 (l37[i] :: l37.drop (i + 1)) (i : Int) s3 = y
  rw [created_10] at hy
  simp only [lt_dec hlt, inB_of hlt, getD_at l37 _ hlt, hwr, Tr.val_brT, Tr.val_chkT]
  clear hwr
  try simp only [inB_of hlt] at hy
  simp only [hcast] at hy
  try simp only [inB_of hlt] at hc
  try simp only [hcast] at hc
  repeat' (first | with_reducible refine obr hy hc (fun _ hy hc => ?_) (fun _ hy hc => ?_) | with_reducible refine obr1 hy (fun _ hy => ?_) (fun _ hy => ?_) | with_reducible refine ochk hc (fun hc => ?_) | with_reducible refine OptOk_chkT ?_)
  all_goals first | (cases hc; done) | (subst hy; first | (change Reach _ _ _ _ _ _; apply IH <;> first | omega | assumption) | (change Reach _ _ _ _ _ _; apply at90_5s hC <;> first | assumption | exact hc) | rfl)
theorem at90_10s {C : Ctx} (hC : ∀ id, C.ρ0 id = none) (ja0 : TS) (ja1 : TS) (ja2 : TS) (ja3 : LS) (ja4 : LC) (ja5 : TS) (ja6 : LS) (ja7 : List (Sem (Sh.str.pr Sh.str))) (ja8 : Str) (ja9 : Int) (ja10 : Int) (ja11 : Str) (ja12 : Str) (ja13 : LX) (ja14 : LV) (ja15 : List (Sem (Sh.str.pr Sh.expr))) (ja16 : Str) (ja17 : Int) (ja18 : Int) (ja19 : Str) (ja20 : Str) (ja21 : LX) (ja22 : TS) (l37 : List (Sem (Sh.str.pr Sh.str))) (s3 : Str) (hc : createdC_10 ja0 ja1 ja2 ja3 ja4 ja5 ja6 ja7 ja8 ja9 ja10 ja11 ja12 ja13 ja14 ja15 ja16 ja17 ja18 ja19 ja20 ja21 ja22 l37 0 s3 = true) :
  Reach (env40) C 162 (headK Tryz.f162 10) (s90_10 s3 l37 (l37.length : Int) 0 ja0 ja1 ja2 ja3 ja4 ja5 ja6 ja7 ja8 ja9 ja10 ja11 ja12 ja13 ja14 ja15 ja16 ja17 ja18 ja19 ja20 ja21 ja22) (fun r h => resOf h [Sh.str] r = some (created_10 ja0 ja1 ja2 ja3 ja4 ja5 ja6 ja7 ja8 ja9 ja10 ja11 ja12 ja13 ja14 ja15 ja16 ja17 ja18 ja19 ja20 ja21 ja22 l37 0 s3, ())) :=
 Reach.len 37 (Sh.str.pr Sh.str) l37 rfl fun hl => at90_10 hC ja0 ja1 ja2 ja3 ja4 ja5 ja6 ja7 ja8 ja9 ja10 ja11 ja12 ja13 ja14 ja15 ja16 ja17 ja18 ja19 ja20 ja21 ja22 l37 hl _ 0 s3 rfl (Nat.zero_le _) hc
def created_5 (ja0 : TS) (ja1 : TS) (ja2 : TS) (ja3 : LS) (ja4 : LC) (ja5 : TS) (ja6 : LS) (ja7 : List (Sem (Sh.str.pr Sh.str))) (ja8 : Str) (ja9 : Int) (ja10 : Int) (ja11 : Str) (ja12 : Str) (ja13 : LX) (ja14 : LV) (ja15 : List (Sem (Sh.str.pr Sh.expr))) (ja16 : Str) (ja17 : Int) (ja18 : Int) (ja19 : Str) (ja20 : Str) (ja21 : LX) (ja22 : TS) : List (Sem Sh.str) → Int → Str → Sem Sh.str
 | [], _, s3 => (created_10 ja0 ja1 ja2 ja3 ja4 ja5 ja6 ja7 ja8 ja9 ja10 ja11 ja12 ja13 ja14 ja15 ja16 ja17 ja18 ja19
 ja20 ja21 ja22 ja7 0 s3)
 | x :: r, i26, s3 => (created_5 ja0 ja1 ja2 ja3 ja4 ja5 ja6 ja7 ja8 ja9 ja10 ja11 ja12 ja13 ja14 ja15 ja16 ja17 ja18 ja19
 ja20 ja21 ja22 r (i26 + 1) (s3 ++ ([32, 44, 32, 85, 78, 73, 81, 85, 69, 32, 40, 32] ++ x ++ [32, 41])))
def createdC_5 (ja0 : TS) (ja1 : TS) (ja2 : TS) (ja3 : LS) (ja4 : LC) (ja5 : TS) (ja6 : LS) (ja7 : List (Sem (Sh.str.pr Sh.str))) (ja8 : Str) (ja9 : Int) (ja10 : Int) (ja11 : Str) (ja12 : Str) (ja13 : LX) (ja14 : LV) (ja15 : List (Sem (Sh.str.pr Sh.expr))) (ja16 : Str) (ja17 : Int) (ja18 : Int) (ja19 : Str) (ja20 : Str) (ja21 : LX) (ja22 : TS) : List (Sem Sh.str) → Int → Str → Bool
 | [], _, s3 => (createdC_10 ja0 ja1 ja2 ja3 ja4 ja5 ja6 ja7 ja8 ja9 ja10 ja11 ja12 ja13 ja14 ja15 ja16 ja17 ja18
 ja19 ja20 ja21 ja22 ja7 0 s3)
 | x :: r, i26, s3 => (if decide ([32, 44, 32, 85, 78, 73, 81, 85, 69, 32, 40, 32].length + List.length x ≤ 1099511627776) = true then
 if decide (List.length ([32, 44, 32, 85, 78, 73, 81, 85, 69, 32, 40, 32] ++ x) + [32, 41].length ≤ 1099511627776) = true then
  if decide (List.length s3 + List.length ([32, 44, 32, 85, 78, 73, 81, 85, 69, 32, 40, 32] ++ x ++ [32, 41]) ≤ 1099511627776) = true then
   createdC_5 ja0 ja1 ja2 ja3 ja4 ja5 ja6 ja7 ja8 ja9 ja10 ja11 ja12 ja13 ja14 ja15 ja16 ja17 ja18
    ja19 ja20 ja21 ja22 r (i26 + 1) (s3 ++ ([32, 44, 32, 85, 78, 73, 81, 85, 69, 32, 40, 32] ++ x ++ [32, 41]))
  else false
 else false
else false)
theorem at90_5 {C : Ctx} (hC : ∀ id, C.ρ0 id = none) (ja0 : TS) (ja1 : TS) (ja2 : TS) (ja3 : LS) (ja4 : LC) (ja5 : TS) (ja6 : LS) (ja7 : List (Sem (Sh.str.pr Sh.str))) (ja8 : Str) (ja9 : Int) (ja10 : Int) (ja11 : Str) (ja12 : Str) (ja13 : LX) (ja14 : LV) (ja15 : List (Sem (Sh.str.pr Sh.expr))) (ja16 : Str) (ja17 : Int) (ja18 : Int) (ja19 : Str) (ja20 : Str) (ja21 : LX) (ja22 : TS) (l24 : LS) (hl : l24.length ≤ maxStr) : ∀ (m i : Nat) (s3 : Str), l24.length - i = m → i ≤ l24.length → createdC_5 ja0 ja1 ja2 ja3 ja4 ja5 ja6 ja7 ja8 ja9 ja10 ja11 ja12 ja13 ja14 ja15 ja16 ja17 ja18 ja19 ja20 ja21 ja22 (l24.drop i) i s3 = true →
  Reach (env40) C 162 (headK Tryz.f162 5) (s90_5 s3 l24 (l24.length : Int) (i : Int) ja0 ja1 ja2 ja3 ja4 ja5 ja6 ja7 ja8 ja9 ja10 ja11 ja12 ja13 ja14 ja15 ja16 ja17 ja18 ja19 ja20 ja21 ja22) (fun r h => resOf h [Sh.str] r = some (created_5 ja0 ja1 ja2 ja3 ja4 ja5 ja6 ja7 ja8 ja9 ja10 ja11 ja12 ja13 ja14 ja15 ja16 ja17 ja18 ja19 ja20 ja21 ja22 (l24.drop i) i s3, ())) := by
 intro m
 induction m with
 | zero =>
  intro i s3 hm hi hc
  obtain rfl : i = l24.length := by omega
  rw [List.drop_length] at hc ⊢
  refine reach_ok env40_all env40_mix (ok90) (fun id _ => hC id) (on90_5 _ _ _ _ _ _ _ _ _ _ _ _ _ _ _ _ _ _ _ _ _ _ _ _ _ _ _) ?_
  rw [createdC_5] at hc
  generalize hy : created_5 ja0 ja1 ja2 ja3 ja4 ja5 ja6 ja7 ja8 ja9 ja10 ja11 ja12 ja13 ja14 ja15 ja16 ja17 ja18 ja19 ja20 ja21 ja22 [] _ s3 = y
  rw [created_5] at hy
  simp only [lt_dec', Tr.val_brF]
  repeat' (first | with_reducible refine obr hy hc (fun _ hy hc => ?_) (fun _ hy hc => ?_) | with_reducible refine obr1 hy (fun _ hy => ?_) (fun _ hy => ?_) | with_reducible refine ochk hc (fun hc => ?_) | with_reducible refine OptOk_chkT ?_)
  all_goals first | (cases hc; done) | (subst hy; first | (change Reach _ _ _ _ _ _; apply at90_10s hC <;> first | assumption | exact hc) | rfl)
 | succ m IH =>
  intro i s3 hm hi hc
  have hlt : i < l24.length := by omega
  have IH := IH (i + 1)
  have hcast : ((i : Int) + 1) = ((i + 1 : Nat) : Int) := by omega
  have hwr := wrap_add i (by omega)
  rw [List.drop_eq_getElem_cons hlt] at hc ⊢
  refine reach_ok env40_all env40_mix (ok90) (fun id _ => hC id) (on90_5 _ _ _ _ _ _ _ _ _ _ _ _ _ _ _ _ _ _ _ _ _ _ _ _ _ _ _) ?_
  rw [createdC_5] at hc
  generalize hy : created_5 ja0 ja1 ja2 ja3 ja4 ja5 ja6 ja7 ja8 ja9 ja10 ja11 ja12 ja13 ja14 ja15 ja16 ja17 ja18 ja19 ja20 ja21 ja22 (l24[i] :: l24.drop (i + 1)) (i : Int) s3 = y
  rw [created_5] at hy
  simp only [lt_dec hlt, inB_of hlt, getD_at l24 _ hlt, hwr, Tr.val_brT, Tr.val_chkT]
  clear hwr
  try simp only [inB_of hlt] at hy
  simp only [hcast] at hy
  try simp only [inB_of hlt] at hc
  try simp only [hcast] at hc
  repeat' (first | with_reducible refine obr hy hc (fun _ hy hc => ?_) (fun _ hy hc => ?_) | with_reducible refine obr1 hy (fun _ hy => ?_) (fun _ hy => ?_) | with_reducible refine ochk hc (fun hc => ?_) | with_reducible refine OptOk_chkT ?_)
  all_goals first | (cases hc; done) | (subst hy; first | (change Reach _ _ _ _ _ _; apply IH <;> first | omega | assumption) | (change Reach _ _ _ _ _ _; apply at90_10s hC <;> first | assumption | exact hc) | rfl)
theorem at90_5s {C : Ctx} (hC : ∀ id, C.ρ0 id = none) (ja0 : TS) (ja1 : TS) (ja2 : TS) (ja3 : LS) (ja4 : LC) (ja5 : TS) (ja6 : LS) (ja7 : List (Sem (Sh.str.pr Sh.str))) (ja8 : Str) (ja9 : Int) (ja10 : Int) (ja11 : Str) (ja12 : Str) (ja13 : LX) (ja14 : LV) (ja15 : List (Sem (Sh.str.pr Sh.expr))) (ja16 : Str) (ja17 : Int) (ja18 : Int) (ja19 : Str) (ja20 : Str) (ja21 : LX) (ja22 : TS) (l24 : LS) (s3 : Str) (hc : createdC_5 ja0 ja1 ja2 ja3 ja4 ja5 ja6 ja7 ja8 ja9 ja10 ja11 ja12 ja13 ja14 ja15 ja16 ja17 ja18 ja19 ja20 ja21 ja22 l24 0 s3 = true) :
  Reach (env40) C 162 (headK Tryz.f162 5) (s90_5 s3 l24 (l24.length : Int) 0 ja0 ja1 ja2 ja3 ja4 ja5 ja6 ja7 ja8 ja9 ja10 ja11 ja12 ja13 ja14 ja15 ja16 ja17 ja18 ja19 ja20 ja21 ja22) (fun r h => resOf h [Sh.str] r = some (created_5 ja0 ja1 ja2 ja3 ja4 ja5 ja6 ja7 ja8 ja9 ja10 ja11 ja12 ja13 ja14 ja15 ja16 ja17 ja18 ja19 ja20 ja21 ja22 l24 0 s3, ())) :=
 Reach.len 24 (Sh.str) l24 rfl fun hl => at90_5 hC ja0 ja1 ja2 ja3 ja4 ja5 ja6 ja7 ja8 ja9 ja10 ja11 ja12 ja13 ja14 ja15 ja16 ja17 ja18 ja19 ja20 ja21 ja22 l24 hl _ 0 s3 rfl (Nat.zero_le _) hc
def created (x0 : Sem shStmt) : Sem Sh.str := (created_5 x0.1 x0.2.1 x0.2.2.1 x0.2.2.2.1 x0.2.2.2.2.1 x0.2.2.2.2.2.1 x0.2.2.2.2.2.2.1 x0.2.2.2.2.2.2.2.1 (ExprT.op x0.2.2.2.2.2.2.2.2.1) (ExprT.v x0.2.2.2.2.2.2.2.2.1).1 (ExprT.v x0.2.2.2.2.2.2.2.2.1).2.1 (ExprT.v x0.2.2.2.2.2.2.2.2.1).2.2 (ExprT.s x0.2.2.2.2.2.2.2.2.1) (ExprT.l x0.2.2.2.2.2.2.2.2.1) x0.2.2.2.2.2.2.2.2.2.1 x0.2.2.2.2.2.2.2.2.2.2.1 (ExprT.op x0.2.2.2.2.2.2.2.2.2.2.2.1) (ExprT.v x0.2.2.2.2.2.2.2.2.2.2.2.1).1 (ExprT.v x0.2.2.2.2.2.2.2.2.2.2.2.1).2.1 (ExprT.v x0.2.2.2.2.2.2.2.2.2.2.2.1).2.2 (ExprT.s x0.2.2.2.2.2.2.2.2.2.2.2.1) (ExprT.l x0.2.2.2.2.2.2.2.2.2.2.2.1) x0.2.2.2.2.2.2.2.2.2.2.2.2 x0.2.2.2.2.2.2.1 0 ([67, 82, 69, 65, 84, 69, 32, 84, 65, 66, 76, 69, 32] ++ x0.2.1 ++ [32, 40, 32] ++ colTexts x0.2.2.2.2.1 ++ ([32, 44, 32, 75, 69, 89, 32, 40, 32] ++ x0.2.2.2.2.2.1 ++ [32, 41])))
def createdC (x0 : Sem shStmt) : Bool := (if decide ([67, 82, 69, 65, 84, 69, 32, 84, 65, 66, 76, 69, 32].length + List.length x0.2.1 ≤ 1099511627776) = true then if decide (List.length ([67, 82, 69, 65, 84, 69, 32, 84, 65, 66, 76, 69, 32] ++ x0.2.1) + [32, 40, 32].length ≤ 1099511627776) = true then if colTextsC x0.2.2.2.2.1 = true then if decide (List.length ([67, 82, 69, 65, 84, 69, 32, 84, 65, 66, 76, 69, 32] ++ x0.2.1 ++ [32, 40, 32]) + List.length (colTexts x0.2.2.2.2.1) ≤ 1099511627776) = true then if decide ([32, 44, 32, 75, 69, 89, 32, 40, 32].length + List.length x0.2.2.2.2.2.1 ≤ 1099511627776) = true then if decide (List.length ([32, 44, 32, 75, 69, 89, 32, 40, 32] ++ x0.2.2.2.2.2.1) + [32, 41].length ≤ 1099511627776) = true then if decide (List.length ([67, 82, 69, 65, 84, 69, 32, 84, 65, 66, 76, 69, 32] ++ x0.2.1 ++ [32, 40, 32] ++ colTexts x0.2.2.2.2.1) + List.length ([32, 44, 32, 75, 69, 89, 32, 40, 32] ++ x0.2.2.2.2.2.1 ++ [32, 41]) ≤ 1099511627776) = true then createdC_5 x0.1 x0.2.1 x0.2.2.1 x0.2.2.2.1 x0.2.2.2.2.1 x0.2.2.2.2.2.1 x0.2.2.2.2.2.2.1 x0.2.2.2.2.2.2.2.1 (ExprT.op x0.2.2.2.2.2.2.2.2.1) (ExprT.v x0.2.2.2.2.2.2.2.2.1).1 (ExprT.v x0.2.2.2.2.2.2.2.2.1).2.1 (ExprT.v x0.2.2.2.2.2.2.2.2.1).2.2 (ExprT.s x0.2.2.2.2.2.2.2.2.1) (ExprT.l x0.2.2.2.2.2.2.2.2.1) x0.2.2.2.2.2.2.2.2.2.1 x0.2.2.2.2.2.2.2.2.2.2.1 (ExprT.op x0.2.2.2.2.2.2.2.2.2.2.2.1) (ExprT.v x0.2.2.2.2.2.2.2.2.2.2.2.1).1 (ExprT.v x0.2.2.2.2.2.2.2.2.2.2.2.1).2.1
 (ExprT.v x0.2.2.2.2.2.2.2.2.2.2.2.1).2.2 (ExprT.s x0.2.2.2.2.2.2.2.2.2.2.2.1) (ExprT.l x0.2.2.2.2.2.2.2.2.2.2.2.1) x0.2.2.2.2.2.2.2.2.2.2.2.2 x0.2.2.2.2.2.2.1 0 ([67, 82, 69, 65, 84, 69, 32, 84, 65, 66, 76, 69, 32] ++ x0.2.1 ++ [32, 40, 32] ++ colTexts x0.2.2.2.2.1 ++ ([32, 44, 32, 75, 69, 89, 32, 40, 32] ++ x0.2.2.2.2.2.1 ++ [32, 41])) else false else false else false else false else false else false else false)
def F90 : FSem := plainC [shStmt] [Sh.str] (fun x => createdC x.1) fun x => (created x.1, ())
theorem FOk90 : FOk (env40).P (env40).gl 162 F90 := by
 refine FOk_plainC (ok90) fun x hc C hC => ?_
 unfold createdC at hc
 refine reach_ok env40_all env40_mix (ok90) (fun id _ => hC id) (go90 x.1) ?_
 generalize hy : created x.1 = y
 unfold created at hy
 try simp only [ExprT.eta, etaE_eq]
 repeat' (first | with_reducible refine obr hy hc (fun _ hy hc => ?_) (fun _ hy hc => ?_) | with_reducible refine obr1 hy (fun _ hy => ?_) (fun _ hy => ?_) | with_reducible refine ochk hc (fun hc => ?_) | with_reducible refine OptOk_chkT ?_)
 all_goals first | (cases hc; done) | (subst hy; first | (change Reach _ _ _ _ _ _; apply at90_5s hC <;> first | assumption | exact hc) | (change Reach _ _ _ _ _ _; apply at90_10s hC <;> first | assumption | exact hc) | rfl)

noncomputable def env41 : Env := (((env40.add 152 F81).add 167 F95).add 162 F90)
theorem env41_all : EnvAll env41 := (EnvAll.addS (EnvAll.addS (EnvAll.addS env40_all (SameE.refl env40) FOk81) ((SameE.refl env40).add _ _) FOk95) (((SameE.refl env40).add _ _).add _ _) FOk90)
theorem env41_mix : env41.P.follows .mixedOrders = true := (mix_add (mix_add (mix_add env40_mix _ _) _ _) _ _)
open Go

inductive CP where
 | d (s : Sh)
 | nil
 | vec (e : Sh)

@[reducible] def CSem : List CP → Type
 | [] => Unit
 | .d s :: r => Sem s × CSem r
 | .nil :: r => CSem r
 | .vec e :: r => List (Sem e) × CSem r

def cpCells : (n : Nat) → (ps : List CP) → CSem ps → List AV
 | _, [], _ => []
 | n, .d s :: r, y => explode s y.1 ++ cpCells n r y.2
 | n, .nil :: r, y => .nils :: cpCells n r y
 | n, .vec _ :: r, y => .vec n :: cpCells (n + 1) r y.2

def cpObjs : (ps : List CP) → CSem ps → List AO
 | [], _ => []
 | .d _ :: r, y => cpObjs r y.2
 | .nil :: r, y => cpObjs r y
 | .vec e :: r, y => .vec e y.1 :: cpObjs r y.2

def cpHeap (ps : List CP) (y : CSem ps) : List AO := .box (cpCells 1 ps y) :: cpObjs ps y

def cpCount : List CP → Nat
 | [] => 0
 | .vec _ :: r => cpCount r + 1
 | _ :: r => cpCount r

theorem cpObjs_length : ∀ (ps : List CP) (y : CSem ps), (cpObjs ps y).length = cpCount ps
 | [], _ => rfl
 | .d _ :: r, y => cpObjs_length r y.2
 | .nil :: r, y => cpObjs_length r y
 | .vec _ :: r, y => congrArg (· + 1) (cpObjs_length r y.2)

def cpMatch (hp : Nat → AO) : (n : Nat) → (ps : List CP) → List AV → Option (CSem ps)
 | _, [], [] => some ()
 | n, .d s :: r, cs => match implode (fun _ => .dead) s cs with
  | some (x, cs') => match cpMatch hp n r cs' with
   | some y => some (x, y)
   | none => none
  | none => none
 | n, .nil :: r, .nils :: cs => cpMatch hp n r cs
 | n, .vec e :: r, .vec id :: cs => if id = n then match hp id with
   | .vec e' l => if h : e' = e then match cpMatch hp (n + 1) r cs with
     | some y => some (h ▸ l, y)
     | none => none
    else none
   | _ => none
  else none
 | _, _, _ => none

section
variable {w : World} {U : Nat → Prop} {ρ : Nat → Option Value}

theorem RvL.app {a b : List AV} {va vb : List Value} (h1 : RvL w U ρ a va) (h2 : RvL w U ρ b vb) : RvL w U ρ (a ++ b) (va ++ vb) where
 len := by simp [h1.len, h2.len]
 rv := by
  intro j c v hc hv
  by_cases hj : j < a.length
  ·rw [List.getElem?_append_left hj] at hc
   rw [List.getElem?_append_left (by rw [← h1.len]; exact hj)] at hv
   exact h1.rv j c v hc hv
  ·rw [List.getElem?_append_right (by omega)] at hc
   rw [List.getElem?_append_right (by rw [← h1.len]; omega), ← h1.len] at hv
   exact h2.rv _ c v hc hv

theorem RvL.tail {a : AV} {l : List AV} {v : Value} {vs : List Value} (h : RvL w U ρ (a :: l) (v :: vs)) : RvL w U ρ l vs :=
 ⟨by have := h.len; simpa using this, fun j c x hc hx => h.rv (j + 1) c x (by simpa using hc) (by simpa using hx)⟩

theorem RvL.consH {a : AV} {l : List AV} {v : Value} {vs : List Value} (h1 : Rv w U ρ a v) (h2 : RvL w U ρ l vs) : RvL w U ρ (a :: l) (v :: vs) where
 len := by simp [h2.len]
 rv := by
  intro j c x hc hx
  cases j with
  | zero => simp at hc hx; subst hc; subst hx; exact h1
  | succ j => exact h2.rv j c x (by simpa using hc) (by simpa using hx)

theorem cpMatch_ok {hp : Nat → AO} : ∀ (ps : List CP) (n : Nat) (cs : List AV) (y : CSem ps) (vals : List Value), cpMatch hp n ps cs = some y → RvL w U ρ cs vals →
  RvL w U ρ (cpCells n ps y) vals ∧ ∀ (j : Nat) o, (cpObjs ps y)[j]? = some o → hp (n + j) = o
 | [], n, [], y, vals, h, hr => ⟨hr, by simp [cpObjs]⟩
 | [], n, _ :: _, y, vals, h, hr => by simp [cpMatch] at h
 | .d s :: r, n, cs, y, vals, h, hr => by
  unfold cpMatch at h
  split at h
  ·rename_i x cs' hi
   split at h
   ·rename_i y' hy
    cases h
    have hk := implode_ok (w := w) (U := U) (U' := U) (ρ := ρ) (hp := fun _ => .dead) (fun _ h => h) s cs x cs' (fun j => vals.getD j undef) hi
     (fun j c hc => by
      have hlt : j < vals.length := by rw [← hr.len]; exact (List.getElem?_eq_some_iff.1 hc).1
      have := hr.rv j c vals[j] hc (List.getElem?_eq_getElem hlt)
      simpa [List.getD, List.getElem?_eq_getElem hlt] using this)
     (fun id _ => ⟨trivial, fun b hb => by simp [ownsB, AO.owns] at hb⟩)
    obtain ⟨k1, k2, k3⟩ := hk
    have hdrop : RvL w U ρ cs' (vals.drop s.size) := by
     refine ⟨by rw [k2]; simp [hr.len], fun j c v hc hv => ?_⟩
     rw [k2, List.getElem?_drop] at hc
     rw [List.getElem?_drop] at hv
     exact hr.rv _ c v hc hv
    obtain ⟨i1, i2⟩ := cpMatch_ok r n cs' y' (vals.drop s.size) hy hdrop
    refine ⟨?_, i2⟩
    have htake : RvL w U ρ (explode s x) (vals.take s.size) := by
     refine ⟨by rw [explode_length]; have := hr.len; simp; omega, fun j c v hc hv => ?_⟩
     have hj : j < s.size := by rw [← explode_length s x]; exact (List.getElem?_eq_some_iff.1 hc).1
     rw [List.getElem?_take, if_pos hj] at hv
     have := k3 j c hc
     simpa [List.getD, hv] using this
    have := htake.app i1
    rw [List.take_append_drop] at this
    exact this
   ·cases h
  ·cases h
 | .nil :: r, n, .nils :: cs, y, vals, h, hr => by
  match vals, hr with
  | [], hr => have := hr.len; simp at this
  | v :: vs, hr =>
   have hv := hr.rv 0 _ v rfl rfl
   obtain ⟨i1, i2⟩ := cpMatch_ok r n cs y vs h hr.tail
   exact ⟨RvL.consH hv i1, i2⟩
 | .vec e :: r, n, .vec id :: cs, y, vals, h, hr => by
  match vals, hr with
  | [], hr => have := hr.len; simp at this
  | v :: vs, hr =>
   have hv := hr.rv 0 _ v rfl rfl
   unfold cpMatch at h
   split at h
   ·rename_i hid
    subst hid
    split at h
    ·rename_i e' l ho
     split at h
     ·rename_i he
      subst he
      split at h
      ·rename_i y' hy
       cases h
       obtain ⟨i1, i2⟩ := cpMatch_ok r (id + 1) cs y' vs hy hr.tail
       refine ⟨RvL.consH hv i1, fun j o hj => ?_⟩
       cases j with
       | zero => simp [cpObjs] at hj; subst hj; exact ho
       | succ j =>
        have := i2 j o (by simpa [cpObjs] using hj)
        rw [← this]
        congr 1
        omega
      ·cases h
     ·cases h
    ·cases h
   ·cases h
 | .nil :: _, _, [], _, _, h, _ => by simp [cpMatch] at h
 | .vec _ :: _, _, [], _, _, h, _ => by simp [cpMatch] at h
 | .nil :: _, _, .any :: _, _, _, h, _ | .nil :: _, _, .kb _ :: _, _, _, h, _ | .nil :: _, _, .bool _ :: _, _, _, h, _ | .nil :: _, _, .int _ _ :: _, _, _, h, _ | .nil :: _, _, .str _ :: _, _, _, h, _
 | .nil :: _, _, .sl _ _ :: _, _, _, h, _ | .nil :: _, _, .vec _ :: _, _, _, h, _ | .nil :: _, _, .ptr _ _ :: _, _, _, h, _ | .nil :: _, _, .vptr _ _ _ _ :: _, _, _, h, _ | .nil :: _, _, .eptr _ _ :: _, _, _, h, _
 | .nil :: _, _, .nilp :: _, _, _, h, _ | .nil :: _, _, .agg _ :: _, _, _, h, _ | .nil :: _, _, .tup _ :: _, _, _, h, _ | .nil :: _, _, .clo _ _ _ :: _, _, _, h, _ | .nil :: _, _, .nilf :: _, _, _, h, _
 | .nil :: _, _, .mp _ :: _, _, _, h, _ | .nil :: _, _, .ifc _ :: _, _, _, h, _ | .nil :: _, _, .tab _ _ :: _, _, _, h, _ | .nil :: _, _, .gint :: _, _, _, h, _ | .nil :: _, _, .vsuf _ _ _ :: _, _, _, h, _ => by simp [cpMatch] at h
 | .vec _ :: _, _, .any :: _, _, _, h, _ | .vec _ :: _, _, .kb _ :: _, _, _, h, _ | .vec _ :: _, _, .bool _ :: _, _, _, h, _ | .vec _ :: _, _, .int _ _ :: _, _, _, h, _ | .vec _ :: _, _, .str _ :: _, _, _, h, _
 | .vec _ :: _, _, .sl _ _ :: _, _, _, h, _ | .vec _ :: _, _, .nils :: _, _, _, h, _ | .vec _ :: _, _, .ptr _ _ :: _, _, _, h, _ | .vec _ :: _, _, .vptr _ _ _ _ :: _, _, _, h, _ | .vec _ :: _, _, .eptr _ _ :: _, _, _, h, _
 | .vec _ :: _, _, .nilp :: _, _, _, h, _ | .vec _ :: _, _, .agg _ :: _, _, _, h, _ | .vec _ :: _, _, .tup _ :: _, _, _, h, _ | .vec _ :: _, _, .clo _ _ _ :: _, _, _, h, _ | .vec _ :: _, _, .nilf :: _, _, _, h, _
 | .vec _ :: _, _, .mp _ :: _, _, _, h, _ | .vec _ :: _, _, .ifc _ :: _, _, _, h, _ | .vec _ :: _, _, .tab _ _ :: _, _, _, h, _ | .vec _ :: _, _, .gint :: _, _, _, h, _ | .vec _ :: _, _, .vsuf _ _ _ :: _, _, _, h, _ => by simp [cpMatch] at h
end

theorem HpOk.box {C : Ctx} {w : World} {U : Nat → Prop} {ρ : Nat → Option Value} {cs : List AV} {os : List AO} {ps : List CP} {y : CSem ps} (hH : HpOk C w U ρ (fun j => ((AO.box cs :: os).getD j .dead))) (hl : os.length = cpCount ps)
  (hm : cpMatch (hpOf (.box cs :: os)) 1 ps cs = some y) : HpOk C w U ρ (fun j => (cpHeap ps y).getD j .dead) := by
 have h0 : objOk w U ρ 0 (.box cs) := hH.ob 0
 obtain ⟨b, T, vals, h1, h2, h3, h4, h5⟩ := h0
 obtain ⟨k1, k2⟩ := cpMatch_ok ps 1 cs y vals.toList hm h4
 have hobj : ∀ id, id ≠ 0 → (cpHeap ps y).getD id .dead = (AO.box cs :: os).getD id .dead := by
  intro id hid
  obtain ⟨j, rfl⟩ : ∃ j, id = j + 1 := ⟨id - 1, by omega⟩
  by_cases hj : j < (cpObjs ps y).length
  ·have := k2 j _ (List.getElem?_eq_getElem hj)
   unfold cpHeap
   simp only [List.getD_cons_succ]
   rw [List.getD_eq_getElem?_getD, List.getElem?_eq_getElem hj]
   simp only [hpOf, Nat.add_comm 1 j, List.getD_cons_succ] at this
   simpa using this.symm
  ·have h7 : os.length ≤ j := by rw [cpObjs_length] at hj; omega
   unfold cpHeap
   simp only [List.getD_cons_succ]
   rw [List.getD_eq_getElem?_getD, List.getD_eq_getElem?_getD, List.getElem?_eq_none (by omega), List.getElem?_eq_none h7]
 have hown : ∀ id b, ownsB ρ id ((cpHeap ps y).getD id .dead) b → ownsB ρ id ((AO.box cs :: os).getD id .dead) b := by
  intro id b' ho
  by_cases hid : id = 0
  ·subst hid
   obtain ⟨_, v, hv, hb⟩ := ho
   exact ⟨rfl, v, hv, hb⟩
  ·rw [hobj id hid] at ho; exact ho
 refine ⟨fun id => ?_, fun id1 id2 b' o1 o2 => hH.inj id1 id2 b' (hown _ _ o1) (hown _ _ o2), fun id b' o => hH.blk id b' (hown _ _ o)⟩
 by_cases hid : id = 0
 ·subst hid
  exact ⟨b, T, vals, h1, h2, h3, k1, h5⟩
 ·show objOk w U ρ id ((cpHeap ps y).getD id .dead)
  rw [hobj id hid]
  exact hH.ob id

def boxRes (ps : List CP) (outs : List Sh) (r : AV) (h : List AO) : Option (HArgs (outs.map some) × CSem ps) := match h with
 | .box cs :: os => if os.length = cpCount ps then match resOf [] outs r, cpMatch (hpOf (.box cs :: os)) 1 ps cs with
   | some a, some y => some (a, y)
   | _, _ => none
  else none
 | _ => none

def boxG (ps : List CP) (ks outs : List Sh) (ps' : List CP) (c : CSem ps → HArgs (ks.map some) → Bool) (g : CSem ps → HArgs (ks.map some) → HArgs (outs.map some) × CSem ps') : GSem (none :: ks.map some) := fun x h => match x.1, h with
 | .ptr 0 0, .box cs :: os => if os.length = cpCount ps then match cpMatch (hpOf (.box cs :: os)) 1 ps cs with
   | some y => .chk (c y x.2) (.ok (resAV outs (g y x.2).1, cpHeap ps' (g y x.2).2))
   | none => .err
  else .err
 | _, _ => .err

def boxF (ps : List CP) (ks outs : List Sh) (ps' : List CP) (c : CSem ps → HArgs (ks.map some) → Bool) (g : CSem ps → HArgs (ks.map some) → HArgs (outs.map some) × CSem ps') : FSem := liftF (none :: ks.map some) (boxG ps ks outs ps' c g)

theorem cpHeap_length (ps : List CP) (y : CSem ps) : (cpHeap ps y).length = cpCount ps + 1 := by
 simp [cpHeap, cpObjs_length]

theorem resOf_nil {w : World} {U : Nat → Prop} {ρ : Nat → Option Value} {outs : List Sh} {r : AV} {y : HArgs (outs.map some)} {v : Value} (h : resOf [] outs r = some y) (hr : Rv w U ρ r v) : Rv w U ρ (resAV outs y) v := by
 have hob : ∀ id, objOk w U ρ id (hpOf [] id) ∧ ∀ b, ownsB ρ id (hpOf [] id) b → ¬ U b := fun id => ⟨by simp [hpOf, objOk], fun b hb => by simp [hpOf, ownsB, AO.owns] at hb⟩
 have htup : ∀ (outs : List Sh) (y : HArgs (outs.map some)) (rs : List AV), packT (hpOf []) (fun i => i) (outs.map some) rs = some y → Rv w U ρ (.tup rs) v → Rv w U ρ (.tup (avs (outs.map some) y)) v := by
  intro outs y rs hy hrv
  cases hrv with
  | tup _ vs hl hr2 =>
  have := (packArgs_ok (w := w) (U := U) (ρ := ρ) (U' := U) (ρ' := ρ) (hp := hpOf []) (f := fun i => i) (fun b hb => hb) (outs.map some) rs vs _ (packArgs_of outs rs y hy) ⟨hl, hr2⟩ (fun id _ => hob id)
   (fun id _ => rfl)).1
  simp only [List.map_map, Function.comp_def, Bool.false_eq_true, if_false, List.map_id'] at this
  exact .tup _ vs this.len this.rv
 match outs, y, h with
 | [s], y, h =>
  simp only [resOf] at h
  split at h
  ·rename_i x hx
   cases h
   exact datum_rv hx hr (fun b hb => hb) (fun id _ => hob id)
  ·cases h
 | [], y, h =>
  simp only [resOf] at h
  cases r with
  | tup rs => exact htup [] y _ h hr
  | _ => cases h
 | s1 :: s2 :: ss, y, h =>
  simp only [resOf] at h
  cases r with
  | tup rs => exact htup _ y _ h hr
  | _ => cases h

theorem FOk_box {E : Env} {k : FuncId} {f : Func} {ps : List CP} {ks outs : List Sh} {ps' : List CP} {c : CSem ps → HArgs (ks.map some) → Bool} {g : CSem ps → HArgs (ks.map some) → HArgs (outs.map some) × CSem ps'} (hf : fnChk E.P k f (ks.length + 1))
  (h : ∀ y x, c y x = true → ∀ C : Ctx, (∀ id, cpCount ps + 1 ≤ id → C.ρ0 id = none) → Reach E C k (bodyOf f) (initSt f.ntmps (.ptr 0 0 :: avs (ks.map some) x) (cpHeap ps y)) (fun r h => boxRes ps' outs r h = some (g y x))) :
  FOk E.P E.gl k (boxF ps ks outs ps' c g) := by
 refine FOk_of (by simpa using hf) fun x h0 res hx C hC => ?_
 obtain ⟨x0, x⟩ := x
 unfold boxG at hx
 simp only at hx
 split at hx
 ·rename_i cs os
  split at hx
  ·rename_i hos
   split at hx
   ·rename_i y hy
    simp only [Tr.val] at hx
    split at hx
    ·rename_i hc
     simp only [Option.some.injEq] at hx
     subst hx
     have hR := h y x hc C (fun id hid => hC id (by simpa [hos] using hid))
     intro b cs' a w U ρ h1 h2 hcn hW
     have hH : HpOk C w U ρ (fun j => ((AO.box cs :: os).getD j .dead)) := hcn.hp
     have hcn' : Cn C (initSt f.ntmps (.ptr 0 0 :: avs (ks.map some) x) (cpHeap ps y)) a w U ρ :=
      ⟨hcn.tm, hH.box hos hy, fun id hid => hcn.new id (by have hid : (cpHeap ps y).length ≤ id := hid; rw [cpHeap_length] at hid; simpa [initSt, hos] using hid), hcn.df, hcn.r0⟩
     obtain ⟨e, w', fr, ⟨v, r, h', U', ρ', he, hq, hrv, hH', hnew, hr0, hWd⟩, hcm, hf', hl⟩ := hR b cs' a w U ρ h1 h2 hcn' hW
     unfold boxRes at hq
     split at hq
     ·rename_i cs2 os2
      split at hq
      ·rename_i hos2
       split at hq
       ·rename_i a' y' ha' hy'
        simp only [Option.some.injEq] at hq
        refine ⟨e, w', fr, ⟨v, _, _, U', ρ', he, by rw [← hq], resOf_nil ha' hrv, hH'.box hos2 hy', fun id hid => hnew id (by rw [cpHeap_length] at hid; simpa [hos2] using hid), hr0, hWd⟩, hcm, hf', hl⟩
       ·cases hq
      ·cases hq
     ·cases hq
    ·simp at hx
   ·simp at hx
  ·simp at hx
 ·simp at hx

open Go

def tm (n : Nat) (l : List (Nat × AV)) : List AV := l.foldl (fun a p => a.set p.1 p.2) (List.replicate n .any)

def iterR (E : Env) (n0 : Nat) (keep : Nat → Keep) (f : Func) (gas : Nat) : Nat → List Item → St → Option (AV × List AO)
 | 0, _, _ => none
 | n + 1, K, st => match (run E n0 keep f.results.toList gas K st).val with
  | some (.ret v h) => some (v, h)
  | some (.head _ K' st') => iterR E n0 keep f gas n K' st'
  | _ => none

theorem iterR_ok {E : Env} {C : Ctx} {k : FuncId} {f : Func} {Q : AV → List AO → Prop} {m n0 : Nat} (hE : EnvAll E) (hm : E.P.follows .mixedOrders = true) (hf : fnChk E.P k f m) (hC : ∀ id, n0 ≤ id → C.ρ0 id = none) {keep : Nat → Keep} {gas : Nat} :
  ∀ (n : Nat) (K : List Item) (st : St) (r : AV × List AO), iterR E n0 keep f gas n K st = some r → Q r.1 r.2 → Reach E C k K st Q
 | 0, _, _, _, h, _ => by cases h
 | n + 1, K, st, r, h, hQ => by
  unfold iterR at h
  split at h
  ·rename_i v h' hv
   cases h
   exact reach_val hE hm hf hC hv hQ
  ·rename_i j K' st' hv
   exact reach_val hE hm hf hC hv (iterR_ok hE hm hf hC n K' st' r h hQ)
  ·cases h

def dfltH : (outs : List Sh) → HArgs (outs.map some)
 | [] => ()
 | s :: r => (dflt s, dfltH r)

def dfltC : (ps : List CP) → CSem ps
 | [] => ()
 | .d s :: r => (dflt s, dfltC r)
 | .nil :: r => dfltC r
 | .vec _ :: r => ([], dfltC r)

def cpN : List Nat → (ps : List CP) → CSem ps → List AV
 | _, [], _ => []
 | n, .d s :: r, y => explode s y.1 ++ cpN n r y.2
 | n, .nil :: r, y => .nils :: cpN n r y
 | n, .vec _ :: r, y => .vec (n.headD 0) :: cpN n.tail r y.2

def itO (E : Env) (keep : Nat → Keep) (f : Func) (gas n : Nat) (ks outs : List Sh) (x : HArgs (ks.map some)) : Option (HArgs (outs.map some)) :=
 (iterR E 0 keep f gas n (bodyOf f) (initSt f.ntmps (avs (ks.map some) x) [])).bind fun r => resOf r.2 outs r.1

def plainO (ks outs : List Sh) (g : HArgs (ks.map some) → Option (HArgs (outs.map some))) : FSem := plainC ks outs (fun x => (g x).isSome) fun x => (g x).getD (dfltH outs)

theorem FOk_it {E : Env} {k : FuncId} {f : Func} {ks outs : List Sh} {keep : Nat → Keep} {gas n : Nat} (hE : EnvAll E) (hm : E.P.follows .mixedOrders = true) (hf : fnChk E.P k f ks.length) : FOk E.P E.gl k (plainO ks outs (itO E keep f gas n ks outs)) := by
 refine FOk_plainC hf fun x hc C hC => ?_
 rw [Option.isSome_iff_exists] at hc
 obtain ⟨y, hy⟩ := hc
 rw [hy]
 unfold itO at hy
 rw [Option.bind_eq_some_iff] at hy
 obtain ⟨r, h1, h2⟩ := hy
 exact iterR_ok hE hm hf (fun id _ => hC id) n _ _ r h1 h2

def itB (E : Env) (keep : Nat → Keep) (f : Func) (gas n : Nat) (ps : List CP) (ks outs : List Sh) (ps' : List CP) (y : CSem ps) (x : HArgs (ks.map some)) : Option (HArgs (outs.map some) × CSem ps') :=
 (iterR E (cpCount ps + 1) keep f gas n (bodyOf f) (initSt f.ntmps (.ptr 0 0 :: avs (ks.map some) x) (cpHeap ps y))).bind fun r => boxRes ps' outs r.1 r.2

def boxO (ps : List CP) (ks outs : List Sh) (ps' : List CP) (g : CSem ps → HArgs (ks.map some) → Option (HArgs (outs.map some) × CSem ps')) : FSem :=
 boxF ps ks outs ps' (fun y x => (g y x).isSome) fun y x => (g y x).getD (dfltH outs, dfltC ps')

theorem FOk_itB {E : Env} {k : FuncId} {f : Func} {ps : List CP} {ks outs : List Sh} {ps' : List CP} {keep : Nat → Keep} {gas n : Nat} (hE : EnvAll E) (hm : E.P.follows .mixedOrders = true) (hf : fnChk E.P k f (ks.length + 1)) : FOk E.P E.gl k (boxO ps ks outs ps' (itB E keep f gas n ps ks outs ps')) := by
 refine FOk_box hf fun y x hc C hC => ?_
 rw [Option.isSome_iff_exists] at hc
 obtain ⟨z, hz⟩ := hc
 rw [hz]
 unfold itB at hz
 rw [Option.bind_eq_some_iff] at hz
 obtain ⟨r, h1, h2⟩ := hz
 exact iterR_ok hE hm hf hC n _ _ r h1 h2

theorem FOk_itS {E : Env} {k : FuncId} {f : Func} {ks outs : List Sh} {keep : Nat → Keep} {gas n : Nat} {c : HArgs (ks.map some) → Bool} {g : HArgs (ks.map some) → HArgs (outs.map some)} (hE : EnvAll E) (hm : E.P.follows .mixedOrders = true) (hf : fnChk E.P k f ks.length)
  (hc : ∀ x, c x = (itO E keep f gas n ks outs x).isSome) (hg : ∀ x, g x = (itO E keep f gas n ks outs x).getD (dfltH outs)) : FOk E.P E.gl k (plainC ks outs c g) := by
 obtain rfl : c = fun x => (itO E keep f gas n ks outs x).isSome := funext hc
 obtain rfl : g = fun x => (itO E keep f gas n ks outs x).getD (dfltH outs) := funext hg
 exact FOk_it hE hm hf

theorem FOk_itBS {E : Env} {k : FuncId} {f : Func} {ps : List CP} {ks outs : List Sh} {ps' : List CP} {keep : Nat → Keep} {gas n : Nat} {c : CSem ps → HArgs (ks.map some) → Bool} {g : CSem ps → HArgs (ks.map some) → HArgs (outs.map some) × CSem ps'} (hE : EnvAll E) (hm : E.P.follows .mixedOrders = true) (hf : fnChk E.P k f (ks.length + 1))
  (hc : ∀ y x, c y x = (itB E keep f gas n ps ks outs ps' y x).isSome) (hg : ∀ y x, g y x = (itB E keep f gas n ps ks outs ps' y x).getD (dfltH outs, dfltC ps')) : FOk E.P E.gl k (boxF ps ks outs ps' c g) := by
 obtain rfl : c = fun y x => (itB E keep f gas n ps ks outs ps' y x).isSome := funext fun y => funext fun x => hc y x
 obtain rfl : g = fun y x => (itB E keep f gas n ps ks outs ps' y x).getD (dfltH outs, dfltC ps') := funext fun y => funext fun x => hg y x
 exact FOk_itB hE hm hf

def foldI {α β R : Type} (f : β → Nat → α → β ⊕ R) (fin : β → R) : List α → Nat → β → R
 | [], _, b => fin b
 | x :: r, i, b => match f b i x with
  | .inl b' => foldI f fin r (i + 1) b'
  | .inr y => y

abbrev Raw := AV × List AO

def Tr.map {α β : Type} (f : α → β) : Tr α → Tr β
 | .err => .err
 | .chk c t => .chk c (t.map f)
 | .br c t e => .br c (t.map f) (e.map f)
 | .ok a => .ok (f a)

theorem Tr.val_map {α β : Type} (f : α → β) : ∀ t : Tr α, (t.map f).val = t.val.map f
 | .err => rfl
 | .chk c t => by simp only [Tr.map, Tr.val, val_map f t]; split <;> rfl
 | .br c t e => by simp only [Tr.map, Tr.val, val_map f t, val_map f e]; split <;> rfl
 | .ok _ => rfl

abbrev Tr.to {σ : Type} (s : σ) : Tr (σ ⊕ Raw) := .ok (.inl s)
abbrev Tr.re {σ : Type} (v : AV) (h : List AO) : Tr (σ ⊕ Raw) := .ok (.inr (v, h))

def iterT {σ : Type} (t : σ → Tr (σ ⊕ Raw)) : Nat → σ → Option Raw
 | 0, _ => none
 | n + 1, s => match (t s).val with
  | some (.inl s') => iterT t n s'
  | some (.inr r) => some r
  | none => none

def runT {σ : Type} (t : σ → Tr (σ ⊕ Raw)) (n : Nat) (i : Tr (σ ⊕ Raw)) : Option Raw := match i.val with
 | some (.inl s) => iterT t n s
 | some (.inr r) => some r
 | none => none

def lf {σ : Type} (f : Func) (e : σ → Nat × St) : σ ⊕ Raw → Leaf
 | .inl s => .head (e s).1 (headK f (e s).1) (e s).2
 | .inr r => .ret r.1 r.2

def e0 : Empty → Nat × St := fun x => nomatch x
def t0 : Empty → Tr (Empty ⊕ Raw) := fun x => nomatch x

section
variable {σ : Type} {E : Env} {n0 : Nat} {keep : Nat → Keep} {f : Func} {gas : Nat} {e : σ → Nat × St} {t : σ → Tr (σ ⊕ Raw)}

theorem iterR_T (hon : ∀ s, run E n0 keep f.results.toList gas (headK f (e s).1) (e s).2 = (t s).map (lf f e)) : ∀ (n : Nat) (s : σ), iterR E n0 keep f gas n (headK f (e s).1) (e s).2 = iterT t n s
 | 0, _ => rfl
 | n + 1, s => by
  rw [iterR, hon s, Tr.val_map, iterT]
  cases (t s).val with
  | none => rfl
  | some l =>
   cases l with
   | inl s' => exact iterR_T hon n s'
   | inr r => rfl

theorem iterR_runT (hon : ∀ s, run E n0 keep f.results.toList gas (headK f (e s).1) (e s).2 = (t s).map (lf f e)) {K : List Item} {st : St} {i : Tr (σ ⊕ Raw)} (hgo : run E n0 keep f.results.toList gas K st = i.map (lf f e)) (n : Nat) : iterR E n0 keep f gas (n + 1) K st = runT t n i := by
 rw [iterR, hgo, Tr.val_map, runT]
 cases i.val with
 | none => rfl
 | some l =>
  cases l with
  | inl s => exact iterR_T hon n s
  | inr r => rfl
end

def outT {σ : Type} (outs : List Sh) (t : σ → Tr (σ ⊕ Raw)) (n : Nat) (i : Tr (σ ⊕ Raw)) : Option (HArgs (outs.map some)) := (runT t n i).bind fun r => resOf r.2 outs r.1

theorem FOk_T1 {σ : Type} {E : Env} {k : FuncId} {f : Func} {ks outs : List Sh} {keep : Nat → Keep} {gas n : Nat} {e : σ → Nat × St} {t : σ → Tr (σ ⊕ Raw)} {i : HArgs (ks.map some) → Tr (σ ⊕ Raw)} {c : HArgs (ks.map some) → Bool} {g : HArgs (ks.map some) → HArgs (outs.map some)}
  (hE : EnvAll E) (hm : E.P.follows .mixedOrders = true) (hf : fnChk E.P k f ks.length) (hgo : ∀ x, run E 0 keep f.results.toList gas (bodyOf f) (initSt f.ntmps (avs (ks.map some) x) []) = (i x).map (lf f e))
  (hon : ∀ s, run E 0 keep f.results.toList gas (headK f (e s).1) (e s).2 = (t s).map (lf f e))
  (hc : ∀ x, c x = (outT outs t n (i x)).isSome) (hg : ∀ x, g x = (outT outs t n (i x)).getD (dfltH outs)) : FOk E.P E.gl k (plainC ks outs c g) := by
 have h : ∀ x, itO E keep f gas (n + 1) ks outs x = outT outs t n (i x) := by
  intro x
  unfold itO outT
  rw [iterR_runT hon (hgo x)]
 exact FOk_itS (n := n + 1) hE hm hf (fun x => by rw [h, hc]) (fun x => by rw [h, hg])

theorem on0 (E : Env) (n0 : Nat) (keep : Nat → Keep) (f : Func) (gas : Nat) : ∀ s, run E n0 keep f.results.toList gas (headK f (e0 s).1) (e0 s).2 = (t0 s).map (lf f e0) := fun s => nomatch s

def outB {σ : Type} (outs : List Sh) (ps' : List CP) (t : σ → Tr (σ ⊕ Raw)) (n : Nat) (i : Tr (σ ⊕ Raw)) : Option (HArgs (outs.map some) × CSem ps') := (runT t n i).bind fun r => boxRes ps' outs r.1 r.2

theorem FOk_B1 {σ : Type} {E : Env} {k : FuncId} {f : Func} {ps : List CP} {ks outs : List Sh} {ps' : List CP} {keep : Nat → Keep} {gas n : Nat} {e : σ → Nat × St} {t : σ → Tr (σ ⊕ Raw)} {i : CSem ps → HArgs (ks.map some) → Tr (σ ⊕ Raw)} {c : CSem ps → HArgs (ks.map some) → Bool} {g : CSem ps → HArgs (ks.map some) → HArgs (outs.map some) × CSem ps'}
  (hE : EnvAll E) (hm : E.P.follows .mixedOrders = true) (hf : fnChk E.P k f (ks.length + 1)) (hgo : ∀ y x, run E (cpCount ps + 1) keep f.results.toList gas (bodyOf f) (initSt f.ntmps (.ptr 0 0 :: avs (ks.map some) x) (cpHeap ps y)) = (i y x).map (lf f e))
  (hon : ∀ s, run E (cpCount ps + 1) keep f.results.toList gas (headK f (e s).1) (e s).2 = (t s).map (lf f e))
  (hc : ∀ y x, c y x = (outB outs ps' t n (i y x)).isSome) (hg : ∀ y x, g y x = (outB outs ps' t n (i y x)).getD (dfltH outs, dfltC ps')) : FOk E.P E.gl k (boxF ps ks outs ps' c g) := by
 have h : ∀ y x, itB E keep f gas (n + 1) ps ks outs ps' y x = outB outs ps' t n (i y x) := by
  intro y x
  unfold itB outB
  rw [iterR_runT hon (hgo y x)]
 exact FOk_itBS (n := n + 1) hE hm hf (fun y x => by rw [h, hc]) (fun y x => by rw [h, hg])

open Go

theorem asSl_sl (hp : Nat → AO) (e : Sh) (l : List (Sem e)) : asSl hp e (.sl e l) = some l := by
 simp [asSl]

theorem implode_explode (hp : Nat → AO) : ∀ (s : Sh) (x : Sem s) (r : List AV), implode hp s (explode s x ++ r) = some (x, r)
 | .unit, _, _ => rfl
 | .bool, _, _ => rfl
 | .int k, n, r => by simp [explode, implode]
 | .str, _, _ => rfl
 | .sl e, l, r => by
  show (match asSl hp e (.sl e l) with | some l => some (l, r) | none => none) = _
  rw [asSl_sl]
 | .pr a b, x, r => by
  simp only [explode, implode, List.append_assoc, implode_explode hp a, implode_explode hp b]
 | .expr, e, r => by
  show implodeE hp _ = _
  simp only [explode, List.cons_append, List.nil_append, implodeE, asSl_sl]
  rw [show ExprT.mk e.op (e.v.1, e.v.2.1, e.v.2.2) e.s e.l = e from ExprT.eta e]

theorem cpMatch_cells {hp : Nat → AO} : ∀ (ps : List CP) (n : Nat) (y : CSem ps), (∀ (j : Nat) o, (cpObjs ps y)[j]? = some o → hp (n + j) = o) → cpMatch hp n ps (cpCells n ps y) = some y
 | [], _, _, _ => rfl
 | .d s :: r, n, y, h => by
  simp only [cpCells, cpMatch, implode_explode]
  rw [cpMatch_cells r n y.2 h]
 | .nil :: r, n, y, h => by
  simp only [cpCells, cpMatch]
  exact cpMatch_cells r n y h
 | .vec e :: r, n, y, h => by
  have h0 := h 0 (.vec e y.1) rfl
  simp only [Nat.add_zero] at h0
  simp only [cpCells, cpMatch, if_true, h0, dite_true]
  rw [cpMatch_cells r (n + 1) y.2 (fun j o hj => by
   have := h (j + 1) o (by simpa [cpObjs] using hj)
   rw [← this]
   congr 1
   omega)]

theorem boxRes_heap {ps : List CP} {outs : List Sh} {r : AV} {a : HArgs (outs.map some)} (y : CSem ps) (h : resOf [] outs r = some a) : boxRes ps outs r (cpHeap ps y) = some (a, y) := by
 unfold boxRes cpHeap
 simp only [cpObjs_length, if_true, h]
 rw [cpMatch_cells ps 1 y (fun j o hj => by
  unfold hpOf
  rw [Nat.add_comm, List.getD_cons_succ, List.getD_eq_getElem?_getD, hj]
  rfl)]

section
variable {σ : Type} {t : σ → Tr (σ ⊕ Raw)}

theorem iter_inv {β : Type} (N : Nat) (st : β → Nat → σ) (I : β → Nat → Prop) (Φ : Raw → Prop) (M : Nat)
  (hstep : ∀ b i, i < N → I b i → (∃ b', I b' (i + 1) ∧ (t (st b i)).val = some (.inl (st b' (i + 1)))) ∨ ∃ r, (t (st b i)).val = some (.inr r) ∧ Φ r)
  (hend : ∀ b n, I b N → M ≤ n → ∃ r, iterT t n (st b N) = some r ∧ Φ r) :
  ∀ (m i : Nat) (b : β) (n : Nat), N - i = m → i ≤ N → I b i → M + m ≤ n → ∃ r, iterT t n (st b i) = some r ∧ Φ r
 | 0, i, b, n, hm, hi, hI, hn => by
  obtain rfl : i = N := by omega
  exact hend b n hI (by omega)
 | m + 1, i, b, n, hm, hi, hI, hn => by
  obtain ⟨n, rfl⟩ : ∃ k, n = k + 1 := ⟨n - 1, by omega⟩
  rcases hstep b i (by omega) hI with ⟨b', hI', h⟩ | ⟨r, h1, h2⟩
  ·obtain ⟨r, h1, h2⟩ := iter_inv N st I Φ M hstep hend m (i + 1) b' n (by omega) (by omega) hI' (by omega)
   exact ⟨r, by rw [iterT, h]; exact h1, h2⟩
  ·exact ⟨r, by rw [iterT, h1], h2⟩

theorem iterT_val {n : Nat} {s : σ} : iterT t (n + 1) s = match (t s).val with
  | some (.inl s') => iterT t n s'
  | some (.inr r) => some r
  | none => none := rfl
end

end Cad
