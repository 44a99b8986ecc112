/- Statements: the ways of many; expressions' texts. Statements: the ways of many, again; tokens. Statements: the ways of many, once more. Statements: many; checks' texts. Statements: what a CREATE has. -/
import Derived.Test.YtfgnbipebgibeaaGreatDoorG10
namespace Cad
open Go Go.Proofs
noncomputable section
set_option maxHeartbeats 4000000

def F134 : FSem := liftF (List.replicate 2 none) (autoG env36 Tryz.f235 (List.replicate 2 none))
theorem FOk134 : FOk env36.P env36.gl 235 F134 := FOk_auto _ env36_all env36_mix (by refine ⟨?_, ?_, ?_, ?_⟩ <;> kernel_rfl)

def F136 : FSem := liftF (List.replicate 2 none) (autoG env36 Tryz.f237 (List.replicate 2 none))
theorem FOk136 : FOk env36.P env36.gl 237 F136 := FOk_auto _ env36_all env36_mix (by refine ⟨?_, ?_, ?_, ?_⟩ <;> kernel_rfl)

def F115 : FSem := liftF (List.replicate 2 none) (autoG env36 Tryz.f203 (List.replicate 2 none))
theorem FOk115 : FOk env36.P env36.gl 203 F115 := FOk_auto _ env36_all env36_mix (by refine ⟨?_, ?_, ?_, ?_⟩ <;> kernel_rfl)

def F110 : FSem := liftF (List.replicate 2 none) (autoG env36 Tryz.f196 (List.replicate 2 none))
theorem FOk110 : FOk env36.P env36.gl 196 F110 := FOk_auto _ env36_all env36_mix (by refine ⟨?_, ?_, ?_, ?_⟩ <;> kernel_rfl)

def F112 : FSem := liftF (List.replicate 2 none) (autoG env36 Tryz.f200 (List.replicate 2 none))
theorem FOk112 : FOk env36.P env36.gl 200 F112 := FOk_auto _ env36_all env36_mix (by refine ⟨?_, ?_, ?_, ?_⟩ <;> kernel_rfl)

abbrev kp91 : Nat → Keep := fun j => if j = 3 then { slots := [1, 5, 8, 9, 10], prom := [(5, none, .str)] } else { }
abbrev s91_3 (l8 : LV) (i9 : Int) (i10 : Int) (lh_0 : LS) : St := { tmps := [ny, AV.clo (Fn.func 164) [] [], ny, ny, ny, AV.vec 0, ny, ny, AV.sl shVal l8, ai i9, ai i10, ny, ny, ny, ny, ny, ny, ny, ny, ny, ny, ny, ny], heap := [AO.vec Sh.str lh_0] }
theorem ok91 : fnChk (env36).P 163 Tryz.f163 2 := by refine ⟨?_, ?_, ?_, ?_⟩ <;> kernel_rfl
theorem go91 (x0 : Sem shVal.sl) : run (env36) 0 kp91 (Func.results Tryz.f163).toList 400 (bodyOf Tryz.f163) (initSt (Func.ntmps Tryz.f163) [datum shVal.sl x0, AV.clo (Fn.func 164) [] []] []) = Tr.ok (Leaf.head 3 (headK Tryz.f163 3) (s91_3 x0 (↑(List.length x0) : Int) 0 [])) := by kernel_rfl
theorem on91_3 (l8 : LV) (i9 : Int) (i10 : Int) (lh_0 : LS) : run (env36) 0 kp91 (Func.results Tryz.f163).toList 400 (headK Tryz.f163 3) (s91_3 l8 i9 i10 lh_0) = Tr.br (decide (i10 < i9)) (Tr.chk (inB i10 l8.length) (Tr.chk (vTextC (l8.getD i10.toNat (dflt shVal))) (Tr.chk (decide (lh_0.length + [vText (l8.getD i10.toNat (dflt shVal))].length ≤ 1073741824)) (Tr.ok (Leaf.head 3 (headK Tryz.f163 3) (s91_3 l8 i9 (IntKind.i64.wrap (i10 + 1)) (lh_0 ++ [vText (l8.getD i10.toNat (dflt shVal))]))))))) (Tr.chk (decide (lh_0.length ≤ 140737488355328) && decide ((Lib.join lh_0 [32, 44, 32]).length ≤ 140737488355328)) (Tr.ok (Leaf.ret (AV.str (Lib.join lh_0 [32, 44, 32])) []))) := by kernel_rfl
def valTexts_3 : List (Sem shVal) → Int → List (Sem Sh.str) → Sem Sh.str
  | [], _, lh_0 => (Lib.join lh_0 [32, 44, 32])
  | x :: r, i10, lh_0 => (valTexts_3 r (i10 + 1) (lh_0 ++ [vText x]))
def valTextsC_3 : List (Sem shVal) → Int → List (Sem Sh.str) → Bool
  | [], _, lh_0 => (if (decide (lh_0.length ≤ 140737488355328) && decide ((Lib.join lh_0 [32, 44, 32]).length ≤ 140737488355328)) = true then true else false)
  | x :: r, i10, lh_0 => (if vTextC x = true then if decide (lh_0.length + [vText x].length ≤ 1073741824) = true then valTextsC_3 r (i10 + 1) (lh_0 ++ [vText x]) else false else false)
theorem at91_3 {C : Ctx} (hC : ∀ id, C.ρ0 id = none) (l8 : LV) (hl : l8.length ≤ maxStr) : ∀ (m i : Nat) (lh_0 : LS), l8.length - i = m → i ≤ l8.length → valTextsC_3 (l8.drop i) i lh_0 = true →
    Reach (env36) C 163 (headK Tryz.f163 3) (s91_3 l8 (l8.length : Int) (i : Int) lh_0) (fun r h => resOf h [Sh.str] r = some (valTexts_3 (l8.drop i) i lh_0, ())) := by
  intro m
  induction m with
  | zero =>
    intro i lh_0 hm hi hc
    obtain rfl : i = l8.length := by omega
    rw [List.drop_length] at hc ⊢
    refine reach_ok env36_all env36_mix (ok91) (fun id _ => hC id) (on91_3 _ _ _ _) ?_
    rw [valTextsC_3] at hc
    generalize hy : valTexts_3 [] _ lh_0 = y
    rw [valTexts_3] at hy
    simp only [lt_dec', Tr.val_brF]
    repeat' (first | with_reducible refine obr hy hc (fun _ hy hc => ?_) (fun _ hy hc => ?_) | with_reducible refine obr1 hy (fun _ hy => ?_) (fun _ hy => ?_) | with_reducible refine ochk hc (fun hc => ?_) | with_reducible refine OptOk_chkT ?_)
    all_goals first | (cases hc; done) | (subst hy; first | rfl)
  | succ m IH =>
    intro i lh_0 hm hi hc
    have hlt : i < l8.length := by omega
    have IH := IH (i + 1)
    have hcast : ((i : Int) + 1) = ((i + 1 : Nat) : Int) := by omega
    have hwr := wrap_add i (by omega)
    rw [List.drop_eq_getElem_cons hlt] at hc ⊢
    refine reach_ok env36_all env36_mix (ok91) (fun id _ => hC id) (on91_3 _ _ _ _) ?_
    rw [valTextsC_3] at hc
    generalize hy : valTexts_3 (l8[i] :: l8.drop (i + 1)) (i : Int) lh_0 = y
    rw [valTexts_3] at hy
    simp only [lt_dec hlt, inB_of hlt, getD_at l8 _ hlt, hwr, Tr.val_brT, Tr.val_chkT]
    clear hwr
    try simp only [inB_of hlt] at hy
    simp only [hcast] at hy
    try simp only [inB_of hlt] at hc
    try simp only [hcast] at hc
    repeat' (first | with_reducible refine obr hy hc (fun _ hy hc => ?_) (fun _ hy hc => ?_) | with_reducible refine obr1 hy (fun _ hy => ?_) (fun _ hy => ?_) | with_reducible refine ochk hc (fun hc => ?_) | with_reducible refine OptOk_chkT ?_)
    all_goals first | (cases hc; done) | (subst hy; first | (change Reach _ _ _ _ _ _; apply IH <;> first | omega | assumption) | rfl)
theorem at91_3s {C : Ctx} (hC : ∀ id, C.ρ0 id = none) (l8 : LV) (lh_0 : LS) (hc : valTextsC_3 l8 0 lh_0 = true) :
    Reach (env36) C 163 (headK Tryz.f163 3) (s91_3 l8 (l8.length : Int) 0 lh_0) (fun r h => resOf h [Sh.str] r = some (valTexts_3 l8 0 lh_0, ())) :=
  Reach.len 8 (shVal) l8 rfl fun hl => at91_3 hC l8 hl _ 0 lh_0 rfl (Nat.zero_le _) hc
def valTexts (x0 : Sem shVal.sl) : Sem Sh.str := (valTexts_3 x0 0 [])
def valTextsC (x0 : Sem shVal.sl) : Bool := (valTextsC_3 x0 0 [])
def F91 : FSem := plainK [shVal.sl] [Sh.str] [(164, (fun x => valTextsC x.1), fun x => (valTexts x.1, ()))]
theorem FOk91 : FOk (env36).P (env36).gl 163 F91 := by
  refine FOk_plainK (ok91) fun j c g hm x hc C hC => ?_
  simp only [List.mem_singleton, Prod.mk.injEq] at hm
  obtain ⟨rfl, rfl, rfl⟩ := hm
  replace hc : valTextsC x.1 = true := hc
  unfold valTextsC at hc
  refine reach_ok env36_all env36_mix (ok91) (fun id _ => hC id) (go91 x.1) ?_
  generalize hy : valTexts x.1 = y
  unfold valTexts at hy
  repeat' (first | with_reducible refine obr hy hc (fun _ hy hc => ?_) (fun _ hy hc => ?_) | with_reducible refine obr1 hy (fun _ hy => ?_) (fun _ hy => ?_) | with_reducible refine ochk hc (fun hc => ?_) | with_reducible refine OptOk_chkT ?_)
  all_goals first | (cases hc; done) | (subst hy; first | (change Reach _ _ _ _ _ _; apply at91_3s hC <;> first | assumption | exact hc) | rfl)

def en149 (g : Sem Sh.expr → Sem Sh.str) (c : Sem Sh.expr → Bool) : Env := env36.add 251 (plainC [Sh.expr] [Sh.str] (fun x => c x.1) fun x => (g x.1, ()))
theorem en149_all {g : Sem Sh.expr → Sem Sh.str} {c : Sem Sh.expr → Bool} (hg : FOk env36.P env36.gl 251 (plainC [Sh.expr] [Sh.str] (fun x => c x.1) fun x => (g x.1, ()))) : EnvAll (en149 g c) := env36_all.add hg
theorem en149_mix {g : Sem Sh.expr → Sem Sh.str} {c : Sem Sh.expr → Bool} : (en149 g c).P.follows .mixedOrders = true := mix_add env36_mix _ _
abbrev kp149r : Nat → Keep := fun _ => { }
theorem ok149r (g : Sem Sh.expr → Sem Sh.str) (c : Sem Sh.expr → Bool) : fnChk (en149 g c).P 251 Tryz.f251 1 := by refine ⟨?_, ?_, ?_, ?_⟩ <;> kernel_rfl
theorem go149r (g : Sem Sh.expr → Sem Sh.str) (c : Sem Sh.expr → Bool) (x0 : Sem Sh.expr) : run (en149 g c) 0 kp149r (Func.results Tryz.f251).toList 400 (bodyOf Tryz.f251) (initSt (Func.ntmps Tryz.f251) [datum Sh.expr x0] []) = Tr.br (ExprT.op x0 == [108, 105, 116]) (Tr.chk (vTextC (ExprT.v x0)) (Tr.ok (Leaf.ret (AV.str (vText (ExprT.v x0))) []))) (Tr.br (ExprT.op x0 == [99, 111, 108]) (Tr.ok (Leaf.ret (AV.str (ExprT.s x0)) [])) (Tr.br (ExprT.op x0 == [110, 111, 116]) (Tr.chk (inB 0 (ExprT.l x0).length) (Tr.chk (c (etaE ((ExprT.l x0).getD (Int.toNat 0) (dflt Sh.expr)))) (Tr.chk (decide ([40, 78, 79, 84, 32].length + List.length (g (etaE ((ExprT.l x0).getD (Int.toNat 0) (dflt Sh.expr)))) ≤ 1099511627776)) (Tr.chk (decide (List.length ([40, 78, 79, 84, 32] ++ g (etaE ((ExprT.l x0).getD (Int.toNat 0) (dflt Sh.expr)))) + [41].length ≤ 1099511627776)) (Tr.ok (Leaf.ret (AV.str ([40, 78, 79, 84, 32] ++ g (etaE ((ExprT.l x0).getD (Int.toNat 0) (dflt Sh.expr))) ++ [41])) [])))))) (Tr.br (ExprT.op x0 == [110, 117, 108, 108]) (Tr.chk (inB 0 (ExprT.l x0).length) (Tr.chk (c (etaE ((ExprT.l x0).getD (Int.toNat 0) (dflt Sh.expr)))) (Tr.chk (decide ([40].length + List.length (g (etaE ((ExprT.l x0).getD (Int.toNat 0) (dflt Sh.expr)))) ≤ 1099511627776)) (Tr.chk (decide (List.length ([40] ++ g (etaE ((ExprT.l x0).getD (Int.toNat 0) (dflt Sh.expr)))) + [32, 73, 83, 32, 78, 85, 76, 76, 41].length ≤ 1099511627776)) (Tr.ok (Leaf.ret (AV.str ([40] ++ g
 (etaE ((ExprT.l x0).getD (Int.toNat 0) (dflt Sh.expr))) ++ [32, 73, 83, 32, 78, 85, 76, 76, 41])) [])))))) (Tr.chk (inB 0 (ExprT.l x0).length) (Tr.chk (c (etaE ((ExprT.l x0).getD (Int.toNat 0) (dflt Sh.expr)))) (Tr.chk (decide ([40].length + List.length (g (etaE ((ExprT.l x0).getD (Int.toNat 0) (dflt Sh.expr)))) ≤ 1099511627776)) (Tr.chk (decide (List.length ([40] ++ g (etaE ((ExprT.l x0).getD (Int.toNat 0) (dflt Sh.expr)))) + [32].length ≤ 1099511627776)) (Tr.chk (decide (List.length (ExprT.op x0) ≤ 140737488355328) && List.all (ExprT.op x0) fun b => decide (b.toNat < 128)) (Tr.chk (decide (List.length ([40] ++ g (etaE ((ExprT.l x0).getD (Int.toNat 0) (dflt Sh.expr))) ++ [32]) + (Lib.toUpperA (ExprT.op x0)).length ≤ 1099511627776)) (Tr.chk (decide (List.length ([40] ++ g (etaE ((ExprT.l x0).getD (Int.toNat 0) (dflt Sh.expr))) ++ [32] ++ Lib.toUpperA (ExprT.op x0)) + [32].length ≤ 1099511627776)) (Tr.chk (inB 1 (ExprT.l x0).length) (Tr.chk (c (etaE ((ExprT.l x0).getD (Int.toNat 1) (dflt Sh.expr)))) (Tr.chk (decide (List.length ([40] ++ g (etaE ((ExprT.l x0).getD (Int.toNat 0) (dflt Sh.expr))) ++ [32] ++ Lib.toUpperA (ExprT.op x0) ++ [32]) + List.length (g (etaE ((ExprT.l x0).getD (Int.toNat 1) (dflt Sh.expr)))) ≤ 1099511627776)) (Tr.chk (decide (List.length ([40] ++ g (etaE ((ExprT.l x0).getD (Int.toNat 0) (dflt Sh.expr))) ++ [32] ++ Lib.toUpperA (ExprT.op x0) ++ [32] ++ g (etaE ((ExprT.l x0).getD (Int.toNat 1) (dflt Sh.expr)))) + [41].length ≤ 1099511627776)) (Tr.ok
 (Leaf.ret (AV.str ([40] ++ g (etaE ((ExprT.l x0).getD (Int.toNat 0) (dflt Sh.expr))) ++ [32] ++ Lib.toUpperA (ExprT.op x0) ++ [32] ++ g (etaE ((ExprT.l x0).getD (Int.toNat 1) (dflt Sh.expr))) ++ [41])) [])))))))))))))))) := by kernel_rfl
def eTextS (g : Sem Sh.expr → Sem Sh.str) (_ : Sem Sh.expr → Bool) (x0 : Sem Sh.expr) : Sem Sh.str := (if (ExprT.op x0 == [108, 105, 116]) = true then vText (ExprT.v x0) else if (ExprT.op x0 == [99, 111, 108]) = true then ExprT.s x0 else if (ExprT.op x0 == [110, 111, 116]) = true then [40, 78, 79, 84, 32] ++ g ((ExprT.l x0).getD (Int.toNat 0) (dflt Sh.expr)) ++ [41] else if (ExprT.op x0 == [110, 117, 108, 108]) = true then [40] ++ g ((ExprT.l x0).getD (Int.toNat 0) (dflt Sh.expr)) ++ [32, 73, 83, 32, 78, 85, 76, 76, 41] else [40] ++ g ((ExprT.l x0).getD (Int.toNat 0) (dflt Sh.expr)) ++ [32] ++ Lib.toUpperA (ExprT.op x0) ++ [32] ++ g ((ExprT.l x0).getD (Int.toNat 1) (dflt Sh.expr)) ++ [41])
def eTextSC (g : Sem Sh.expr → Sem Sh.str) (c : Sem Sh.expr → Bool) (x0 : Sem Sh.expr) : Bool := (if (ExprT.op x0 == [108, 105, 116]) = true then if vTextC (ExprT.v x0) = true then true else false else if (ExprT.op x0 == [99, 111, 108]) = true then true else if (ExprT.op x0 == [110, 111, 116]) = true then if inB 0 (ExprT.l x0).length = true then if c ((ExprT.l x0).getD (Int.toNat 0) (dflt Sh.expr)) = true then if decide ([40, 78, 79, 84, 32].length + List.length (g ((ExprT.l x0).getD (Int.toNat 0) (dflt Sh.expr))) ≤ 1099511627776) = true then if decide (List.length ([40, 78, 79, 84, 32] ++ g ((ExprT.l x0).getD (Int.toNat 0) (dflt Sh.expr))) + [41].length ≤ 1099511627776) = true then true else false else false else false else false else if (ExprT.op x0 == [110, 117, 108, 108]) = true then if inB 0 (ExprT.l x0).length = true then if c ((ExprT.l x0).getD (Int.toNat 0) (dflt Sh.expr)) = true then if decide ([40].length + List.length (g ((ExprT.l x0).getD (Int.toNat 0) (dflt Sh.expr))) ≤ 1099511627776) = true then if decide (List.length ([40] ++ g ((ExprT.l x0).getD (Int.toNat 0) (dflt Sh.expr))) + [32, 73, 83, 32, 78, 85, 76, 76, 41].length ≤ 1099511627776) = true then true else false else false else false else false else if inB 0 (ExprT.l x0).length = true then if c ((ExprT.l x0).getD (Int.toNat 0) (dflt Sh.expr)) = true then if decide ([40].length + List.length (g ((ExprT.l x0).getD (Int.toNat 0) (dflt Sh.expr))) ≤ 1099511627776) = true then
 if decide (List.length ([40] ++ g ((ExprT.l x0).getD (Int.toNat 0) (dflt Sh.expr))) + [32].length ≤ 1099511627776) = true then if (decide (List.length (ExprT.op x0) ≤ 140737488355328) && List.all (ExprT.op x0) fun b => decide (b.toNat < 128)) = true then if decide (List.length ([40] ++ g ((ExprT.l x0).getD (Int.toNat 0) (dflt Sh.expr)) ++ [32]) + (Lib.toUpperA (ExprT.op x0)).length ≤ 1099511627776) = true then if decide (List.length ([40] ++ g ((ExprT.l x0).getD (Int.toNat 0) (dflt Sh.expr)) ++ [32] ++ Lib.toUpperA (ExprT.op x0)) + [32].length ≤ 1099511627776) = true then if inB 1 (ExprT.l x0).length = true then if c ((ExprT.l x0).getD (Int.toNat 1) (dflt Sh.expr)) = true then if decide (List.length ([40] ++ g ((ExprT.l x0).getD (Int.toNat 0) (dflt Sh.expr)) ++ [32] ++ Lib.toUpperA (ExprT.op x0) ++ [32]) + List.length (g ((ExprT.l x0).getD (Int.toNat 1) (dflt Sh.expr))) ≤ 1099511627776) = true then if decide (List.length ([40] ++ g ((ExprT.l x0).getD (Int.toNat 0) (dflt Sh.expr)) ++ [32] ++ Lib.toUpperA (ExprT.op x0) ++ [32] ++ g ((ExprT.l x0).getD (Int.toNat 1) (dflt Sh.expr))) + [41].length ≤ 1099511627776) = true then true else false else false else false else false else false else false else false else false else false else false else false)
def F149r (g : Sem Sh.expr → Sem Sh.str) (c : Sem Sh.expr → Bool) : FSem := plainC [Sh.expr] [Sh.str] (fun x => eTextSC g c x.1) fun x => (eTextS g c x.1, ())
theorem FOk149r (g : Sem Sh.expr → Sem Sh.str) (c : Sem Sh.expr → Bool) (hg : FOk env36.P env36.gl 251 (plainC [Sh.expr] [Sh.str] (fun x => c x.1) fun x => (g x.1, ()))) : FOk (en149 g c).P (en149 g c).gl 251 (F149r g c) := by
  refine FOk_plainC (ok149r g c) fun x hc C hC => ?_
  unfold eTextSC at hc
  refine reach_ok (en149_all hg) en149_mix (ok149r g c) (fun id _ => hC id) (go149r g c x.1) ?_
  generalize hy : eTextS g c x.1 = y
  unfold eTextS at hy
  try simp only [ExprT.eta]
  repeat' (first | with_reducible refine obr hy hc (fun _ hy hc => ?_) (fun _ hy hc => ?_) | with_reducible refine obr1 hy (fun _ hy => ?_) (fun _ hy => ?_) | with_reducible refine ochk hc (fun hc => ?_) | with_reducible refine OptOk_chkT ?_)
  all_goals first | (cases hc; done) | (subst hy; first | rfl)
mutual
def eTextN : Nat → Sem Sh.expr → Sem Sh.str
  | 0 => fun _ => default
  | n + 1 => eTextS (eTextN n) (eTextCN n)
def eTextCN : Nat → Sem Sh.expr → Bool
  | 0 => fun _ => false
  | n + 1 => eTextSC (eTextN n) (eTextCN n)
end
theorem FOk149N : ∀ n, FOk env36.P env36.gl 251 (plainC [Sh.expr] [Sh.str] (fun x => eTextCN n x.1) fun x => (eTextN n x.1, ()))
  | 0 => FOk_none ⟨Tryz.f251, (ok149r default default).1, (ok149r default default).2.1, (ok149r default default).2.2.1⟩ (fun _ => rfl)
  | n + 1 => FOk149r (eTextN n) (eTextCN n) (FOk149N n)
def F149 : FSem := plainC [Sh.expr] [Sh.str] (fun x => eTextCN 16 x.1) fun x => (eTextN 16 x.1, ())
theorem FOk149 : FOk env36.P env36.gl 251 F149 := FOk149N 16

def env37 : Env := (((((((env36.add 235 F134).add 237 F136).add 203 F115).add 196 F110).add 200 F112).add 163 F91).add 251 F149)
theorem env37_all : EnvAll env37 := (EnvAll.addS (EnvAll.addS (EnvAll.addS (EnvAll.addS (EnvAll.addS (EnvAll.addS (EnvAll.addS env36_all (SameE.refl env36) FOk134) ((SameE.refl env36).add _ _) FOk136) (((SameE.refl env36).add _ _).add _ _) FOk115) ((((SameE.refl env36).add _ _).add _ _).add _ _) FOk110) (((((SameE.refl env36).add _ _).add _ _).add _ _).add _ _) FOk112) ((((((SameE.refl env36).add _ _).add _ _).add _ _).add _ _).add _ _) FOk91) (((((((SameE.refl env36).add _ _).add _ _).add _ _).add _ _).add _ _).add _ _) FOk149)
theorem env37_mix : env37.P.follows .mixedOrders = true := (mix_add (mix_add (mix_add (mix_add (mix_add (mix_add (mix_add env36_mix _ _) _ _) _ _) _ _) _ _) _ _) _ _)
end
open Go Go.Proofs
set_option maxHeartbeats 4000000

abbrev s27b_134 (l : LC) (i : Int) : St := { tmps := [.sl shCol l, .clo (.func 235) [] [.ptr 0 0], .any, .any, .any, .any, .any, .int .i64 l.length, .int .i64 i, .any, .any, .any, .any, .any, .any, .any, .any, .any, .any], heap := [.box [.clo (.func 191) [] []]] }
theorem go27b_134 (l : LC) : run env37 1 kpIx Tryz.f54.results.toList 300 (bodyOf Tryz.f54) (initSt Tryz.f54.ntmps [.sl shCol l, .clo (.func 235) [] [.ptr 0 0]] [.box [.clo (.func 191) [] []]]) = .ok (.head 2 (headK Tryz.f54 2) (s27b_134 l 0)) := by kernel_rfl
theorem on27b_134 (l : LC) (i : Int) : run env37 1 kpIx Tryz.f54.results.toList 300 (headK Tryz.f54 2) (s27b_134 l i) = ixTree (K := headK Tryz.f54 2) (e := shCol) l (fun x => !colOk x) (s27b_134 l) [.box [.clo (.func 191) [] []]] i := by kernel_rfl

theorem ok27b : fnChk env37.P 54 Tryz.f54 2 := by refine ⟨?_, ?_, ?_, ?_⟩ <;> kernel_rfl
def G27b : GSem [some (.sl shCol), none] := fun x h => match x, h with
  | (l, .clo (.func 235) [] [.ptr 0 0], _), [.box [.clo (.func 191) [] []]] => .ok (.int .i64 (ixFrom (fun x => !colOk x) l 0), [.box [.clo (.func 191) [] []]])
  | _, _ => .err
def F27b : FSem := liftF [some (.sl shCol), none] G27b
theorem FOk27b : FOk env37.P env37.gl 54 F27b := by
  refine FOk_of ok27b fun x h0 res hx C hC => ?_
  unfold G27b at hx
  split at hx
  · rename_i l u
    simp only [Tr.val_ok, Option.some.injEq] at hx
    subst hx
    refine Reach.len 0 shCol l rfl fun hl => ?_
    refine reach_ok (n0 := 1) env37_all env37_mix ok27b hC (go27b_134 l) ?_
    exact reach_ixf l (fun x => !colOk x) (s27b_134 l) env37_all env37_mix ok27b hC (on27b_134 l) hl _ 0 rfl (Nat.zero_le _)
  · simp at hx

abbrev s152_136 (l : List (Sem shRef)) (i : Int) : St := { tmps := [.sl shRef l, .clo (.func 237) [] [.ptr 0 0], .any, .any, .any, .any, .any, .int .i64 l.length, .int .i64 i, .any, .any, .any, .any, .any, .any, .any, .any, .any, .any], heap := [.box [.clo (.func 192) [] []]] }
theorem go152_136 (l : List (Sem shRef)) : run env37 1 kpIx Tryz.f266.results.toList 300 (bodyOf Tryz.f266) (initSt Tryz.f266.ntmps [.sl shRef l, .clo (.func 237) [] [.ptr 0 0]] [.box [.clo (.func 192) [] []]]) = .ok (.head 2 (headK Tryz.f266 2) (s152_136 l 0)) := by kernel_rfl
theorem on152_136 (l : List (Sem shRef)) (i : Int) : run env37 1 kpIx Tryz.f266.results.toList 300 (headK Tryz.f266 2) (s152_136 l i) = ixTree (K := headK Tryz.f266 2) (e := shRef) l (fun x => !refOk x) (s152_136 l) [.box [.clo (.func 192) [] []]] i := by kernel_rfl

theorem ok152 : fnChk env37.P 266 Tryz.f266 2 := by refine ⟨?_, ?_, ?_, ?_⟩ <;> kernel_rfl
def G152 : GSem [some (.sl shRef), none] := fun x h => match x, h with
  | (l, .clo (.func 237) [] [.ptr 0 0], _), [.box [.clo (.func 192) [] []]] => .ok (.int .i64 (ixFrom (fun x => !refOk x) l 0), [.box [.clo (.func 192) [] []]])
  | _, _ => .err
def F152 : FSem := liftF [some (.sl shRef), none] G152
theorem FOk152 : FOk env37.P env37.gl 266 F152 := by
  refine FOk_of ok152 fun x h0 res hx C hC => ?_
  unfold G152 at hx
  split at hx
  · rename_i l u
    simp only [Tr.val_ok, Option.some.injEq] at hx
    subst hx
    refine Reach.len 0 shRef l rfl fun hl => ?_
    refine reach_ok (n0 := 1) env37_all env37_mix ok152 hC (go152_136 l) ?_
    exact reach_ixf l (fun x => !refOk x) (s152_136 l) env37_all env37_mix ok152 hC (on152_136 l) hl _ 0 rfl (Nat.zero_le _)
  · simp at hx

abbrev s139_115 (l : LS) (i : Int) : St := { tmps := [.sl Sh.str l, .clo (.func 203) [] [.ptr 0 0], .any, .any, .any, .any, .any, .int .i64 l.length, .int .i64 i, .any, .any, .any, .any, .any, .any, .any, .any, .any, .any], heap := [.box [.clo (.func 151) [] []]] }
theorem go139_115 (l : LS) : run env37 1 kpIx Tryz.f241.results.toList 300 (bodyOf Tryz.f241) (initSt Tryz.f241.ntmps [.sl Sh.str l, .clo (.func 203) [] [.ptr 0 0]] [.box [.clo (.func 151) [] []]]) = .ok (.head 2 (headK Tryz.f241 2) (s139_115 l 0)) := by kernel_rfl
theorem on139_115 (l : LS) (i : Int) : run env37 1 kpIx Tryz.f241.results.toList 300 (headK Tryz.f241 2) (s139_115 l i) = ixTree (K := headK Tryz.f241 2) (e := Sh.str) l (fun x => !sName x) (s139_115 l) [.box [.clo (.func 151) [] []]] i := by kernel_rfl

theorem ok139 : fnChk env37.P 241 Tryz.f241 2 := by refine ⟨?_, ?_, ?_, ?_⟩ <;> kernel_rfl
def G139 : GSem [some (.sl Sh.str), none] := fun x h => match x, h with
  | (l, .clo (.func 203) [] [.ptr 0 0], _), [.box [.clo (.func 151) [] []]] => .ok (.int .i64 (ixFrom (fun x => !sName x) l 0), [.box [.clo (.func 151) [] []]])
  | _, _ => .err
def F139 : FSem := liftF [some (.sl Sh.str), none] G139
theorem FOk139 : FOk env37.P env37.gl 241 F139 := by
  refine FOk_of ok139 fun x h0 res hx C hC => ?_
  unfold G139 at hx
  split at hx
  · rename_i l u
    simp only [Tr.val_ok, Option.some.injEq] at hx
    subst hx
    refine Reach.len 0 Sh.str l rfl fun hl => ?_
    refine reach_ok (n0 := 1) env37_all env37_mix ok139 hC (go139_115 l) ?_
    exact reach_ixf l (fun x => !sName x) (s139_115 l) env37_all env37_mix ok139 hC (on139_115 l) hl _ 0 rfl (Nat.zero_le _)
  · simp at hx

abbrev s137_110 (l : LV) (i : Int) : St := { tmps := [.sl shVal l, .clo (.func 196) [] [.ptr 0 0], .any, .any, .any, .any, .any, .int .i64 l.length, .int .i64 i, .any, .any, .any, .any, .any, .any, .any, .any, .any, .any], heap := [.box [.clo (.func 154) [] []]] }
theorem go137_110 (l : LV) : run env37 1 kpIx Tryz.f238.results.toList 300 (bodyOf Tryz.f238) (initSt Tryz.f238.ntmps [.sl shVal l, .clo (.func 196) [] [.ptr 0 0]] [.box [.clo (.func 154) [] []]]) = .ok (.head 2 (headK Tryz.f238 2) (s137_110 l 0)) := by kernel_rfl
theorem on137_110 (l : LV) (i : Int) : run env37 1 kpIx Tryz.f238.results.toList 300 (headK Tryz.f238 2) (s137_110 l i) = ixTree (K := headK Tryz.f238 2) (e := shVal) l (fun x => !vMay x) (s137_110 l) [.box [.clo (.func 154) [] []]] i := by kernel_rfl

theorem ok137 : fnChk env37.P 238 Tryz.f238 2 := by refine ⟨?_, ?_, ?_, ?_⟩ <;> kernel_rfl
def G137 : GSem [some (.sl shVal), none] := fun x h => match x, h with
  | (l, .clo (.func 196) [] [.ptr 0 0], _), [.box [.clo (.func 154) [] []]] => .ok (.int .i64 (ixFrom (fun x => !vMay x) l 0), [.box [.clo (.func 154) [] []]])
  | _, _ => .err
def F137 : FSem := liftF [some (.sl shVal), none] G137
theorem FOk137 : FOk env37.P env37.gl 238 F137 := by
  refine FOk_of ok137 fun x h0 res hx C hC => ?_
  unfold G137 at hx
  split at hx
  · rename_i l u
    simp only [Tr.val_ok, Option.some.injEq] at hx
    subst hx
    refine Reach.len 0 shVal l rfl fun hl => ?_
    refine reach_ok (n0 := 1) env37_all env37_mix ok137 hC (go137_110 l) ?_
    exact reach_ixf l (fun x => !vMay x) (s137_110 l) env37_all env37_mix ok137 hC (on137_110 l) hl _ 0 rfl (Nat.zero_le _)
  · simp at hx

abbrev s138_112 (l : List (Sem shSet)) (i : Int) : St := { tmps := [.sl shSet l, .clo (.func 200) [] [.ptr 0 0], .any, .any, .any, .any, .any, .int .i64 l.length, .int .i64 i, .any, .any, .any, .any, .any, .any, .any, .any, .any, .any], heap := [.box [.clo (.func 155) [] []]] }
theorem go138_112 (l : List (Sem shSet)) : run env37 1 kpIx Tryz.f240.results.toList 300 (bodyOf Tryz.f240) (initSt Tryz.f240.ntmps [.sl shSet l, .clo (.func 200) [] [.ptr 0 0]] [.box [.clo (.func 155) [] []]]) = .ok (.head 2 (headK Tryz.f240 2) (s138_112 l 0)) := by kernel_rfl
theorem on138_112 (l : List (Sem shSet)) (i : Int) : run env37 1 kpIx Tryz.f240.results.toList 300 (headK Tryz.f240 2) (s138_112 l i) = ixTree (K := headK Tryz.f240 2) (e := shSet) l (fun x => !setOk x) (s138_112 l) [.box [.clo (.func 155) [] []]] i := by kernel_rfl

theorem ok138 : fnChk env37.P 240 Tryz.f240 2 := by refine ⟨?_, ?_, ?_, ?_⟩ <;> kernel_rfl
def G138 : GSem [some (.sl shSet), none] := fun x h => match x, h with
  | (l, .clo (.func 200) [] [.ptr 0 0], _), [.box [.clo (.func 155) [] []]] => .ok (.int .i64 (ixFrom (fun x => !setOk x) l 0), [.box [.clo (.func 155) [] []]])
  | _, _ => .err
def F138 : FSem := liftF [some (.sl shSet), none] G138
theorem FOk138 : FOk env37.P env37.gl 240 F138 := by
  refine FOk_of ok138 fun x h0 res hx C hC => ?_
  unfold G138 at hx
  split at hx
  · rename_i l u
    simp only [Tr.val_ok, Option.some.injEq] at hx
    subst hx
    refine Reach.len 0 shSet l rfl fun hl => ?_
    refine reach_ok (n0 := 1) env37_all env37_mix ok138 hC (go138_112 l) ?_
    exact reach_ixf l (fun x => !setOk x) (s138_112 l) env37_all env37_mix ok138 hC (on138_112 l) hl _ 0 rfl (Nat.zero_le _)
  · simp at hx

abbrev kp127 : Nat → Keep := fun _ => { }
theorem ok127 : fnChk (env37).P 216 Tryz.f216 1 := by refine ⟨?_, ?_, ?_, ?_⟩ <;> kernel_rfl
theorem go127 (x0 : Sem Sh.expr) : run (env37) 0 kp127 (Func.results Tryz.f216).toList 400 (bodyOf Tryz.f216) (initSt (Func.ntmps Tryz.f216) [datum Sh.expr x0] []) = Tr.br (!eMay (etaE x0)) (Tr.ok (Leaf.ret (AV.tup [AV.str [], ai 1]) [])) (Tr.chk (eTextCN 16 (etaE x0)) (Tr.ok (Leaf.ret (AV.tup [AV.str (eTextN 16 (etaE x0)), ai 0]) []))) := by kernel_rfl
def exText (x0 : Sem Sh.expr) : Sem Sh.str × Sem shInt := (if (!eMay x0) = true then ([], 1) else (eTextN 16 x0, 0))
def exTextC (x0 : Sem Sh.expr) : Bool := (if (!eMay x0) = true then true else if eTextCN 16 x0 = true then true else false)
def F127 : FSem := plainC [Sh.expr] [Sh.str, shInt] (fun x => exTextC x.1) fun x => ((exText x.1).1, (exText x.1).2, ())
theorem FOk127 : FOk (env37).P (env37).gl 216 F127 := by
  refine FOk_plainC (ok127) fun x hc C hC => ?_
  unfold exTextC at hc
  refine reach_ok env37_all env37_mix (ok127) (fun id _ => hC id) (go127 x.1) ?_
  generalize hy : exText x.1 = y
  unfold exText at hy
  try simp only [ExprT.eta]
  repeat' (first | with_reducible refine obr hy hc (fun _ hy hc => ?_) (fun _ hy hc => ?_) | with_reducible refine obr1 hy (fun _ hy => ?_) (fun _ hy => ?_) | with_reducible refine ochk hc (fun hc => ?_) | with_reducible refine OptOk_chkT ?_)
  all_goals first | (cases hc; done) | (subst hy; first | rfl)

abbrev kp69 : Nat → Keep := fun j => if j = 3 then { slots := [0, 4, 5], prom := [(4, none, shTok)] } else { }
abbrev s69_3 (s0 : TS) (i5 : Int) (lh_0 : LF) : St := { tmps := [AV.str s0, ny, ny, ny, AV.vec 0, ai i5, ny, ny, ny, ny, ny, ny, ny, ny, ny, ny, ny, ny, ny, ny, ny, ny, ny, ny, ny, ny, ny, ny, ny, ny, ny, ny, ny, ny, ny, ny, ny, ny, ny, ny, ny, ny, ny, ny, ny, ny, ny], heap := [AO.vec shFor lh_0] }
theorem ok69 : fnChk (env37).P 120 Tryz.f120 1 := by refine ⟨?_, ?_, ?_, ?_⟩ <;> kernel_rfl
theorem go69 (x0 : TS) : run (env37) 0 kp69 (Func.results Tryz.f120).toList 400 (bodyOf Tryz.f120) (initSt (Func.ntmps Tryz.f120) [datum Sh.str x0] []) = Tr.ok (Leaf.head 3 (headK Tryz.f120 3) (s69_3 x0 0 [])) := by kernel_rfl
theorem on69_3 (s0 : TS) (i5 : Int) (lh_0 : LF) : run (env37) 0 kp69 (Func.results Tryz.f120).toList 400 (headK Tryz.f120 3) (s69_3 s0 i5 lh_0) = Tr.br (decide (i5 < (↑(List.length s0) : Int))) (Tr.chk (inB i5 (List.length s0) && bif (↑(List.getD s0 i5.toNat 0).toNat : Int) == 32 then true else inB i5 (List.length s0)) (Tr.br (bif (↑(List.getD s0 i5.toNat 0).toNat : Int) == 32 then true else (↑(List.getD s0 i5.toNat 0).toNat : Int) == 10) (Tr.ok (Leaf.head 3 (headK Tryz.f120 3) (s69_3 s0 (IntKind.i64.wrap (i5 + 1)) lh_0))) (Tr.chk (decide (0 ≤ i5) && decide (i5 ≤ (↑(List.length s0) : Int)) && decide ((↑(List.length s0) : Int) ≤ (↑(List.length s0) : Int))) (Tr.chk (tokFirstC (List.take ((↑(List.length s0) : Int).toNat - i5.toNat) (List.drop i5.toNat s0))) (Tr.chk (tokMayC (tokFirst (List.take ((↑(List.length s0) : Int).toNat - i5.toNat) (List.drop i5.toNat s0))).1) (Tr.br (bif !tokMay (tokFirst (List.take ((↑(List.length s0) : Int).toNat - i5.toNat) (List.drop i5.toNat s0))).1 then true else (↑lh_0.length : Int) == 400) (Tr.ok (Leaf.ret (AV.tup [AV.nils, ai 2]) [])) (Tr.chk (decide (lh_0.length + [(tokFirst (List.take ((↑(List.length s0) : Int).toNat - i5.toNat) (List.drop i5.toNat s0))).1].length ≤ 1073741824)) (Tr.ok (Leaf.head 3 (headK Tryz.f120 3) (s69_3 s0 (IntKind.i64.wrap (i5 + (tokFirst (List.take ((↑(List.length s0) : Int).toNat - i5.toNat) (List.drop i5.toNat s0))).2))
 (lh_0 ++ [(tokFirst (List.take ((↑(List.length s0) : Int).toNat - i5.toNat) (List.drop i5.toNat s0))).1]))))))))))) (Tr.ok (Leaf.ret (AV.tup [AV.vec 0, ai 0]) [AO.vec shFor lh_0])) := by kernel_rfl
def cut_3 : Nat → (Sem Sh.str) → Int → (List (Sem shFor)) → Sem shTok.sl × Sem shInt
  | 0, _, _, _ => default
  | n + 1, s0, i5, lh_0 => (if decide (i5 < (↑(List.length s0) : Int)) = true then
  if (bif (↑(List.getD s0 i5.toNat 0).toNat : Int) == 32 then true else (↑(List.getD s0 i5.toNat 0).toNat : Int) == 10) = true then
    cut_3 n s0 (IntKind.i64.wrap (i5 + 1)) lh_0
  else
    if
        (bif !tokMay (tokFirst (List.take ((↑(List.length s0) : Int).toNat - i5.toNat) (List.drop i5.toNat s0))).1 then true
          else (↑lh_0.length : Int) == 400) =
          true then
      ([], 2)
    else
      cut_3 n s0 (IntKind.i64.wrap (i5 + (tokFirst (List.take ((↑(List.length s0) : Int).toNat - i5.toNat) (List.drop i5.toNat s0))).2))
        (lh_0 ++ [(tokFirst (List.take ((↑(List.length s0) : Int).toNat - i5.toNat) (List.drop i5.toNat s0))).1])
else (lh_0, 0))
def cutC_3 : Nat → (Sem Sh.str) → Int → (List (Sem shFor)) → Bool
  | 0, _, _, _ => false
  | n + 1, s0, i5, lh_0 => (if decide (i5 < (↑(List.length s0) : Int)) = true then
  if (inB i5 (List.length s0) && bif (↑(List.getD s0 i5.toNat 0).toNat : Int) == 32 then true else inB i5 (List.length s0)) = true then
    if (bif (↑(List.getD s0 i5.toNat 0).toNat : Int) == 32 then true else (↑(List.getD s0 i5.toNat 0).toNat : Int) == 10) = true then
      cutC_3 n s0 (IntKind.i64.wrap (i5 + 1)) lh_0
    else
      if (decide (0 ≤ i5) && decide (i5 ≤ (↑(List.length s0) : Int)) && decide ((↑(List.length s0) : Int) ≤ (↑(List.length s0) : Int))) = true then
        if tokFirstC (List.take ((↑(List.length s0) : Int).toNat - i5.toNat) (List.drop i5.toNat s0)) = true then
          if tokMayC (tokFirst (List.take ((↑(List.length s0) : Int).toNat - i5.toNat) (List.drop i5.toNat s0))).1 = true then
            if
                (bif !tokMay (tokFirst (List.take ((↑(List.length s0) : Int).toNat - i5.toNat) (List.drop i5.toNat s0))).1 then true
                  else (↑lh_0.length : Int) == 400) =
                  true then
              true
            else
              if
                  decide (lh_0.length + [(tokFirst (List.take ((↑(List.length s0) : Int).toNat - i5.toNat) (List.drop i5.toNat s0))).1].length ≤ 1073741824) =
                    true then
                cutC_3 n s0 (IntKind.i64.wrap (i5 + (tokFirst (List.take ((↑(List.length s0) : Int).toNat - i5.toNat) (List.drop i5.toNat s0))).2))
                  (lh_0 ++ [(tokFirst (List.take ((↑(List.length s0) : Int).toNat - i5.toNat) (List.drop i5.toNat s0))).1])
              else false
          else false
        else false
      else false
  else false
else true)
theorem at69_3 {C : Ctx} (hC : ∀ id, C.ρ0 id = none) : ∀ (n : Nat) (s0 : TS) (i5 : Int) (lh_0 : LF), cutC_3 n s0 i5 lh_0 = true →
    Reach (env37) C 120 (headK Tryz.f120 3) (s69_3 s0 i5 lh_0) (fun r h => resOf h [shTok.sl, shInt] r = some ((cut_3 n s0 i5 lh_0).1, (cut_3 n s0 i5 lh_0).2, ()))
  | 0, s0, i5, lh_0, hc => by cases hc
  | n + 1, s0, i5, lh_0, hc => by
    refine reach_ok env37_all env37_mix (ok69) (fun id _ => hC id) (on69_3 _ _ _) ?_
    rw [cutC_3] at hc
    generalize hy : cut_3 (n + 1) s0 i5 lh_0 = y
    rw [cut_3] at hy
    try simp only [ExprT.eta, etaE_eq]
    repeat' (first | with_reducible refine obr hy hc (fun _ hy hc => ?_) (fun _ hy hc => ?_) | with_reducible refine obr1 hy (fun _ hy => ?_) (fun _ hy => ?_) | with_reducible refine ochk hc (fun hc => ?_) | with_reducible refine OptOk_chkT ?_)
    all_goals first | (cases hc; done) | (subst hy; first | (change Reach _ _ _ _ _ _; refine at69_3 hC n _ _ _ ?_ <;> exact hc) | rfl)
def cut (x0 : TS) : Sem shTok.sl × Sem shInt := (cut_3 (List.length x0 + 1) x0 0 [])
def cutC (x0 : TS) : Bool := (cutC_3 (List.length x0 + 1) x0 0 [])
def F69 : FSem := plainC [Sh.str] [shTok.sl, shInt] (fun x => cutC x.1) fun x => ((cut x.1).1, (cut x.1).2, ())
theorem FOk69 : FOk (env37).P (env37).gl 120 F69 := by
  refine FOk_plainC (ok69) fun x hc C hC => ?_
  unfold cutC at hc
  refine reach_ok env37_all env37_mix (ok69) (fun id _ => hC id) (go69 x.1) ?_
  generalize hy : cut x.1 = y
  unfold cut at hy
  try simp only [ExprT.eta, etaE_eq]
  repeat' (first | with_reducible refine obr hy hc (fun _ hy hc => ?_) (fun _ hy hc => ?_) | with_reducible refine obr1 hy (fun _ hy => ?_) (fun _ hy => ?_) | with_reducible refine ochk hc (fun hc => ?_) | with_reducible refine OptOk_chkT ?_)
  all_goals first | (cases hc; done) | (subst hy; first | (change Reach _ _ _ _ _ _; refine at69_3 hC _ _ _ _ ?_ <;> exact hc) | rfl)

noncomputable def env38 : Env := (((((((env37.add 54 F27b).add 266 F152).add 241 F139).add 238 F137).add 240 F138).add 216 F127).add 120 F69)
theorem env38_all : EnvAll env38 := (EnvAll.addS (EnvAll.addS (EnvAll.addS (EnvAll.addS (EnvAll.addS (EnvAll.addS (EnvAll.addS env37_all (SameE.refl env37) FOk27b) ((SameE.refl env37).add _ _) FOk152) (((SameE.refl env37).add _ _).add _ _) FOk139) ((((SameE.refl env37).add _ _).add _ _).add _ _) FOk137) (((((SameE.refl env37).add _ _).add _ _).add _ _).add _ _) FOk138) ((((((SameE.refl env37).add _ _).add _ _).add _ _).add _ _).add _ _) FOk127) (((((((SameE.refl env37).add _ _).add _ _).add _ _).add _ _).add _ _).add _ _) FOk69)
theorem env38_mix : env38.P.follows .mixedOrders = true := (mix_add (mix_add (mix_add (mix_add (mix_add (mix_add (mix_add env37_mix _ _) _ _) _ _) _ _) _ _) _ _) _ _)
open Go Go.Proofs
set_option maxHeartbeats 4000000

noncomputable def F133 : FSem := liftF (List.replicate 2 none) (autoG env38 Tryz.f234 (List.replicate 2 none))
theorem FOk133 : FOk env38.P env38.gl 234 F133 := FOk_auto _ env38_all env38_mix (by refine ⟨?_, ?_, ?_, ?_⟩ <;> kernel_rfl)

noncomputable def F135 : FSem := liftF (List.replicate 2 none) (autoG env38 Tryz.f236 (List.replicate 2 none))
theorem FOk135 : FOk env38.P env38.gl 236 F135 := FOk_auto _ env38_all env38_mix (by refine ⟨?_, ?_, ?_, ?_⟩ <;> kernel_rfl)

noncomputable def F114 : FSem := liftF (List.replicate 2 none) (autoG env38 Tryz.f202 (List.replicate 2 none))
theorem FOk114 : FOk env38.P env38.gl 202 F114 := FOk_auto _ env38_all env38_mix (by refine ⟨?_, ?_, ?_, ?_⟩ <;> kernel_rfl)

noncomputable def F109 : FSem := liftF (List.replicate 2 none) (autoG env38 Tryz.f195 (List.replicate 2 none))
theorem FOk109 : FOk env38.P env38.gl 195 F109 := FOk_auto _ env38_all env38_mix (by refine ⟨?_, ?_, ?_, ?_⟩ <;> kernel_rfl)

noncomputable def F111 : FSem := liftF (List.replicate 2 none) (autoG env38 Tryz.f199 (List.replicate 2 none))
theorem FOk111 : FOk env38.P env38.gl 199 F111 := FOk_auto _ env38_all env38_mix (by refine ⟨?_, ?_, ?_, ?_⟩ <;> kernel_rfl)

abbrev kp94 : Nat → Keep := fun _ => { }
theorem ok94 : fnChk (env38).P 166 Tryz.f166 1 := by refine ⟨?_, ?_, ?_, ?_⟩ <;> kernel_rfl
theorem go94 (x0 : Sem Sh.expr) : run (env38) 0 kp94 (Func.results Tryz.f166).toList 400 (bodyOf Tryz.f166) (initSt (Func.ntmps Tryz.f166) [datum Sh.expr x0] []) = Tr.chk (exTextC (etaE x0)) (Tr.ok (Leaf.ret (AV.str (exText (etaE x0)).1) [])) := by kernel_rfl
def written (x0 : Sem Sh.expr) : Sem Sh.str := ((exText x0).1)
def writtenC (x0 : Sem Sh.expr) : Bool := (if exTextC x0 = true then true else false)
def F94 : FSem := plainC [Sh.expr] [Sh.str] (fun x => writtenC x.1) fun x => (written x.1, ())
theorem FOk94 : FOk (env38).P (env38).gl 166 F94 := by
  refine FOk_plainC (ok94) fun x hc C hC => ?_
  unfold writtenC at hc
  refine reach_ok env38_all env38_mix (ok94) (fun id _ => hC id) (go94 x.1) ?_
  generalize hy : written x.1 = y
  unfold written at hy
  try simp only [ExprT.eta]
  repeat' (first | with_reducible refine obr hy hc (fun _ hy hc => ?_) (fun _ hy hc => ?_) | with_reducible refine obr1 hy (fun _ hy => ?_) (fun _ hy => ?_) | with_reducible refine ochk hc (fun hc => ?_) | with_reducible refine OptOk_chkT ?_)
  all_goals first | (cases hc; done) | (subst hy; first | rfl)

noncomputable def env39 : Env := ((((((env38.add 234 F133).add 236 F135).add 202 F114).add 195 F109).add 199 F111).add 166 F94)
theorem env39_all : EnvAll env39 := (EnvAll.addS (EnvAll.addS (EnvAll.addS (EnvAll.addS (EnvAll.addS (EnvAll.addS env38_all (SameE.refl env38) FOk133) ((SameE.refl env38).add _ _) FOk135) (((SameE.refl env38).add _ _).add _ _) FOk114) ((((SameE.refl env38).add _ _).add _ _).add _ _) FOk109) (((((SameE.refl env38).add _ _).add _ _).add _ _).add _ _) FOk111) ((((((SameE.refl env38).add _ _).add _ _).add _ _).add _ _).add _ _) FOk94)
theorem env39_mix : env39.P.follows .mixedOrders = true := (mix_add (mix_add (mix_add (mix_add (mix_add (mix_add env38_mix _ _) _ _) _ _) _ _) _ _) _ _)
open Go Go.Proofs
set_option maxHeartbeats 4000000

noncomputable def F107 : FSem := liftF (List.replicate 4 none) (autoG env39 Tryz.f193 (List.replicate 4 none))
theorem FOk107 : FOk env39.P env39.gl 193 F107 := FOk_auto _ env39_all env39_mix (by refine ⟨?_, ?_, ?_, ?_⟩ <;> kernel_rfl)

noncomputable def F108 : FSem := liftF (List.replicate 4 none) (autoG env39 Tryz.f194 (List.replicate 4 none))
theorem FOk108 : FOk env39.P env39.gl 194 F108 := FOk_auto _ env39_all env39_mix (by refine ⟨?_, ?_, ?_, ?_⟩ <;> kernel_rfl)

noncomputable def F86 : FSem := liftF (List.replicate 4 none) (autoG env39 Tryz.f158 (List.replicate 4 none))
theorem FOk86 : FOk env39.P env39.gl 158 F86 := FOk_auto _ env39_all env39_mix (by refine ⟨?_, ?_, ?_, ?_⟩ <;> kernel_rfl)

noncomputable def F82 : FSem := liftF (List.replicate 4 none) (autoG env39 Tryz.f153 (List.replicate 4 none))
theorem FOk82 : FOk env39.P env39.gl 153 F82 := FOk_auto _ env39_all env39_mix (by refine ⟨?_, ?_, ?_, ?_⟩ <;> kernel_rfl)

noncomputable def F84 : FSem := liftF (List.replicate 4 none) (autoG env39 Tryz.f156 (List.replicate 4 none))
theorem FOk84 : FOk env39.P env39.gl 156 F84 := FOk_auto _ env39_all env39_mix (by refine ⟨?_, ?_, ?_, ?_⟩ <;> kernel_rfl)

abbrev kp96 : Nat → Keep := fun _ => { }
theorem ok96 : fnChk (env39).P 168 Tryz.f168 1 := by refine ⟨?_, ?_, ?_, ?_⟩ <;> kernel_rfl
theorem go96 (x0 : Sem Sh.expr) : run (env39) 0 kp96 (Func.results Tryz.f168).toList 400 (bodyOf Tryz.f168) (initSt (Func.ntmps Tryz.f168) [datum Sh.expr x0] []) = Tr.br (eNone (etaE x0)) (Tr.ok (Leaf.ret (AV.str []) [])) (Tr.chk (writtenC (etaE x0)) (Tr.chk (decide ([32, 87, 72, 69, 82, 69, 32].length + List.length (written (etaE x0)) ≤ 1099511627776)) (Tr.ok (Leaf.ret (AV.str ([32, 87, 72, 69, 82, 69, 32] ++ written (etaE x0))) [])))) := by kernel_rfl
def wText (x0 : Sem Sh.expr) : Sem Sh.str := (if eNone x0 = true then [] else [32, 87, 72, 69, 82, 69, 32] ++ written x0)
def wTextC (x0 : Sem Sh.expr) : Bool := (if eNone x0 = true then true else if writtenC x0 = true then if decide ([32, 87, 72, 69, 82, 69, 32].length + List.length (written x0) ≤ 1099511627776) = true then true else false else false)
def F96 : FSem := plainC [Sh.expr] [Sh.str] (fun x => wTextC x.1) fun x => (wText x.1, ())
theorem FOk96 : FOk (env39).P (env39).gl 168 F96 := by
  refine FOk_plainC (ok96) fun x hc C hC => ?_
  unfold wTextC at hc
  refine reach_ok env39_all env39_mix (ok96) (fun id _ => hC id) (go96 x.1) ?_
  generalize hy : wText x.1 = y
  unfold wText at hy
  try simp only [ExprT.eta]
  repeat' (first | with_reducible refine obr hy hc (fun _ hy hc => ?_) (fun _ hy hc => ?_) | with_reducible refine obr1 hy (fun _ hy => ?_) (fun _ hy => ?_) | with_reducible refine ochk hc (fun hc => ?_) | with_reducible refine OptOk_chkT ?_)
  all_goals first | (cases hc; done) | (subst hy; first | rfl)

abbrev kp98 : Nat → Keep := fun _ => { }
theorem ok98 : fnChk (env39).P 170 Tryz.f170 2 := by refine ⟨?_, ?_, ?_, ?_⟩ <;> kernel_rfl
theorem go98 (x0 : TS) (x1 : Sem Sh.expr) : run (env39) 0 kp98 (Func.results Tryz.f170).toList 400 (bodyOf Tryz.f170) (initSt (Func.ntmps Tryz.f170) [datum Sh.str x0, datum Sh.expr x1] []) = Tr.br (eNone (etaE x1)) (Tr.ok (Leaf.ret (AV.str []) [])) (Tr.chk (decide (List.length x0 + [67, 72, 69, 67, 75, 32, 40, 32].length ≤ 1099511627776)) (Tr.chk (writtenC (etaE x1)) (Tr.chk (decide (List.length (x0 ++ [67, 72, 69, 67, 75, 32, 40, 32]) + List.length (written (etaE x1)) ≤ 1099511627776)) (Tr.chk (decide (List.length (x0 ++ [67, 72, 69, 67, 75, 32, 40, 32] ++ written (etaE x1)) + [32, 41].length ≤ 1099511627776)) (Tr.ok (Leaf.ret (AV.str (x0 ++ [67, 72, 69, 67, 75, 32, 40, 32] ++ written (etaE x1) ++ [32, 41])) [])))))) := by kernel_rfl
def chText (x0 : TS) (x1 : Sem Sh.expr) : Sem Sh.str := (if eNone x1 = true then [] else x0 ++ [67, 72, 69, 67, 75, 32, 40, 32] ++ written x1 ++ [32, 41])
def chTextC (x0 : TS) (x1 : Sem Sh.expr) : Bool := (if eNone x1 = true then true else if decide (List.length x0 + [67, 72, 69, 67, 75, 32, 40, 32].length ≤ 1099511627776) = true then if writtenC x1 = true then if decide (List.length (x0 ++ [67, 72, 69, 67, 75, 32, 40, 32]) + List.length (written x1) ≤ 1099511627776) = true then if decide (List.length (x0 ++ [67, 72, 69, 67, 75, 32, 40, 32] ++ written x1) + [32, 41].length ≤ 1099511627776) = true then true else false else false else false else false)
def F98 : FSem := plainC [Sh.str, Sh.expr] [Sh.str] (fun x => chTextC x.1 x.2.1) fun x => (chText x.1 x.2.1, ())
theorem FOk98 : FOk (env39).P (env39).gl 170 F98 := by
  refine FOk_plainC (ok98) fun x hc C hC => ?_
  unfold chTextC at hc
  refine reach_ok env39_all env39_mix (ok98) (fun id _ => hC id) (go98 x.1 x.2.1) ?_
  generalize hy : chText x.1 x.2.1 = y
  unfold chText at hy
  try simp only [ExprT.eta]
  repeat' (first | with_reducible refine obr hy hc (fun _ hy hc => ?_) (fun _ hy hc => ?_) | with_reducible refine obr1 hy (fun _ hy => ?_) (fun _ hy => ?_) | with_reducible refine ochk hc (fun hc => ?_) | with_reducible refine OptOk_chkT ?_)
  all_goals first | (cases hc; done) | (subst hy; first | rfl)

abbrev kp93 : Nat → Keep := fun _ => { }
theorem ok93 : fnChk (env39).P 165 Tryz.f165 1 := by refine ⟨?_, ?_, ?_, ?_⟩ <;> kernel_rfl
theorem go93 (x0 : Sem shSet) : run (env39) 0 kp93 (Func.results Tryz.f165).toList 400 (bodyOf Tryz.f165) (initSt (Func.ntmps Tryz.f165) [datum shSet x0] []) = Tr.chk (decide (List.length x0.1 + [32, 61, 32].length ≤ 1099511627776)) (Tr.chk (writtenC (etaE x0.2)) (Tr.chk (decide (List.length (x0.1 ++ [32, 61, 32]) + List.length (written (etaE x0.2)) ≤ 1099511627776)) (Tr.ok (Leaf.ret (AV.str (x0.1 ++ [32, 61, 32] ++ written (etaE x0.2))) [])))) := by kernel_rfl
def setText (x0 : Sem shSet) : Sem Sh.str := (x0.1 ++ [32, 61, 32] ++ written x0.2)
def setTextC (x0 : Sem shSet) : Bool := (if decide (List.length x0.1 + [32, 61, 32].length ≤ 1099511627776) = true then if writtenC x0.2 = true then if decide (List.length (x0.1 ++ [32, 61, 32]) + List.length (written x0.2) ≤ 1099511627776) = true then true else false else false else false)
def F93 : FSem := plainC [shSet] [Sh.str] (fun x => setTextC x.1) fun x => (setText x.1, ())
theorem FOk93 : FOk (env39).P (env39).gl 165 F93 := by
  refine FOk_plainC (ok93) fun x hc C hC => ?_
  unfold setTextC at hc
  refine reach_ok env39_all env39_mix (ok93) (fun id _ => hC id) (go93 x.1) ?_
  generalize hy : setText x.1 = y
  unfold setText at hy
  try simp only [ExprT.eta]
  repeat' (first | with_reducible refine obr hy hc (fun _ hy hc => ?_) (fun _ hy hc => ?_) | with_reducible refine obr1 hy (fun _ hy => ?_) (fun _ hy => ?_) | with_reducible refine ochk hc (fun hc => ?_) | with_reducible refine OptOk_chkT ?_)
  all_goals first | (cases hc; done) | (subst hy; first | rfl)

noncomputable def env40 : Env := ((((((((env39.add 193 F107).add 194 F108).add 158 F86).add 153 F82).add 156 F84).add 168 F96).add 170 F98).add 165 F93)
theorem env40_all : EnvAll env40 := (EnvAll.addS (EnvAll.addS (EnvAll.addS (EnvAll.addS (EnvAll.addS (EnvAll.addS (EnvAll.addS (EnvAll.addS env39_all (SameE.refl env39) FOk107) ((SameE.refl env39).add _ _) FOk108) (((SameE.refl env39).add _ _).add _ _) FOk86) ((((SameE.refl env39).add _ _).add _ _).add _ _) FOk82) (((((SameE.refl env39).add _ _).add _ _).add _ _).add _ _) FOk84) ((((((SameE.refl env39).add _ _).add _ _).add _ _).add _ _).add _ _) FOk96) (((((((SameE.refl env39).add _ _).add _ _).add _ _).add _ _).add _ _).add _ _) FOk98) ((((((((SameE.refl env39).add _ _).add _ _).add _ _).add _ _).add _ _).add _ _).add _ _) FOk93)
theorem env40_mix : env40.P.follows .mixedOrders = true := (mix_add (mix_add (mix_add (mix_add (mix_add (mix_add (mix_add (mix_add env39_mix _ _) _ _) _ _) _ _) _ _) _ _) _ _) _ _)
open Go Go.Proofs
set_option maxHeartbeats 4000000

abbrev kp81 : Nat → Keep := fun _ => { }
theorem ok81 : fnChk (env40).P 152 Tryz.f152 1 := by refine ⟨?_, ?_, ?_, ?_⟩ <;> kernel_rfl
theorem go81 (x0 : Sem shStmt) : run (env40) 0 kp81 (Func.results Tryz.f152).toList 400 (bodyOf Tryz.f152) (initSt (Func.ntmps Tryz.f152) [datum shStmt x0] []) = Tr.ok (Leaf.ret (AV.bool (bif bif decide ((↑(List.length x0.2.2.2.2.1) : Int) < 1) then true else decide ((↑(List.length x0.2.2.2.2.1) : Int) > 8) then false else bif !decide (ixFrom (fun x => !colOk x) x0.2.2.2.2.1 0 ≥ 0) then bif sName x0.2.2.2.2.2.1 then bif bif decide ((↑(List.length x0.2.2.2.2.2.2.1) : Int) < 0) then true else decide ((↑(List.length x0.2.2.2.2.2.2.1) : Int) > 8) then false else bif !decide (ixFrom (fun x => !sName x) x0.2.2.2.2.2.2.1 0 ≥ 0) then bif bif decide ((↑(List.length x0.2.2.2.2.2.2.2.1) : Int) < 0) then true else decide ((↑(List.length x0.2.2.2.2.2.2.2.1) : Int) > 8) then false else bif !decide (ixFrom (fun x => !refOk x) x0.2.2.2.2.2.2.2.1 0 ≥ 0) then eMaybe (etaE x0.2.2.2.2.2.2.2.2.1) else false else false else false else false)) []) := by kernel_rfl
def creates (x0 : Sem shStmt) : Sem Sh.bool := (bif bif decide ((↑(List.length x0.2.2.2.2.1) : Int) < 1) then true else decide ((↑(List.length x0.2.2.2.2.1) : Int) > 8) then false else bif !decide (ixFrom (fun x => !colOk x) x0.2.2.2.2.1 0 ≥ 0) then bif sName x0.2.2.2.2.2.1 then bif bif decide ((↑(List.length x0.2.2.2.2.2.2.1) : Int) < 0) then true else decide ((↑(List.length x0.2.2.2.2.2.2.1) : Int) > 8) then false else bif !decide (ixFrom (fun x => !sName x) x0.2.2.2.2.2.2.1 0 ≥ 0) then bif bif decide ((↑(List.length x0.2.2.2.2.2.2.2.1) : Int) < 0) then true else decide ((↑(List.length x0.2.2.2.2.2.2.2.1) : Int) > 8) then false else bif !decide (ixFrom (fun x => !refOk x) x0.2.2.2.2.2.2.2.1 0 ≥ 0) then eMaybe x0.2.2.2.2.2.2.2.2.1 else false else false else false else false)
def F81 : FSem := plainT [shStmt] [Sh.bool] fun x => (creates x.1, ())
theorem FOk81 : FOk (env40).P (env40).gl 152 F81 := by
  refine FOk_plainT (ok81) fun x C hC => ?_
  refine reach_ok env40_all env40_mix (ok81) (fun id _ => hC id) (go81 x.1) ?_
  generalize hy : creates x.1 = y
  unfold creates at hy
  try simp only [ExprT.eta]
  repeat' (first | with_reducible refine obr1 hy (fun _ hy => ?_) (fun _ hy => ?_) | with_reducible refine OptOk_chkT ?_)
  all_goals first | (cases hc; done) | (subst hy; first | rfl)

abbrev kp95 : Nat → Keep := fun j => if j = 3 then { slots := [1, 5, 8, 9, 10], prom := [(5, none, .str)] } else { }
abbrev s95_3 (l8 : List (Sem (Sh.str.pr Sh.expr))) (i9 : Int) (i10 : Int) (lh_0 : LS) : St := { tmps := [ny, AV.clo (Fn.func 165) [] [], ny, ny, ny, AV.vec 0, ny, ny, AV.sl (Sh.str.pr Sh.expr) l8, ai i9, ai i10, ny, ny, ny, ny, ny, ny, ny, ny, ny, ny, ny, ny], heap := [AO.vec Sh.str lh_0] }
theorem ok95 : fnChk (env40).P 167 Tryz.f167 2 := by refine ⟨?_, ?_, ?_, ?_⟩ <;> kernel_rfl
theorem go95 (x0 : Sem shSet.sl) : run (env40) 0 kp95 (Func.results Tryz.f167).toList 400 (bodyOf Tryz.f167) (initSt (Func.ntmps Tryz.f167) [datum shSet.sl x0, AV.clo (Fn.func 165) [] []] []) = Tr.ok (Leaf.head 3 (headK Tryz.f167 3) (s95_3 x0 (↑(List.length x0) : Int) 0 [])) := by kernel_rfl
theorem on95_3 (l8 : List (Sem (Sh.str.pr Sh.expr))) (i9 : Int) (i10 : Int) (lh_0 : LS) : run (env40) 0 kp95 (Func.results Tryz.f167).toList 400 (headK Tryz.f167 3) (s95_3 l8 i9 i10 lh_0) = Tr.br (decide (i10 < i9)) (Tr.chk (inB i10 l8.length) (Tr.chk (setTextC ((l8.getD i10.toNat (dflt (Sh.str.pr Sh.expr))).1, ExprT.mk (ExprT.op (l8.getD i10.toNat (dflt (Sh.str.pr Sh.expr))).2) (ExprT.v (l8.getD i10.toNat (dflt (Sh.str.pr Sh.expr))).2) (ExprT.s (l8.getD i10.toNat (dflt (Sh.str.pr Sh.expr))).2) (ExprT.l (l8.getD i10.toNat (dflt (Sh.str.pr Sh.expr))).2))) (Tr.chk (decide (lh_0.length + [setText ((l8.getD i10.toNat (dflt (Sh.str.pr Sh.expr))).1, ExprT.mk (ExprT.op (l8.getD i10.toNat (dflt (Sh.str.pr Sh.expr))).2) (ExprT.v (l8.getD i10.toNat (dflt (Sh.str.pr Sh.expr))).2) (ExprT.s (l8.getD i10.toNat (dflt (Sh.str.pr Sh.expr))).2) (ExprT.l (l8.getD i10.toNat (dflt (Sh.str.pr Sh.expr))).2))].length ≤ 1073741824)) (Tr.ok (Leaf.head 3 (headK Tryz.f167 3) (s95_3 l8 i9 (IntKind.i64.wrap (i10 + 1)) (lh_0 ++ [setText ((l8.getD i10.toNat (dflt (Sh.str.pr Sh.expr))).1, ExprT.mk (ExprT.op (l8.getD i10.toNat (dflt (Sh.str.pr Sh.expr))).2) (ExprT.v (l8.getD i10.toNat (dflt (Sh.str.pr Sh.expr))).2) (ExprT.s (l8.getD i10.toNat (dflt (Sh.str.pr Sh.expr))).2) (ExprT.l (l8.getD i10.toNat (dflt (Sh.str.pr Sh.expr))).2))]))))))) (Tr.chk (decide (lh_0.length ≤ 140737488355328) && decide ((Lib.join lh_0 [32, 44, 32]).length ≤ 140737488355328))
 (Tr.ok (Leaf.ret (AV.str (Lib.join lh_0 [32, 44, 32])) []))) := by kernel_rfl
def setTexts_3 : List (Sem (Sh.str.pr Sh.expr)) → Int → List (Sem Sh.str) → Sem Sh.str
  | [], _, lh_0 => (Lib.join lh_0 [32, 44, 32])
  | x :: r, i10, lh_0 => (setTexts_3 r (i10 + 1) (lh_0 ++ [setText x]))
def setTextsC_3 : List (Sem (Sh.str.pr Sh.expr)) → Int → List (Sem Sh.str) → Bool
  | [], _, lh_0 => (if (decide (lh_0.length ≤ 140737488355328) && decide ((Lib.join lh_0 [32, 44, 32]).length ≤ 140737488355328)) = true then true else false)
  | x :: r, i10, lh_0 => (if setTextC x = true then if decide (lh_0.length + [setText x].length ≤ 1073741824) = true then setTextsC_3 r (i10 + 1) (lh_0 ++ [setText x]) else false
else false)
theorem at95_3 {C : Ctx} (hC : ∀ id, C.ρ0 id = none) (l8 : List (Sem (Sh.str.pr Sh.expr))) (hl : l8.length ≤ maxStr) : ∀ (m i : Nat) (lh_0 : LS), l8.length - i = m → i ≤ l8.length → setTextsC_3 (l8.drop i) i lh_0 = true →
    Reach (env40) C 167 (headK Tryz.f167 3) (s95_3 l8 (l8.length : Int) (i : Int) lh_0) (fun r h => resOf h [Sh.str] r = some (setTexts_3 (l8.drop i) i lh_0, ())) := by
  intro m
  induction m with
  | zero =>
    intro i lh_0 hm hi hc
    obtain rfl : i = l8.length := by omega
    rw [List.drop_length] at hc ⊢
    refine reach_ok env40_all env40_mix (ok95) (fun id _ => hC id) (on95_3 _ _ _ _) ?_
    rw [setTextsC_3] at hc
    generalize hy : setTexts_3 [] _ lh_0 = y
    rw [setTexts_3] at hy
    simp only [ExprT.eta, lt_dec', Tr.val_brF]
    repeat' (first | with_reducible refine obr hy hc (fun _ hy hc => ?_) (fun _ hy hc => ?_) | with_reducible refine obr1 hy (fun _ hy => ?_) (fun _ hy => ?_) | with_reducible refine ochk hc (fun hc => ?_) | with_reducible refine OptOk_chkT ?_)
    all_goals first | (cases hc; done) | (subst hy; first | rfl)
  | succ m IH =>
    intro i lh_0 hm hi hc
    have hlt : i < l8.length := by omega
    have IH := IH (i + 1)
    have hcast : ((i : Int) + 1) = ((i + 1 : Nat) : Int) := by omega
    have hwr := wrap_add i (by omega)
    rw [List.drop_eq_getElem_cons hlt] at hc ⊢
    refine reach_ok env40_all env40_mix (ok95) (fun id _ => hC id) (on95_3 _ _ _ _) ?_
    rw [setTextsC_3] at hc
    generalize hy : setTexts_3 (l8[i] :: l8.drop (i + 1)) (i : Int) lh_0 = y
    rw [setTexts_3] at hy
    simp only [ExprT.eta, lt_dec hlt, inB_of hlt, getD_at l8 _ hlt, hwr, Tr.val_brT, Tr.val_chkT]
    clear hwr
    try simp only [inB_of hlt] at hy
    simp only [hcast] at hy
    try simp only [inB_of hlt] at hc
    try simp only [hcast] at hc
    repeat' (first | with_reducible refine obr hy hc (fun _ hy hc => ?_) (fun _ hy hc => ?_) | with_reducible refine obr1 hy (fun _ hy => ?_) (fun _ hy => ?_) | with_reducible refine ochk hc (fun hc => ?_) | with_reducible refine OptOk_chkT ?_)
    all_goals first | (cases hc; done) | (subst hy; first | (change Reach _ _ _ _ _ _; apply IH <;> first | omega | assumption) | rfl)
theorem at95_3s {C : Ctx} (hC : ∀ id, C.ρ0 id = none) (l8 : List (Sem (Sh.str.pr Sh.expr))) (lh_0 : LS) (hc : setTextsC_3 l8 0 lh_0 = true) :
    Reach (env40) C 167 (headK Tryz.f167 3) (s95_3 l8 (l8.length : Int) 0 lh_0) (fun r h => resOf h [Sh.str] r = some (setTexts_3 l8 0 lh_0, ())) :=
  Reach.len 8 (Sh.str.pr Sh.expr) l8 rfl fun hl => at95_3 hC l8 hl _ 0 lh_0 rfl (Nat.zero_le _) hc
def setTexts (x0 : Sem shSet.sl) : Sem Sh.str := (setTexts_3 x0 0 [])
def setTextsC (x0 : Sem shSet.sl) : Bool := (setTextsC_3 x0 0 [])
def F95 : FSem := plainK [shSet.sl] [Sh.str] [(165, (fun x => setTextsC x.1), fun x => (setTexts x.1, ()))]
theorem FOk95 : FOk (env40).P (env40).gl 167 F95 := by
  refine FOk_plainK (ok95) fun j c g hm x hc C hC => ?_
  simp only [List.mem_singleton, Prod.mk.injEq] at hm
  obtain ⟨rfl, rfl, rfl⟩ := hm
  replace hc : setTextsC x.1 = true := hc
  unfold setTextsC at hc
  refine reach_ok env40_all env40_mix (ok95) (fun id _ => hC id) (go95 x.1) ?_
  generalize hy : setTexts x.1 = y
  unfold setTexts at hy
  repeat' (first | with_reducible refine obr hy hc (fun _ hy hc => ?_) (fun _ hy hc => ?_) | with_reducible refine obr1 hy (fun _ hy => ?_) (fun _ hy => ?_) | with_reducible refine ochk hc (fun hc => ?_) | with_reducible refine OptOk_chkT ?_)
  all_goals first | (cases hc; done) | (subst hy; first | (change Reach _ _ _ _ _ _; apply at95_3s hC <;> first | assumption | exact hc) | rfl)

abbrev kp90 : Nat → Keep := fun j => if j = 5 then { slots := [1, 3, 24, 25, 26] } else if j = 10 then { slots := [1, 3, 37, 38, 39] } else { }
abbrev s90_5 (s3 : Str) (l24 : LS) (i25 : Int) (i26 : Int) (ja0 : TS) (ja1 : TS) (ja2 : TS) (ja3 : LS) (ja4 : LC) (ja5 : TS) (ja6 : LS) (ja7 : List (Sem (Sh.str.pr Sh.str))) (ja8 : Str) (ja9 : Int) (ja10 : Int) (ja11 : Str) (ja12 : Str) (ja13 : LX) (ja14 : LV) (ja15 : List (Sem (Sh.str.pr Sh.expr))) (ja16 : Str) (ja17 : Int) (ja18 : Int) (ja19 : Str) (ja20 : Str) (ja21 : LX) (ja22 : TS) : St := { tmps := [ny, AV.ptr 0 0, ny, AV.str s3, ny, ny, ny, ny, ny, ny, ny, ny, ny, ny, ny, ny, ny, ny, ny, ny, ny, ny, ny, ny, AV.sl Sh.str l24, ai i25, ai i26, ny, ny, ny, ny, ny, ny, ny, ny, ny, ny, ny, ny, ny, ny, ny, ny, ny, ny, ny, ny, ny, ny, ny, ny, ny, ny, ny, ny, ny, ny, ny, ny], heap := [AO.box [AV.str ja0, AV.str ja1, AV.str ja2, AV.sl Sh.str ja3, AV.sl shCol ja4, AV.str ja5, AV.sl Sh.str ja6, AV.sl (Sh.str.pr Sh.str) ja7, AV.str ja8, ai ja9, ai ja10, AV.str ja11, AV.str ja12, AV.sl Sh.expr ja13, AV.sl shVal ja14, AV.sl (Sh.str.pr Sh.expr) ja15, AV.str ja16, ai ja17, ai ja18, AV.str ja19, AV.str ja20, AV.sl Sh.expr ja21, AV.str ja22]] }
theorem ok90 : fnChk (env40).P 162 Tryz.f162 1 := by refine ⟨?_, ?_, ?_, ?_⟩ <;> kernel_rfl
theorem go90 (x0 : Sem shStmt) : run (env40) 0 kp90 (Func.results Tryz.f162).toList 400 (bodyOf Tryz.f162) (initSt (Func.ntmps Tryz.f162) [datum shStmt x0] []) = Tr.chk (decide ([67, 82, 69, 65, 84, 69, 32, 84, 65, 66, 76, 69, 32].length + List.length x0.2.1 ≤ 1099511627776)) (Tr.chk (decide (List.length ([67, 82, 69, 65, 84, 69, 32, 84, 65, 66, 76, 69, 32] ++ x0.2.1) + [32, 40, 32].length ≤ 1099511627776)) (Tr.chk (colTextsC x0.2.2.2.2.1) (Tr.chk (decide (List.length ([67, 82, 69, 65, 84, 69, 32, 84, 65, 66, 76, 69, 32] ++ x0.2.1 ++ [32, 40, 32]) + List.length (colTexts x0.2.2.2.2.1) ≤ 1099511627776)) (Tr.chk (decide ([32, 44, 32, 75, 69, 89, 32, 40, 32].length + List.length x0.2.2.2.2.2.1 ≤ 1099511627776)) (Tr.chk (decide (List.length ([32, 44, 32, 75, 69, 89, 32, 40, 32] ++ x0.2.2.2.2.2.1) + [32, 41].length ≤ 1099511627776)) (Tr.chk (decide (List.length ([67, 82, 69, 65, 84, 69, 32, 84, 65, 66, 76, 69, 32] ++ x0.2.1 ++ [32, 40, 32] ++ colTexts x0.2.2.2.2.1) + List.length ([32, 44, 32, 75, 69, 89, 32, 40, 32] ++ x0.2.2.2.2.2.1 ++ [32, 41]) ≤ 1099511627776)) (Tr.ok (Leaf.head 5 (headK Tryz.f162 5) (s90_5 ([67, 82, 69, 65, 84, 69, 32, 84, 65, 66, 76, 69, 32] ++ x0.2.1 ++ [32, 40, 32] ++ colTexts x0.2.2.2.2.1 ++ ([32, 44, 32, 75, 69, 89, 32, 40, 32] ++ x0.2.2.2.2.2.1 ++ [32, 41])) x0.2.2.2.2.2.2.1 (↑(List.length x0.2.2.2.2.2.2.1) : Int) 0 x0.1 x0.2.1 x0.2.2.1 x0.2.2.2.1 x0.2.2.2.2.1 x0.2.2.2.2.2.1 x0.2.2.2.2.2.2.1 x0.2.2.2.2.2.2.2.1
 (ExprT.op x0.2.2.2.2.2.2.2.2.1) (ExprT.v x0.2.2.2.2.2.2.2.2.1).1 (ExprT.v x0.2.2.2.2.2.2.2.2.1).2.1 (ExprT.v x0.2.2.2.2.2.2.2.2.1).2.2 (ExprT.s x0.2.2.2.2.2.2.2.2.1) (ExprT.l x0.2.2.2.2.2.2.2.2.1) x0.2.2.2.2.2.2.2.2.2.1 x0.2.2.2.2.2.2.2.2.2.2.1 (ExprT.op x0.2.2.2.2.2.2.2.2.2.2.2.1) (ExprT.v x0.2.2.2.2.2.2.2.2.2.2.2.1).1 (ExprT.v x0.2.2.2.2.2.2.2.2.2.2.2.1).2.1 (ExprT.v x0.2.2.2.2.2.2.2.2.2.2.2.1).2.2 (ExprT.s x0.2.2.2.2.2.2.2.2.2.2.2.1) (ExprT.l x0.2.2.2.2.2.2.2.2.2.2.2.1) x0.2.2.2.2.2.2.2.2.2.2.2.2))))))))) := by kernel_rfl
abbrev s90_10 (s3 : Str) (l37 : List (Sem (Sh.str.pr Sh.str))) (i38 : Int) (i39 : Int) (ja0 : TS) (ja1 : TS) (ja2 : TS) (ja3 : LS) (ja4 : LC) (ja5 : TS) (ja6 : LS) (ja7 : List (Sem (Sh.str.pr Sh.str))) (ja8 : Str) (ja9 : Int) (ja10 : Int) (ja11 : Str) (ja12 : Str) (ja13 : LX) (ja14 : LV) (ja15 : List (Sem (Sh.str.pr Sh.expr))) (ja16 : Str) (ja17 : Int) (ja18 : Int) (ja19 : Str) (ja20 : Str) (ja21 : LX) (ja22 : TS) : St := { tmps := [ny, AV.ptr 0 0, ny, AV.str s3, ny, ny, ny, ny, ny, ny, ny, ny, ny, ny, ny, ny, ny, ny, ny, ny, ny, ny, ny, ny, ny, ny, ny, ny, ny, ny, ny, ny, ny, ny, ny, ny, ny, AV.sl (Sh.str.pr Sh.str) l37, ai i38, ai i39, ny, ny, ny, ny, ny, ny, ny, ny, ny, ny, ny, ny, ny, ny, ny, ny, ny, ny, ny], heap := [AO.box [AV.str ja0, AV.str ja1, AV.str ja2, AV.sl Sh.str ja3, AV.sl shCol ja4, AV.str ja5, AV.sl Sh.str ja6, AV.sl (Sh.str.pr Sh.str) ja7, AV.str ja8, ai ja9, ai ja10, AV.str ja11, AV.str ja12, AV.sl Sh.expr ja13, AV.sl shVal ja14, AV.sl (Sh.str.pr Sh.expr) ja15, AV.str ja16, ai ja17, ai ja18, AV.str ja19, AV.str ja20, AV.sl Sh.expr ja21, AV.str ja22]] }
theorem on90_5 (s3 : Str) (l24 : LS) (i25 : Int) (i26 : Int) (ja0 : TS) (ja1 : TS) (ja2 : TS) (ja3 : LS) (ja4 : LC) (ja5 : TS) (ja6 : LS) (ja7 : List (Sem (Sh.str.pr Sh.str))) (ja8 : Str) (ja9 : Int) (ja10 : Int) (ja11 : Str) (ja12 : Str) (ja13 : LX) (ja14 : LV) (ja15 : List (Sem (Sh.str.pr Sh.expr))) (ja16 : Str) (ja17 : Int) (ja18 : Int) (ja19 : Str) (ja20 : Str) (ja21 : LX) (ja22 : TS) : run (env40) 0 kp90 (Func.results Tryz.f162).toList 400 (headK Tryz.f162 5) (s90_5 s3 l24 i25 i26 ja0 ja1 ja2 ja3 ja4 ja5 ja6 ja7 ja8 ja9 ja10 ja11 ja12 ja13 ja14 ja15 ja16 ja17 ja18 ja19 ja20 ja21 ja22) = Tr.br (decide (i26 < i25)) (Tr.chk (inB i26 l24.length) (Tr.chk (decide ([32, 44, 32, 85, 78, 73, 81, 85, 69, 32, 40, 32].length + List.length (l24.getD i26.toNat (dflt Sh.str)) ≤ 1099511627776)) (Tr.chk (decide (List.length ([32, 44, 32, 85, 78, 73, 81, 85, 69, 32, 40, 32] ++ l24.getD i26.toNat (dflt Sh.str)) + [32, 41].length ≤ 1099511627776)) (Tr.chk (decide (List.length s3 + List.length ([32, 44, 32, 85, 78, 73, 81, 85, 69, 32, 40, 32] ++ l24.getD i26.toNat (dflt Sh.str) ++ [32, 41]) ≤ 1099511627776)) (Tr.ok (Leaf.head 5 (headK Tryz.f162 5) (s90_5 (s3 ++ ([32, 44, 32, 85, 78, 73, 81, 85, 69, 32, 40, 32] ++ l24.getD i26.toNat (dflt Sh.str) ++ [32, 41])) l24 i25
 (IntKind.i64.wrap (i26 + 1)) ja0 ja1 ja2 ja3 ja4 ja5 ja6 ja7 ja8 ja9 ja10 ja11 ja12 ja13 ja14 ja15 ja16 ja17 ja18 ja19 ja20 ja21 ja22))))))) (Tr.ok (Leaf.head 10 (headK Tryz.f162 10) (s90_10 s3 ja7 (↑ja7.length : Int) 0 ja0 ja1 ja2 ja3 ja4 ja5 ja6 ja7 ja8 ja9 ja10 ja11 ja12 ja13 ja14 ja15 ja16 ja17 ja18 ja19 ja20 ja21 ja22))) := by kernel_rfl
theorem on90_10 (s3 : Str) (l37 : List (Sem (Sh.str.pr Sh.str))) (i38 : Int) (i39 : Int) (ja0 : TS) (ja1 : TS) (ja2 : TS) (ja3 : LS) (ja4 : LC) (ja5 : TS) (ja6 : LS) (ja7 : List (Sem (Sh.str.pr Sh.str))) (ja8 : Str) (ja9 : Int) (ja10 : Int) (ja11 : Str) (ja12 : Str) (ja13 : LX) (ja14 : LV) (ja15 : List (Sem (Sh.str.pr Sh.expr))) (ja16 : Str) (ja17 : Int) (ja18 : Int) (ja19 : Str) (ja20 : Str) (ja21 : LX) (ja22 : TS) : run (env40) 0 kp90 (Func.results Tryz.f162).toList 400 (headK Tryz.f162 10) (s90_10 s3 l37 i38 i39 ja0 ja1 ja2 ja3 ja4 ja5 ja6 ja7 ja8 ja9 ja10 ja11 ja12 ja13 ja14 ja15 ja16 ja17 ja18 ja19 ja20 ja21 ja22) = Tr.br (decide (i39 < i38)) (Tr.chk (inB i39 l37.length) (Tr.chk (decide ([32, 44, 32, 82, 69, 70, 69, 82, 69, 78, 67, 69, 83, 32, 40, 32].length + List.length (l37.getD i39.toNat (dflt (Sh.str.pr Sh.str))).1 ≤ 1099511627776)) (Tr.chk (decide (List.length ([32, 44, 32, 82, 69, 70, 69, 82, 69, 78, 67, 69, 83, 32, 40, 32] ++ (l37.getD i39.toNat (dflt (Sh.str.pr Sh.str))).1) + [32, 41, 32].length ≤ 1099511627776)) (Tr.chk (decide (List.length ([32, 44, 32, 82, 69, 70, 69, 82, 69, 78, 67, 69, 83, 32, 40, 32] ++ (l37.getD i39.toNat (dflt (Sh.str.pr Sh.str))).1 ++ [32, 41, 32]) + List.length (l37.getD i39.toNat (dflt (Sh.str.pr Sh.str))).2 ≤ 1099511627776)) (Tr.chk (decide (List.length s3 + List.length
 ([32, 44, 32, 82, 69, 70, 69, 82, 69, 78, 67, 69, 83, 32, 40, 32] ++ (l37.getD i39.toNat (dflt (Sh.str.pr Sh.str))).1 ++ [32, 41, 32] ++ (l37.getD i39.toNat (dflt (Sh.str.pr Sh.str))).2) ≤ 1099511627776)) (Tr.ok (Leaf.head 10 (headK Tryz.f162 10) (s90_10 (s3 ++ ([32, 44, 32, 82, 69, 70, 69, 82, 69, 78, 67, 69, 83, 32, 40, 32] ++ (l37.getD i39.toNat (dflt (Sh.str.pr Sh.str))).1 ++ [32, 41, 32] ++ (l37.getD i39.toNat (dflt (Sh.str.pr Sh.str))).2)) l37 i38 (IntKind.i64.wrap (i39 + 1)) ja0 ja1 ja2 ja3 ja4 ja5 ja6 ja7 ja8 ja9 ja10 ja11 ja12 ja13 ja14 ja15 ja16 ja17 ja18 ja19 ja20 ja21 ja22)))))))) (Tr.chk (chTextC [32, 44, 32] (ExprT.mk ja8 (ja9, ja10, ja11) ja12 ja13)) (Tr.chk (decide (List.length s3 + List.length (chText [32, 44, 32] (ExprT.mk ja8 (ja9, ja10, ja11) ja12 ja13)) ≤ 1099511627776)) (Tr.chk (decide (List.length (s3 ++ chText [32, 44, 32] (ExprT.mk ja8 (ja9, ja10, ja11) ja12 ja13)) + [32, 41].length ≤ 1099511627776)) (Tr.ok (Leaf.ret (AV.str (s3 ++ chText [32, 44, 32] (ExprT.mk ja8 (ja9, ja10, ja11) ja12 ja13) ++ [32, 41])) []))))) := by kernel_rfl
def created_10 (ja0 : TS) (ja1 : TS) (ja2 : TS) (ja3 : LS) (ja4 : LC) (ja5 : TS) (ja6 : LS) (ja7 : List (Sem (Sh.str.pr Sh.str))) (ja8 : Str) (ja9 : Int) (ja10 : Int) (ja11 : Str) (ja12 : Str) (ja13 : LX) (ja14 : LV) (ja15 : List (Sem (Sh.str.pr Sh.expr))) (ja16 : Str) (ja17 : Int) (ja18 : Int) (ja19 : Str) (ja20 : Str) (ja21 : LX) (ja22 : TS) : List (Sem (Sh.str.pr Sh.str)) → Int → Str → Sem Sh.str
  | [], _, s3 => (s3 ++ chText [32, 44, 32] (ExprT.mk ja8 (ja9, ja10, ja11) ja12 ja13) ++ [32, 41])
  | x :: r, i39, s3 => (created_10 ja0 ja1 ja2 ja3 ja4 ja5 ja6 ja7 ja8 ja9 ja10 ja11 ja12 ja13 ja14 ja15 ja16 ja17 ja18 ja19
  ja20 ja21 ja22 r (i39 + 1) (s3 ++ ([32, 44, 32, 82, 69, 70, 69, 82, 69, 78, 67, 69, 83, 32, 40, 32] ++ x.1 ++ [32, 41, 32] ++ x.2)))
def createdC_10 (ja0 : TS) (ja1 : TS) (ja2 : TS) (ja3 : LS) (ja4 : LC) (ja5 : TS) (ja6 : LS) (ja7 : List (Sem (Sh.str.pr Sh.str))) (ja8 : Str) (ja9 : Int) (ja10 : Int) (ja11 : Str) (ja12 : Str) (ja13 : LX) (ja14 : LV) (ja15 : List (Sem (Sh.str.pr Sh.expr))) (ja16 : Str) (ja17 : Int) (ja18 : Int) (ja19 : Str) (ja20 : Str) (ja21 : LX) (ja22 : TS) : List (Sem (Sh.str.pr Sh.str)) → Int → Str → Bool
  | [], _, s3 => (if chTextC [32, 44, 32] (ExprT.mk ja8 (ja9, ja10, ja11) ja12 ja13) = true then
  if decide (List.length s3 + List.length (chText [32, 44, 32] (ExprT.mk ja8 (ja9, ja10, ja11) ja12 ja13)) ≤ 1099511627776) = true then
    if
        decide (List.length (s3 ++ chText [32, 44, 32] (ExprT.mk ja8 (ja9, ja10, ja11) ja12 ja13)) + [32, 41].length ≤ 1099511627776) =
          true then
      true
    else false
  else false
else false)
  | x :: r, i39, s3 => (if decide ([32, 44, 32, 82, 69, 70, 69, 82, 69, 78, 67, 69, 83, 32, 40, 32].length + List.length x.1 ≤ 1099511627776) = true then
  if decide (List.length ([32, 44, 32, 82, 69, 70, 69, 82, 69, 78, 67, 69, 83, 32, 40, 32] ++ x.1) + [32, 41, 32].length ≤ 1099511627776) = true then
    if
        decide (List.length ([32, 44, 32, 82, 69, 70, 69, 82, 69, 78, 67, 69, 83, 32, 40, 32] ++ x.1 ++ [32, 41, 32]) + List.length x.2 ≤ 1099511627776) =
          true then
      if
          decide
              (List.length s3 + List.length ([32, 44, 32, 82, 69, 70, 69, 82, 69, 78, 67, 69, 83, 32, 40, 32] ++ x.1 ++ [32, 41, 32] ++ x.2) ≤
                1099511627776) =
            true then
        createdC_10 ja0 ja1 ja2 ja3 ja4 ja5 ja6 ja7 ja8 ja9 ja10 ja11 ja12 ja13 ja14 ja15 ja16 ja17
          ja18 ja19 ja20 ja21 ja22 r (i39 + 1)
          (s3 ++ ([32, 44, 32, 82, 69, 70, 69, 82, 69, 78, 67, 69, 83, 32, 40, 32] ++ x.1 ++ [32, 41, 32] ++ x.2))
      else false
    else false
  else false
else false)
theorem at90_10 {C : Ctx} (hC : ∀ id, C.ρ0 id = none) (ja0 : TS) (ja1 : TS) (ja2 : TS) (ja3 : LS) (ja4 : LC) (ja5 : TS) (ja6 : LS) (ja7 : List (Sem (Sh.str.pr Sh.str))) (ja8 : Str) (ja9 : Int) (ja10 : Int) (ja11 : Str) (ja12 : Str) (ja13 : LX) (ja14 : LV) (ja15 : List (Sem (Sh.str.pr Sh.expr))) (ja16 : Str) (ja17 : Int) (ja18 : Int) (ja19 : Str) (ja20 : Str) (ja21 : LX) (ja22 : TS) (l37 : List (Sem (Sh.str.pr Sh.str))) (hl : l37.length ≤ maxStr) : ∀ (m i : Nat) (s3 : Str), l37.length - i = m → i ≤ l37.length → createdC_10 ja0 ja1 ja2 ja3 ja4 ja5 ja6 ja7 ja8 ja9 ja10 ja11 ja12 ja13 ja14 ja15 ja16 ja17 ja18 ja19 ja20 ja21 ja22 (l37.drop i) i s3 = true →
    Reach (env40) C 162 (headK Tryz.f162 10) (s90_10 s3 l37 (l37.length : Int) (i : Int) ja0 ja1 ja2 ja3 ja4 ja5 ja6 ja7 ja8 ja9 ja10 ja11 ja12 ja13 ja14 ja15 ja16 ja17 ja18 ja19 ja20 ja21 ja22) (fun r h => resOf h [Sh.str] r = some (created_10 ja0 ja1 ja2 ja3 ja4 ja5 ja6 ja7 ja8 ja9 ja10 ja11 ja12 ja13 ja14 ja15 ja16 ja17 ja18 ja19 ja20 ja21 ja22 (l37.drop i) i s3, ())) := by
  intro m
  induction m with
  | zero =>
    intro i s3 hm hi hc
    obtain rfl : i = l37.length := by omega
    rw [List.drop_length] at hc ⊢
    refine reach_ok env40_all env40_mix (ok90) (fun id _ => hC id) (on90_10 _ _ _ _ _ _ _ _ _ _ _ _ _ _ _ _ _ _ _ _ _ _ _ _ _ _ _) ?_
    rw [createdC_10] at hc
    generalize hy : created_10 ja0 ja1 ja2 ja3 ja4 ja5 ja6 ja7 ja8 ja9 ja10 ja11 ja12 ja13 ja14 ja15 ja16 ja17 ja18 ja19 ja20 ja21 ja22 [] _ s3 = y
    rw [created_10] at hy
    simp only [lt_dec', Tr.val_brF]
    repeat' (first | with_reducible refine obr hy hc (fun _ hy hc => ?_) (fun _ hy hc => ?_) | with_reducible refine obr1 hy (fun _ hy => ?_) (fun _ hy => ?_) | with_reducible refine ochk hc (fun hc => ?_) | with_reducible refine OptOk_chkT ?_)
    all_goals first | (cases hc; done) | (subst hy; first | (change Reach _ _ _ _ _ _; apply at90_5s hC <;> first | assumption | exact hc) | rfl)
  | succ m IH =>
    intro i s3 hm hi hc
    have hlt : i < l37.length := by omega
    have IH := IH (i + 1)
    have hcast : ((i : Int) + 1) = ((i + 1 : Nat) : Int) := by omega
    have hwr := wrap_add i (by omega)
    rw [List.drop_eq_getElem_cons hlt] at hc ⊢
    refine reach_ok env40_all env40_mix (ok90) (fun id _ => hC id) (on90_10 _ _ _ _ _ _ _ _ _ _ _ _ _ _ _ _ _ _ _ _ _ _ _ _ _ _ _) ?_
    rw [createdC_10] at hc
    generalize hy : created_10 ja0 ja1 ja2 ja3 ja4 ja5 ja6 ja7 ja8 ja9 ja10 ja11 ja12 ja13 ja14 ja15 ja16 ja17 ja18 ja19 ja20 ja21 ja22 (l37[i] :: l37.drop (i + 1)) (i : Int) s3 = y
    rw [created_10] at hy
    simp only [lt_dec hlt, inB_of hlt, getD_at l37 _ hlt, hwr, Tr.val_brT, Tr.val_chkT]
    clear hwr
    try simp only [inB_of hlt] at hy
    simp only [hcast] at hy
    try simp only [inB_of hlt] at hc
    try simp only [hcast] at hc
    repeat' (first | with_reducible refine obr hy hc (fun _ hy hc => ?_) (fun _ hy hc => ?_) | with_reducible refine obr1 hy (fun _ hy => ?_) (fun _ hy => ?_) | with_reducible refine ochk hc (fun hc => ?_) | with_reducible refine OptOk_chkT ?_)
    all_goals first | (cases hc; done) | (subst hy; first | (change Reach _ _ _ _ _ _; apply IH <;> first | omega | assumption) | (change Reach _ _ _ _ _ _; apply at90_5s hC <;> first | assumption | exact hc) | rfl)
theorem at90_10s {C : Ctx} (hC : ∀ id, C.ρ0 id = none) (ja0 : TS) (ja1 : TS) (ja2 : TS) (ja3 : LS) (ja4 : LC) (ja5 : TS) (ja6 : LS) (ja7 : List (Sem (Sh.str.pr Sh.str))) (ja8 : Str) (ja9 : Int) (ja10 : Int) (ja11 : Str) (ja12 : Str) (ja13 : LX) (ja14 : LV) (ja15 : List (Sem (Sh.str.pr Sh.expr))) (ja16 : Str) (ja17 : Int) (ja18 : Int) (ja19 : Str) (ja20 : Str) (ja21 : LX) (ja22 : TS) (l37 : List (Sem (Sh.str.pr Sh.str))) (s3 : Str) (hc : createdC_10 ja0 ja1 ja2 ja3 ja4 ja5 ja6 ja7 ja8 ja9 ja10 ja11 ja12 ja13 ja14 ja15 ja16 ja17 ja18 ja19 ja20 ja21 ja22 l37 0 s3 = true) :
    Reach (env40) C 162 (headK Tryz.f162 10) (s90_10 s3 l37 (l37.length : Int) 0 ja0 ja1 ja2 ja3 ja4 ja5 ja6 ja7 ja8 ja9 ja10 ja11 ja12 ja13 ja14 ja15 ja16 ja17 ja18 ja19 ja20 ja21 ja22) (fun r h => resOf h [Sh.str] r = some (created_10 ja0 ja1 ja2 ja3 ja4 ja5 ja6 ja7 ja8 ja9 ja10 ja11 ja12 ja13 ja14 ja15 ja16 ja17 ja18 ja19 ja20 ja21 ja22 l37 0 s3, ())) :=
  Reach.len 37 (Sh.str.pr Sh.str) l37 rfl fun hl => at90_10 hC ja0 ja1 ja2 ja3 ja4 ja5 ja6 ja7 ja8 ja9 ja10 ja11 ja12 ja13 ja14 ja15 ja16 ja17 ja18 ja19 ja20 ja21 ja22 l37 hl _ 0 s3 rfl (Nat.zero_le _) hc
def created_5 (ja0 : TS) (ja1 : TS) (ja2 : TS) (ja3 : LS) (ja4 : LC) (ja5 : TS) (ja6 : LS) (ja7 : List (Sem (Sh.str.pr Sh.str))) (ja8 : Str) (ja9 : Int) (ja10 : Int) (ja11 : Str) (ja12 : Str) (ja13 : LX) (ja14 : LV) (ja15 : List (Sem (Sh.str.pr Sh.expr))) (ja16 : Str) (ja17 : Int) (ja18 : Int) (ja19 : Str) (ja20 : Str) (ja21 : LX) (ja22 : TS) : List (Sem Sh.str) → Int → Str → Sem Sh.str
  | [], _, s3 => (created_10 ja0 ja1 ja2 ja3 ja4 ja5 ja6 ja7 ja8 ja9 ja10 ja11 ja12 ja13 ja14 ja15 ja16 ja17 ja18 ja19
  ja20 ja21 ja22 ja7 0 s3)
  | x :: r, i26, s3 => (created_5 ja0 ja1 ja2 ja3 ja4 ja5 ja6 ja7 ja8 ja9 ja10 ja11 ja12 ja13 ja14 ja15 ja16 ja17 ja18 ja19
  ja20 ja21 ja22 r (i26 + 1) (s3 ++ ([32, 44, 32, 85, 78, 73, 81, 85, 69, 32, 40, 32] ++ x ++ [32, 41])))
def createdC_5 (ja0 : TS) (ja1 : TS) (ja2 : TS) (ja3 : LS) (ja4 : LC) (ja5 : TS) (ja6 : LS) (ja7 : List (Sem (Sh.str.pr Sh.str))) (ja8 : Str) (ja9 : Int) (ja10 : Int) (ja11 : Str) (ja12 : Str) (ja13 : LX) (ja14 : LV) (ja15 : List (Sem (Sh.str.pr Sh.expr))) (ja16 : Str) (ja17 : Int) (ja18 : Int) (ja19 : Str) (ja20 : Str) (ja21 : LX) (ja22 : TS) : List (Sem Sh.str) → Int → Str → Bool
  | [], _, s3 => (createdC_10 ja0 ja1 ja2 ja3 ja4 ja5 ja6 ja7 ja8 ja9 ja10 ja11 ja12 ja13 ja14 ja15 ja16 ja17 ja18
  ja19 ja20 ja21 ja22 ja7 0 s3)
  | x :: r, i26, s3 => (if decide ([32, 44, 32, 85, 78, 73, 81, 85, 69, 32, 40, 32].length + List.length x ≤ 1099511627776) = true then
  if decide (List.length ([32, 44, 32, 85, 78, 73, 81, 85, 69, 32, 40, 32] ++ x) + [32, 41].length ≤ 1099511627776) = true then
    if decide (List.length s3 + List.length ([32, 44, 32, 85, 78, 73, 81, 85, 69, 32, 40, 32] ++ x ++ [32, 41]) ≤ 1099511627776) = true then
      createdC_5 ja0 ja1 ja2 ja3 ja4 ja5 ja6 ja7 ja8 ja9 ja10 ja11 ja12 ja13 ja14 ja15 ja16 ja17 ja18
        ja19 ja20 ja21 ja22 r (i26 + 1) (s3 ++ ([32, 44, 32, 85, 78, 73, 81, 85, 69, 32, 40, 32] ++ x ++ [32, 41]))
    else false
  else false
else false)
theorem at90_5 {C : Ctx} (hC : ∀ id, C.ρ0 id = none) (ja0 : TS) (ja1 : TS) (ja2 : TS) (ja3 : LS) (ja4 : LC) (ja5 : TS) (ja6 : LS) (ja7 : List (Sem (Sh.str.pr Sh.str))) (ja8 : Str) (ja9 : Int) (ja10 : Int) (ja11 : Str) (ja12 : Str) (ja13 : LX) (ja14 : LV) (ja15 : List (Sem (Sh.str.pr Sh.expr))) (ja16 : Str) (ja17 : Int) (ja18 : Int) (ja19 : Str) (ja20 : Str) (ja21 : LX) (ja22 : TS) (l24 : LS) (hl : l24.length ≤ maxStr) : ∀ (m i : Nat) (s3 : Str), l24.length - i = m → i ≤ l24.length → createdC_5 ja0 ja1 ja2 ja3 ja4 ja5 ja6 ja7 ja8 ja9 ja10 ja11 ja12 ja13 ja14 ja15 ja16 ja17 ja18 ja19 ja20 ja21 ja22 (l24.drop i) i s3 = true →
    Reach (env40) C 162 (headK Tryz.f162 5) (s90_5 s3 l24 (l24.length : Int) (i : Int) ja0 ja1 ja2 ja3 ja4 ja5 ja6 ja7 ja8 ja9 ja10 ja11 ja12 ja13 ja14 ja15 ja16 ja17 ja18 ja19 ja20 ja21 ja22) (fun r h => resOf h [Sh.str] r = some (created_5 ja0 ja1 ja2 ja3 ja4 ja5 ja6 ja7 ja8 ja9 ja10 ja11 ja12 ja13 ja14 ja15 ja16 ja17 ja18 ja19 ja20 ja21 ja22 (l24.drop i) i s3, ())) := by
  intro m
  induction m with
  | zero =>
    intro i s3 hm hi hc
    obtain rfl : i = l24.length := by omega
    rw [List.drop_length] at hc ⊢
    refine reach_ok env40_all env40_mix (ok90) (fun id _ => hC id) (on90_5 _ _ _ _ _ _ _ _ _ _ _ _ _ _ _ _ _ _ _ _ _ _ _ _ _ _ _) ?_
    rw [createdC_5] at hc
    generalize hy : created_5 ja0 ja1 ja2 ja3 ja4 ja5 ja6 ja7 ja8 ja9 ja10 ja11 ja12 ja13 ja14 ja15 ja16 ja17 ja18 ja19 ja20 ja21 ja22 [] _ s3 = y
    rw [created_5] at hy
    simp only [lt_dec', Tr.val_brF]
    repeat' (first | with_reducible refine obr hy hc (fun _ hy hc => ?_) (fun _ hy hc => ?_) | with_reducible refine obr1 hy (fun _ hy => ?_) (fun _ hy => ?_) | with_reducible refine ochk hc (fun hc => ?_) | with_reducible refine OptOk_chkT ?_)
    all_goals first | (cases hc; done) | (subst hy; first | (change Reach _ _ _ _ _ _; apply at90_10s hC <;> first | assumption | exact hc) | rfl)
  | succ m IH =>
    intro i s3 hm hi hc
    have hlt : i < l24.length := by omega
    have IH := IH (i + 1)
    have hcast : ((i : Int) + 1) = ((i + 1 : Nat) : Int) := by omega
    have hwr := wrap_add i (by omega)
    rw [List.drop_eq_getElem_cons hlt] at hc ⊢
    refine reach_ok env40_all env40_mix (ok90) (fun id _ => hC id) (on90_5 _ _ _ _ _ _ _ _ _ _ _ _ _ _ _ _ _ _ _ _ _ _ _ _ _ _ _) ?_
    rw [createdC_5] at hc
    generalize hy : created_5 ja0 ja1 ja2 ja3 ja4 ja5 ja6 ja7 ja8 ja9 ja10 ja11 ja12 ja13 ja14 ja15 ja16 ja17 ja18 ja19 ja20 ja21 ja22 (l24[i] :: l24.drop (i + 1)) (i : Int) s3 = y
    rw [created_5] at hy
    simp only [lt_dec hlt, inB_of hlt, getD_at l24 _ hlt, hwr, Tr.val_brT, Tr.val_chkT]
    clear hwr
    try simp only [inB_of hlt] at hy
    simp only [hcast] at hy
    try simp only [inB_of hlt] at hc
    try simp only [hcast] at hc
    repeat' (first | with_reducible refine obr hy hc (fun _ hy hc => ?_) (fun _ hy hc => ?_) | with_reducible refine obr1 hy (fun _ hy => ?_) (fun _ hy => ?_) | with_reducible refine ochk hc (fun hc => ?_) | with_reducible refine OptOk_chkT ?_)
    all_goals first | (cases hc; done) | (subst hy; first | (change Reach _ _ _ _ _ _; apply IH <;> first | omega | assumption) | (change Reach _ _ _ _ _ _; apply at90_10s hC <;> first | assumption | exact hc) | rfl)
theorem at90_5s {C : Ctx} (hC : ∀ id, C.ρ0 id = none) (ja0 : TS) (ja1 : TS) (ja2 : TS) (ja3 : LS) (ja4 : LC) (ja5 : TS) (ja6 : LS) (ja7 : List (Sem (Sh.str.pr Sh.str))) (ja8 : Str) (ja9 : Int) (ja10 : Int) (ja11 : Str) (ja12 : Str) (ja13 : LX) (ja14 : LV) (ja15 : List (Sem (Sh.str.pr Sh.expr))) (ja16 : Str) (ja17 : Int) (ja18 : Int) (ja19 : Str) (ja20 : Str) (ja21 : LX) (ja22 : TS) (l24 : LS) (s3 : Str) (hc : createdC_5 ja0 ja1 ja2 ja3 ja4 ja5 ja6 ja7 ja8 ja9 ja10 ja11 ja12 ja13 ja14 ja15 ja16 ja17 ja18 ja19 ja20 ja21 ja22 l24 0 s3 = true) :
    Reach (env40) C 162 (headK Tryz.f162 5) (s90_5 s3 l24 (l24.length : Int) 0 ja0 ja1 ja2 ja3 ja4 ja5 ja6 ja7 ja8 ja9 ja10 ja11 ja12 ja13 ja14 ja15 ja16 ja17 ja18 ja19 ja20 ja21 ja22) (fun r h => resOf h [Sh.str] r = some (created_5 ja0 ja1 ja2 ja3 ja4 ja5 ja6 ja7 ja8 ja9 ja10 ja11 ja12 ja13 ja14 ja15 ja16 ja17 ja18 ja19 ja20 ja21 ja22 l24 0 s3, ())) :=
  Reach.len 24 (Sh.str) l24 rfl fun hl => at90_5 hC ja0 ja1 ja2 ja3 ja4 ja5 ja6 ja7 ja8 ja9 ja10 ja11 ja12 ja13 ja14 ja15 ja16 ja17 ja18 ja19 ja20 ja21 ja22 l24 hl _ 0 s3 rfl (Nat.zero_le _) hc
def created (x0 : Sem shStmt) : Sem Sh.str := (created_5 x0.1 x0.2.1 x0.2.2.1 x0.2.2.2.1 x0.2.2.2.2.1 x0.2.2.2.2.2.1 x0.2.2.2.2.2.2.1 x0.2.2.2.2.2.2.2.1 (ExprT.op x0.2.2.2.2.2.2.2.2.1) (ExprT.v x0.2.2.2.2.2.2.2.2.1).1 (ExprT.v x0.2.2.2.2.2.2.2.2.1).2.1 (ExprT.v x0.2.2.2.2.2.2.2.2.1).2.2 (ExprT.s x0.2.2.2.2.2.2.2.2.1) (ExprT.l x0.2.2.2.2.2.2.2.2.1) x0.2.2.2.2.2.2.2.2.2.1 x0.2.2.2.2.2.2.2.2.2.2.1 (ExprT.op x0.2.2.2.2.2.2.2.2.2.2.2.1) (ExprT.v x0.2.2.2.2.2.2.2.2.2.2.2.1).1 (ExprT.v x0.2.2.2.2.2.2.2.2.2.2.2.1).2.1 (ExprT.v x0.2.2.2.2.2.2.2.2.2.2.2.1).2.2 (ExprT.s x0.2.2.2.2.2.2.2.2.2.2.2.1) (ExprT.l x0.2.2.2.2.2.2.2.2.2.2.2.1) x0.2.2.2.2.2.2.2.2.2.2.2.2 x0.2.2.2.2.2.2.1 0 ([67, 82, 69, 65, 84, 69, 32, 84, 65, 66, 76, 69, 32] ++ x0.2.1 ++ [32, 40, 32] ++ colTexts x0.2.2.2.2.1 ++ ([32, 44, 32, 75, 69, 89, 32, 40, 32] ++ x0.2.2.2.2.2.1 ++ [32, 41])))
def createdC (x0 : Sem shStmt) : Bool := (if decide ([67, 82, 69, 65, 84, 69, 32, 84, 65, 66, 76, 69, 32].length + List.length x0.2.1 ≤ 1099511627776) = true then if decide (List.length ([67, 82, 69, 65, 84, 69, 32, 84, 65, 66, 76, 69, 32] ++ x0.2.1) + [32, 40, 32].length ≤ 1099511627776) = true then if colTextsC x0.2.2.2.2.1 = true then if decide (List.length ([67, 82, 69, 65, 84, 69, 32, 84, 65, 66, 76, 69, 32] ++ x0.2.1 ++ [32, 40, 32]) + List.length (colTexts x0.2.2.2.2.1) ≤ 1099511627776) = true then if decide ([32, 44, 32, 75, 69, 89, 32, 40, 32].length + List.length x0.2.2.2.2.2.1 ≤ 1099511627776) = true then if decide (List.length ([32, 44, 32, 75, 69, 89, 32, 40, 32] ++ x0.2.2.2.2.2.1) + [32, 41].length ≤ 1099511627776) = true then if decide (List.length ([67, 82, 69, 65, 84, 69, 32, 84, 65, 66, 76, 69, 32] ++ x0.2.1 ++ [32, 40, 32] ++ colTexts x0.2.2.2.2.1) + List.length ([32, 44, 32, 75, 69, 89, 32, 40, 32] ++ x0.2.2.2.2.2.1 ++ [32, 41]) ≤ 1099511627776) = true then createdC_5 x0.1 x0.2.1 x0.2.2.1 x0.2.2.2.1 x0.2.2.2.2.1 x0.2.2.2.2.2.1 x0.2.2.2.2.2.2.1 x0.2.2.2.2.2.2.2.1 (ExprT.op x0.2.2.2.2.2.2.2.2.1) (ExprT.v x0.2.2.2.2.2.2.2.2.1).1 (ExprT.v x0.2.2.2.2.2.2.2.2.1).2.1 (ExprT.v x0.2.2.2.2.2.2.2.2.1).2.2 (ExprT.s x0.2.2.2.2.2.2.2.2.1) (ExprT.l x0.2.2.2.2.2.2.2.2.1) x0.2.2.2.2.2.2.2.2.2.1 x0.2.2.2.2.2.2.2.2.2.2.1 (ExprT.op x0.2.2.2.2.2.2.2.2.2.2.2.1) (ExprT.v x0.2.2.2.2.2.2.2.2.2.2.2.1).1 (ExprT.v x0.2.2.2.2.2.2.2.2.2.2.2.1).2.1
 (ExprT.v x0.2.2.2.2.2.2.2.2.2.2.2.1).2.2 (ExprT.s x0.2.2.2.2.2.2.2.2.2.2.2.1) (ExprT.l x0.2.2.2.2.2.2.2.2.2.2.2.1) x0.2.2.2.2.2.2.2.2.2.2.2.2 x0.2.2.2.2.2.2.1 0 ([67, 82, 69, 65, 84, 69, 32, 84, 65, 66, 76, 69, 32] ++ x0.2.1 ++ [32, 40, 32] ++ colTexts x0.2.2.2.2.1 ++ ([32, 44, 32, 75, 69, 89, 32, 40, 32] ++ x0.2.2.2.2.2.1 ++ [32, 41])) else false else false else false else false else false else false else false)
def F90 : FSem := plainC [shStmt] [Sh.str] (fun x => createdC x.1) fun x => (created x.1, ())
theorem FOk90 : FOk (env40).P (env40).gl 162 F90 := by
  refine FOk_plainC (ok90) fun x hc C hC => ?_
  unfold createdC at hc
  refine reach_ok env40_all env40_mix (ok90) (fun id _ => hC id) (go90 x.1) ?_
  generalize hy : created x.1 = y
  unfold created at hy
  try simp only [ExprT.eta, etaE_eq]
  repeat' (first | with_reducible refine obr hy hc (fun _ hy hc => ?_) (fun _ hy hc => ?_) | with_reducible refine obr1 hy (fun _ hy => ?_) (fun _ hy => ?_) | with_reducible refine ochk hc (fun hc => ?_) | with_reducible refine OptOk_chkT ?_)
  all_goals first | (cases hc; done) | (subst hy; first | (change Reach _ _ _ _ _ _; apply at90_5s hC <;> first | assumption | exact hc) | (change Reach _ _ _ _ _ _; apply at90_10s hC <;> first | assumption | exact hc) | rfl)

noncomputable def env41 : Env := (((env40.add 152 F81).add 167 F95).add 162 F90)
theorem env41_all : EnvAll env41 := (EnvAll.addS (EnvAll.addS (EnvAll.addS env40_all (SameE.refl env40) FOk81) ((SameE.refl env40).add _ _) FOk95) (((SameE.refl env40).add _ _).add _ _) FOk90)
theorem env41_mix : env41.P.follows .mixedOrders = true := (mix_add (mix_add (mix_add env40_mix _ _) _ _) _ _)
end Cad
