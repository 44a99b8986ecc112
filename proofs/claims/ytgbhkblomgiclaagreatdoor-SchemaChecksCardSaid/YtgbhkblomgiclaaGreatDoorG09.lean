/- Bounded rows, bounded columns. What is total; lists of types. Names, places. Names, types. Expressions: their types. -/
import Derived.Test.YtgbhkblomgiclaaGreatDoorG08
namespace Cad
open Go Go.Proofs

theorem Reach.lenB {E : Env} {C : Ctx} {fn : FuncId} {todo : List Item} {st : St} {Q : AV → List AO → Prop} (id c : Nat) (e : Sh) (l : List (Sem e)) {cs : List AV} (h1 : st.heap[id]? = some (.box cs)) (h2 : cs[c]? = some (.sl e l)) (h : l.length ≤ maxStr → Reach E C fn todo st Q) : Reach E C fn todo st Q := by
  intro b cs' a w U ρ q1 q2 hc hW
  refine h ?_ b cs' a w U ρ q1 q2 hc hW
  have ho := hc.hp.ob id
  rw [show st.hp id = .box cs by simp [St.hp, List.getD_eq_getElem?_getD, h1]] at ho
  obtain ⟨bk, T, vals, _, _, _, hr, _⟩ := ho
  have hlt : c < vals.toList.length := by rw [← hr.len]; exact (List.getElem?_eq_some_iff.1 h2).1
  have := hr.rv c _ _ h2 (List.getElem?_eq_getElem hlt)
  generalize vals.toList[c] = v at this
  cases this with
  | sl0 => simp
  | sl _ _ _ _ _ _ _ hm => exact hm

theorem Reach.lenA {E : Env} {C : Ctx} {fn : FuncId} {todo : List Item} {st : St} {Q : AV → List AO → Prop} (j c : Nat) (e : Sh) (l : List (Sem e)) {cs : List AV} (h1 : st.tmps[j]? = some (.agg cs)) (h2 : cs[c]? = some (.sl e l)) (h : l.length ≤ maxStr → Reach E C fn todo st Q) : Reach E C fn todo st Q := by
  intro b cs' a w U ρ q1 q2 hc hW
  refine h ?_ b cs' a w U ρ q1 q2 hc hW
  have hlt : j < a.tmps.toList.length := by rw [← hc.tm.len]; exact (List.getElem?_eq_some_iff.1 h1).1
  have := hc.tm.rv j _ _ h1 (List.getElem?_eq_getElem hlt)
  generalize a.tmps.toList[j] = v at this
  cases this with
  | agg _ vs hlv _ hr =>
  have hlt : c < vs.length := by rw [← hlv]; exact (List.getElem?_eq_some_iff.1 h2).1
  have := hr c _ _ h2 (List.getElem?_eq_getElem hlt)
  generalize vs[c] = v at this
  cases this with
  | sl0 => simp
  | sl _ _ _ _ _ _ _ hm => exact hm

abbrev kp6 : Nat → Keep := fun j => if j = 3 then { slots := [0, 3, 4], prom := [(3, none, shVal)] } else { }
abbrev s6_3 (l0 : List (Sem shVal)) (i4 : Int) (lh_0 : List (Sem shVal)) : St := {
  tmps :=
    [AV.sl shVal l0, AV.any, AV.any, AV.vec 0, AV.int IntKind.i64 i4, AV.any, AV.any, AV.any, AV.any,
      AV.any, AV.any, AV.any, AV.any, AV.any, AV.any, AV.any, AV.any, AV.any, AV.any, AV.any, AV.any, AV.any, AV.any, AV.any],
  heap := [AO.vec shVal lh_0] }
theorem ok6 : fnChk env15.P 6 Tryz.f6 1 := by refine ⟨?_, ?_, ?_, ?_⟩ <;> kernel_rfl
theorem go6 (x0 : Sem shVal.sl) : run env15 0 kp6 (Func.results Tryz.f6).toList 400 (bodyOf Tryz.f6) (initSt (Func.ntmps Tryz.f6) [datum shVal.sl x0] []) =
  Tr.ok (Leaf.head 3 (headK Tryz.f6 3) (s6_3 x0 0 [])) := by kernel_rfl
theorem on6_3 (l0 : List (Sem shVal)) (i4 : Int) (lh_0 : List (Sem shVal)) : run env15 0 kp6 (Func.results Tryz.f6).toList 400 (headK Tryz.f6 3) (s6_3 l0 i4 lh_0) =
  Tr.br (bif decide (i4 < (↑l0.length : Int)) then decide (i4 < 14) else false)
  (Tr.chk (inB i4 l0.length)
    (Tr.chk (vFewC (l0.getD i4.toNat (dflt shVal)))
      (Tr.chk (decide (lh_0.length + [vFew (l0.getD i4.toNat (dflt shVal))].length ≤ 1073741824))
        (Tr.ok
          (Leaf.head 3 (headK Tryz.f6 3)
            (s6_3 l0 (IntKind.i64.wrap (i4 + 1)) (lh_0 ++ [vFew (l0.getD i4.toNat (dflt shVal))])))))))
  (Tr.ok (Leaf.ret (AV.vec 0) [AO.vec shVal lh_0])) := by kernel_rfl
def lFew2_3 : List (Sem shVal) → Int → List (Sem shVal) → Sem shVal.sl
  | [], i4, lh_0 => lh_0
  | x :: r, i4, lh_0 => if decide (i4 < 14) = true then lFew2_3 r (i4 + 1) (lh_0 ++ [vFew x]) else lh_0
def lFew2C_3 : List (Sem shVal) → Int → List (Sem shVal) → Bool
  | [], i4, lh_0 => true
  | x :: r, i4, lh_0 => if decide (i4 < 14) = true then vFewC x && (decide (lh_0.length + [vFew x].length ≤ 1073741824) && lFew2C_3 r (i4 + 1) (lh_0 ++ [vFew x])) else true
theorem at6_3 {C : Ctx} (hC : ∀ id, C.ρ0 id = none) (l0 : List (Sem shVal)) (hl : l0.length ≤ maxStr) : ∀ (m i : Nat) (lh_0 : List (Sem shVal)), l0.length - i = m → i ≤ l0.length → lFew2C_3 (l0.drop i) i lh_0 = true →
    Reach env15 C 6 (headK Tryz.f6 3) (s6_3 l0 (i : Int) lh_0) (fun r h => resOf h [shVal.sl] r = some (lFew2_3 (l0.drop i) i lh_0, ())) := by
  intro m
  induction m with
  | zero =>
    intro i lh_0 hm hi hc
    obtain rfl : i = l0.length := by omega
    rw [List.drop_length] at hc ⊢
    refine reach_ok env15_all env15_mix ok6 (fun id _ => hC id) (on6_3 _ _ _) ?_
    simp only [lFew2C_3] at hc
    simp only [Tr.val, lt_dec', cond_false, lFew2_3]
    repeat' split
    all_goals first | rfl | simp_all
  | succ m IH =>
    intro i lh_0 hm hi hc
    have hlt : i < l0.length := by omega
    have IH := IH (i + 1)
    have hcast : ((i : Int) + 1) = ((i + 1 : Nat) : Int) := by omega
    have hwr := wrap_add i (by omega)
    rw [List.drop_eq_getElem_cons hlt] at hc ⊢
    refine reach_ok env15_all env15_mix ok6 (fun id _ => hC id) (on6_3 _ _ _) ?_
    simp only [lFew2C_3] at hc
    simp only [Tr.val, lt_dec hlt, inB_of hlt, getD_at l0 _ hlt, hwr, cond_true, if_true, lFew2_3]
    clear hwr
    (try simp only [hcast] at hc ⊢)
    repeat' split
    all_goals first | (change Reach _ _ _ _ _ _; apply IH <;> first | omega | assumption | (clear IH; simp_all)) | rfl | (clear IH; simp_all)
theorem at6_3s {C : Ctx} (hC : ∀ id, C.ρ0 id = none) (l0 : List (Sem shVal)) (lh_0 : List (Sem shVal)) (hc : lFew2C_3 l0 0 lh_0 = true) :
    Reach env15 C 6 (headK Tryz.f6 3) (s6_3 l0 0 lh_0) (fun r h => resOf h [shVal.sl] r = some (lFew2_3 l0 0 lh_0, ())) :=
  Reach.len 0 (shVal) l0 rfl fun hl => at6_3 hC l0 hl _ 0 lh_0 rfl (Nat.zero_le _) hc
def lFew2 (x0 : Sem shVal.sl) : Sem shVal.sl :=
  lFew2_3 x0 0 []
def lFew2C (x0 : Sem shVal.sl) : Bool :=
  lFew2C_3 x0 0 []
def F6 : FSem := plainC [shVal.sl] [shVal.sl] (fun x => lFew2C x.1) fun x => (lFew2 x.1, ())
theorem FOk6 : FOk env15.P env15.gl 6 F6 := by
  refine FOk_plainC ok6 fun x hx C hC => ?_
  simp only [lFew2C] at hx
  refine reach_ok env15_all env15_mix ok6 (fun id _ => hC id) (go6 x.1) ?_
  simp only [Tr.val, lFew2]
  repeat' split
  all_goals first | (change Reach _ _ _ _ _ _; apply at6_3s hC <;> first | assumption | simp_all) | rfl | simp_all

abbrev kp13 : Nat → Keep := fun j => if j = 3 then { slots := [0, 3, 4], prom := [(3, none, shCol)] } else { }
abbrev s13_3 (l0 : List (Sem shCol)) (i4 : Int) (lh_0 : List (Sem shCol)) : St := {
  tmps :=
    [AV.sl shCol l0, AV.any, AV.any, AV.vec 0, AV.int IntKind.i64 i4, AV.any, AV.any, AV.any, AV.any, AV.any, AV.any,
      AV.any, AV.any, AV.any, AV.any, AV.any, AV.any, AV.any, AV.any, AV.any, AV.any, AV.any, AV.any, AV.any, AV.any, AV.any, AV.any, AV.any, AV.any, AV.any,
      AV.any, AV.any, AV.any],
  heap := [AO.vec shCol lh_0] }
theorem ok13 : fnChk env15.P 13 Tryz.f13 1 := by refine ⟨?_, ?_, ?_, ?_⟩ <;> kernel_rfl
theorem go13 (x0 : Sem shCol.sl) : run env15 0 kp13 (Func.results Tryz.f13).toList 400 (bodyOf Tryz.f13) (initSt (Func.ntmps Tryz.f13) [datum shCol.sl x0] []) =
  Tr.ok (Leaf.head 3 (headK Tryz.f13 3) (s13_3 x0 0 [])) := by kernel_rfl
theorem on13_3 (l0 : List (Sem shCol)) (i4 : Int) (lh_0 : List (Sem shCol)) : run env15 0 kp13 (Func.results Tryz.f13).toList 400 (headK Tryz.f13 3) (s13_3 l0 i4 lh_0) =
  Tr.br (bif decide (i4 < (↑l0.length : Int)) then decide (i4 < 9) else false)
  (Tr.chk (inB i4 l0.length)
    (Tr.br (decide ((↑(List.length (l0.getD i4.toNat (dflt shCol)).fst) : Int) > 20))
      (Tr.chk
        (decide (0 ≤ 0) && decide (0 ≤ 20) && decide (20 ≤ (↑(List.length (l0.getD i4.toNat (dflt shCol)).fst) : Int)))
        (Tr.chk
          (decide
            (lh_0.length +
                [(List.take (Int.toNat 20 - Int.toNat 0) (List.drop (Int.toNat 0) (l0.getD i4.toNat (dflt shCol)).fst),
                      (l0.getD i4.toNat (dflt shCol)).snd)].length ≤
              1073741824))
          (Tr.ok
            (Leaf.head 3 (headK Tryz.f13 3)
              (s13_3 l0 (IntKind.i64.wrap (i4 + 1))
                (lh_0 ++
                  [(List.take (Int.toNat 20 - Int.toNat 0)
                        (List.drop (Int.toNat 0) (l0.getD i4.toNat (dflt shCol)).fst),
                      (l0.getD i4.toNat (dflt shCol)).snd)]))))))
      (Tr.chk (decide (lh_0.length + [l0.getD i4.toNat (dflt shCol)].length ≤ 1073741824))
        (Tr.ok
          (Leaf.head 3 (headK Tryz.f13 3)
            (s13_3 l0 (IntKind.i64.wrap (i4 + 1)) (lh_0 ++ [l0.getD i4.toNat (dflt shCol)])))))))
  (Tr.ok (Leaf.ret (AV.vec 0) [AO.vec shCol lh_0])) := by kernel_rfl
def lCols_3 : List (Sem shCol) → Int → List (Sem shCol) → Sem shCol.sl
  | [], i4, lh_0 => lh_0
  | x :: r, i4, lh_0 => if decide (i4 < 9) = true then
  if decide ((↑(List.length x.fst) : Int) > 20) = true then
    lCols_3 r (i4 + 1) (lh_0 ++ [(List.take (Int.toNat 20 - Int.toNat 0) (List.drop (Int.toNat 0) x.fst), x.snd)])
  else lCols_3 r (i4 + 1) (lh_0 ++ [x])
else lh_0
def lColsC_3 : List (Sem shCol) → Int → List (Sem shCol) → Bool
  | [], i4, lh_0 => true
  | x :: r, i4, lh_0 => if decide (i4 < 9) = true then
  if decide ((↑(List.length x.fst) : Int) > 20) = true then
    decide (0 ≤ 0) && decide (0 ≤ 20) && decide (20 ≤ (↑(List.length x.fst) : Int)) &&
      (decide (lh_0.length + [(List.take (Int.toNat 20 - Int.toNat 0) (List.drop (Int.toNat 0) x.fst), x.snd)].length ≤ 1073741824) &&
        lColsC_3 r (i4 + 1) (lh_0 ++ [(List.take (Int.toNat 20 - Int.toNat 0) (List.drop (Int.toNat 0) x.fst), x.snd)]))
  else decide (lh_0.length + [x].length ≤ 1073741824) && lColsC_3 r (i4 + 1) (lh_0 ++ [x])
else true
theorem at13_3 {C : Ctx} (hC : ∀ id, C.ρ0 id = none) (l0 : List (Sem shCol)) (hl : l0.length ≤ maxStr) : ∀ (m i : Nat) (lh_0 : List (Sem shCol)), l0.length - i = m → i ≤ l0.length → lColsC_3 (l0.drop i) i lh_0 = true →
    Reach env15 C 13 (headK Tryz.f13 3) (s13_3 l0 (i : Int) lh_0) (fun r h => resOf h [shCol.sl] r = some (lCols_3 (l0.drop i) i lh_0, ())) := by
  intro m
  induction m with
  | zero =>
    intro i lh_0 hm hi hc
    obtain rfl : i = l0.length := by omega
    rw [List.drop_length] at hc ⊢
    refine reach_ok env15_all env15_mix ok13 (fun id _ => hC id) (on13_3 _ _ _) ?_
    simp only [lColsC_3] at hc
    simp only [Tr.val, lt_dec', cond_false, lCols_3]
    repeat' split
    all_goals first | rfl | simp_all
  | succ m IH =>
    intro i lh_0 hm hi hc
    have hlt : i < l0.length := by omega
    have IH := IH (i + 1)
    have hcast : ((i : Int) + 1) = ((i + 1 : Nat) : Int) := by omega
    have hwr := wrap_add i (by omega)
    rw [List.drop_eq_getElem_cons hlt] at hc ⊢
    refine reach_ok env15_all env15_mix ok13 (fun id _ => hC id) (on13_3 _ _ _) ?_
    simp only [lColsC_3] at hc
    simp only [Tr.val, lt_dec hlt, inB_of hlt, getD_at l0 _ hlt, hwr, cond_true, if_true, lCols_3]
    clear hwr
    (try simp only [hcast] at hc ⊢)
    repeat' split
    all_goals first | (change Reach _ _ _ _ _ _; apply IH <;> first | omega | assumption | (clear IH; simp_all)) | rfl | (clear IH; simp_all)
theorem at13_3s {C : Ctx} (hC : ∀ id, C.ρ0 id = none) (l0 : List (Sem shCol)) (lh_0 : List (Sem shCol)) (hc : lColsC_3 l0 0 lh_0 = true) :
    Reach env15 C 13 (headK Tryz.f13 3) (s13_3 l0 0 lh_0) (fun r h => resOf h [shCol.sl] r = some (lCols_3 l0 0 lh_0, ())) :=
  Reach.len 0 (shCol) l0 rfl fun hl => at13_3 hC l0 hl _ 0 lh_0 rfl (Nat.zero_le _) hc
def lCols (x0 : Sem shCol.sl) : Sem shCol.sl :=
  lCols_3 x0 0 []
def lColsC (x0 : Sem shCol.sl) : Bool :=
  lColsC_3 x0 0 []
def F13 : FSem := plainC [shCol.sl] [shCol.sl] (fun x => lColsC x.1) fun x => (lCols x.1, ())
theorem FOk13 : FOk env15.P env15.gl 13 F13 := by
  refine FOk_plainC ok13 fun x hx C hC => ?_
  simp only [lColsC] at hx
  refine reach_ok env15_all env15_mix ok13 (fun id _ => hC id) (go13 x.1) ?_
  simp only [Tr.val, lCols]
  repeat' split
  all_goals first | (change Reach _ _ _ _ _ _; apply at13_3s hC <;> first | assumption | simp_all) | rfl | simp_all

noncomputable def env16 : Env := ((env15.add 6 F6).add 13 F13)
theorem env16_all : EnvAll env16 := (EnvAll.addS (EnvAll.addS env15_all (SameE.refl env15) FOk6) ((SameE.refl env15).add _ _) FOk13)
theorem env16_mix : env16.P.follows .mixedOrders = true := (mix_add (mix_add env15_mix _ _) _ _)
end Cad

namespace Cad
open Go Go.Proofs

theorem FOk_tot {P : Program} {gl : Nat → AV} {k : FuncId} {ks outs : List Sh} {c : HArgs (ks.map some) → Bool} {g : HArgs (ks.map some) → HArgs (outs.map some)} (h : FOk P gl k (plainC ks outs c g)) (hc : ∀ x, c x = true) : FOk P gl k (plainT ks outs g) :=
  FOk_T (by rwa [show c = fun _ => true from funext hc] at h)

theorem vFewC_true (v : V) : vFewC v = true := by
  unfold vFewC
  cases h : decide ((↑(List.length v.snd.snd) : Int) > 60)
  · rfl
  · simp only [decide_eq_true_eq] at h
    simp only [cond_true, Bool.and_eq_true, decide_eq_true_eq]
    omega
theorem sFewC_true (s : Str) : sFewC s = true := by
  unfold sFewC
  cases h : decide ((↑(List.length s) : Int) > 20)
  · rfl
  · simp only [decide_eq_true_eq] at h
    simp only [cond_true, Bool.and_eq_true, decide_eq_true_eq]
    omega
theorem lFew2C_3_true : ∀ (l : List (Sem shVal)) (i : Int) (a : List (Sem shVal)), (a.length : Int) ≤ i → lFew2C_3 l i a = true
  | [], _, _, _ => rfl
  | x :: r, i, a, h => by
    simp only [lFew2C_3, vFewC_true]
    split
    · rename_i hi
      simp only [decide_eq_true_eq] at hi
      rw [lFew2C_3_true r (i + 1) _ (by simp; omega)]
      simp; omega
    · rfl
theorem lColsC_3_true : ∀ (l : List (Sem shCol)) (i : Int) (a : List (Sem shCol)), (a.length : Int) ≤ i → lColsC_3 l i a = true
  | [], _, _, _ => rfl
  | x :: r, i, a, h => by
    simp only [lColsC_3]
    split
    · rename_i hi
      simp only [decide_eq_true_eq] at hi
      split
      · rename_i hx
        simp only [decide_eq_true_eq] at hx
        rw [lColsC_3_true r (i + 1) _ (by simp; omega)]
        simp; omega
      · rw [lColsC_3_true r (i + 1) _ (by simp; omega)]
        simp; omega
    · rfl
def F14t : FSem := plainT [shVal] [shVal] fun x => (vFew x.1, ())
theorem FOk14t : FOk env16.P env16.gl 14 F14t := FOk_tot FOk14 fun x => vFewC_true x.1
def F12t : FSem := plainT [Sh.str] [Sh.str] fun x => (sFew x.1, ())
theorem FOk12t : FOk env16.P env16.gl 12 F12t := FOk_tot FOk12 fun x => sFewC_true x.1
def F6t : FSem := plainT [shVal.sl] [shVal.sl] fun x => (lFew2 x.1, ())
theorem FOk6t : FOk env16.P env16.gl 6 F6t := FOk_tot FOk6 fun x => lFew2C_3_true x.1 0 [] (by simp)
def F13t : FSem := plainT [shCol.sl] [shCol.sl] fun x => (lCols x.1, ())
theorem FOk13t : FOk env16.P env16.gl 13 F13t := FOk_tot FOk13 fun x => lColsC_3_true x.1 0 [] (by simp)

abbrev kpIx : Nat → Keep := fun _ => { slots := [0, 1, 7, 8] }
def ixTree {K : List Item} {e : Sh} (l : List (Sem e)) (p : Sem e → Bool) (st : Int → St) (h0 : List AO) (i : Int) : Tr Leaf :=
  .br (decide (i < (l.length : Int))) (.chk (inB i l.length) (.br (p (l.getD i.toNat (dflt e))) (.ok (.ret (.int .i64 i) h0)) (.ok (.head 2 K (st (IntKind.i64.wrap (i + 1))))))) (.ok (.ret (.int .i64 (-1)) h0))

theorem reach_ixf {E : Env} {C : Ctx} {k : FuncId} {f : Func} {n n0 : Nat} {keep : Nat → Keep} {fuel : Nat} {K : List Item} {e : Sh} (l : List (Sem e)) (p : Sem e → Bool) (st : Int → St) {h0 : List AO}
    (hE : EnvAll E) (hm : E.P.follows .mixedOrders = true) (hf : fnChk E.P k f n) (hC : ∀ id, n0 ≤ id → C.ρ0 id = none)
    (hon : ∀ i, run E n0 keep f.results.toList fuel K (st i) = ixTree (K := K) l p st h0 i) (hl : l.length ≤ maxStr) : ∀ (m i : Nat), l.length - i = m → i ≤ l.length →
    Reach E C k K (st i) (fun r h => (r, h) = (.int .i64 (ixFrom p (l.drop i) i), h0)) := by
  intro m
  induction m with
  | zero =>
    intro i hm' hi
    obtain rfl : i = l.length := by omega
    refine reach_ok hE hm hf hC (hon _) ?_
    simp only [ixTree, Tr.val, lt_dec', List.drop_length]
    rfl
  | succ m IH =>
    intro i hm' hi
    have hlt : i < l.length := by omega
    refine reach_ok hE hm hf hC (hon _) ?_
    rw [List.drop_eq_getElem_cons hlt]
    simp only [ixTree, Tr.val, lt_dec hlt, inB_of hlt, getD_at l _ hlt, wrap_add i (by omega), if_true, ixFrom]
    split
    · rfl
    · exact IH (i + 1) (by omega) (by omega)

abbrev s104_79 (t : Int) (l : List (Sem shInt)) (i : Int) : St := { tmps := [.sl shInt l, .clo (.func 79) [] [.ptr 0 0], .any, .any, .any, .any, .any, .int .i64 l.length, .int .i64 i, .any, .any, .any, .any, .any, .any, .any, .any, .any, .any], heap := [.box [.int .i64 t]] }
theorem go104_79 (t : Int) (l : List (Sem shInt)) : run env16 1 kpIx Tryz.f104.results.toList 300 (bodyOf Tryz.f104) (initSt Tryz.f104.ntmps [.sl shInt l, .clo (.func 79) [] [.ptr 0 0]] [.box [.int .i64 t]]) = .ok (.head 2 (headK Tryz.f104 2) (s104_79 t l 0)) := by kernel_rfl
theorem on104_79 (t : Int) (l : List (Sem shInt)) (i : Int) : run env16 1 kpIx Tryz.f104.results.toList 300 (headK Tryz.f104 2) (s104_79 t l i) = ixTree (K := headK Tryz.f104 2) (e := shInt) l (fun x => bif x != t then x != 0 else false) (s104_79 t l) [.box [.int .i64 t]] i := by kernel_rfl

theorem ok104 : fnChk env16.P 104 Tryz.f104 2 := by refine ⟨?_, ?_, ?_, ?_⟩ <;> kernel_rfl
def G104 : GSem [some (.sl shInt), none] := fun x h => match x, h with
  | (l, .clo (.func 79) [] [.ptr 0 0], _), [.box [.int .i64 t]] => .ok (.int .i64 (ixFrom (fun x => bif x != t then x != 0 else false) l 0), [.box [.int .i64 t]])
  | _, _ => .err
def F104 : FSem := liftF [some (.sl shInt), none] G104
theorem FOk104 : FOk env16.P env16.gl 104 F104 := by
  refine FOk_of ok104 fun x h0 res hx C hC => ?_
  unfold G104 at hx
  split at hx
  · rename_i l u t
    simp only [Tr.val_ok, Option.some.injEq] at hx
    subst hx
    refine Reach.len 0 shInt l rfl fun hl => ?_
    refine reach_ok (n0 := 1) env16_all env16_mix ok104 hC (go104_79 t l) ?_
    exact reach_ixf l (fun x => bif x != t then x != 0 else false) (s104_79 t l) env16_all env16_mix ok104 hC (on104_79 t l) hl _ 0 rfl (Nat.zero_le _)
  · simp at hx

noncomputable def env17 : Env := (((((env16.add 14 F14t).add 12 F12t).add 6 F6t).add 13 F13t).add 104 F104)
theorem env17_all : EnvAll env17 := (EnvAll.addS (EnvAll.addS (EnvAll.addS (EnvAll.addS (EnvAll.addS env16_all (SameE.refl env16) FOk14t) ((SameE.refl env16).add _ _) FOk12t) (((SameE.refl env16).add _ _).add _ _) FOk6t) ((((SameE.refl env16).add _ _).add _ _).add _ _) FOk13t) (((((SameE.refl env16).add _ _).add _ _).add _ _).add _ _) FOk104)
theorem env17_mix : env17.P.follows .mixedOrders = true := (mix_add (mix_add (mix_add (mix_add (mix_add env16_mix _ _) _ _) _ _) _ _) _ _)
end Cad

namespace Cad
open Go Go.Proofs

noncomputable def F78 : FSem := liftF [some (.sl shInt), none] (autoG env17 Tryz.f78 [some (.sl shInt), none])
theorem FOk78 : FOk env17.P env17.gl 78 F78 := FOk_auto _ env17_all env17_mix (by refine ⟨?_, ?_, ?_, ?_⟩ <;> kernel_rfl)

def wName (x0 : Sem Sh.str) : Sem Sh.bool :=
  wordOk x0
theorem ok25 : fnChk env17.P 25 Tryz.f25 1 := by refine ⟨?_, ?_, ?_, ?_⟩ <;> kernel_rfl
theorem go25 (x0 : Sem Sh.str) : run env17 0 (fun _ => { }) (Func.results Tryz.f25).toList 400 (bodyOf Tryz.f25) (initSt (Func.ntmps Tryz.f25) [datum Sh.str x0] []) =
  Tr.ok (Leaf.ret (AV.bool (wordOk x0)) []) := by kernel_rfl
def F25 : FSem := plainT [Sh.str] [Sh.bool] fun x => (wName x.1, ())
theorem FOk25 : FOk env17.P env17.gl 25 F25 := by
  refine FOk_plainT ok25 fun x C hC => ?_
  refine reach_res env17_all env17_mix ok25 (fun id _ => hC id) (go25 x.1) ?_
  simp only [Tr.val, wName]
  repeat' split
  all_goals rfl

def tPlace (x0 : Sem shTable) (x1 : Sem Sh.str) : Sem shInt :=
  ixFrom (fun c => c.fst == x1) x0.snd.fst 0
theorem ok17 : fnChk env17.P 17 Tryz.f17 2 := by refine ⟨?_, ?_, ?_, ?_⟩ <;> kernel_rfl
theorem go17 (x0 : Sem shTable) (x1 : Sem Sh.str) : run env17 0 (fun _ => { }) (Func.results Tryz.f17).toList 400 (bodyOf Tryz.f17) (initSt (Func.ntmps Tryz.f17) [datum shTable x0, datum Sh.str x1] []) =
  Tr.ok (Leaf.ret (AV.int IntKind.i64 (ixFrom (fun c => c.fst == x1) x0.snd.fst 0)) []) := by kernel_rfl
def F17 : FSem := plainT [shTable, Sh.str] [shInt] fun x => (tPlace x.1 x.2.1, ())
theorem FOk17 : FOk env17.P env17.gl 17 F17 := by
  refine FOk_plainT ok17 fun x C hC => ?_
  refine reach_res env17_all env17_mix ok17 (fun id _ => hC id) (go17 x.1 x.2.1) ?_
  simp only [Tr.val, tPlace]
  repeat' split
  all_goals rfl

def cPlace (x0 : Sem shCol.sl) (x1 : Sem Sh.str) : Sem shInt :=
  ixFrom (fun c => c.fst == x1) x0 0
theorem ok48 : fnChk env17.P 48 Tryz.f48 2 := by refine ⟨?_, ?_, ?_, ?_⟩ <;> kernel_rfl
theorem go48 (x0 : Sem shCol.sl) (x1 : Sem Sh.str) : run env17 0 (fun _ => { }) (Func.results Tryz.f48).toList 400 (bodyOf Tryz.f48) (initSt (Func.ntmps Tryz.f48) [datum shCol.sl x0, datum Sh.str x1] []) =
  Tr.ok (Leaf.ret (AV.int IntKind.i64 (ixFrom (fun c => c.fst == x1) x0 0)) []) := by kernel_rfl
def F48 : FSem := plainT [shCol.sl, Sh.str] [shInt] fun x => (cPlace x.1 x.2.1, ())
theorem FOk48 : FOk env17.P env17.gl 48 F48 := by
  refine FOk_plainT ok48 fun x C hC => ?_
  refine reach_res env17_all env17_mix ok48 (fun id _ => hC id) (go48 x.1 x.2.1) ?_
  simp only [Tr.val, cPlace]
  repeat' split
  all_goals rfl

noncomputable def env18 : Env := ((((env17.add 78 F78).add 25 F25).add 17 F17).add 48 F48)
theorem env18_all : EnvAll env18 := (EnvAll.addS (EnvAll.addS (EnvAll.addS (EnvAll.addS env17_all (SameE.refl env17) FOk78) ((SameE.refl env17).add _ _) FOk25) (((SameE.refl env17).add _ _).add _ _) FOk17) ((((SameE.refl env17).add _ _).add _ _).add _ _) FOk48)
theorem env18_mix : env18.P.follows .mixedOrders = true := (mix_add (mix_add (mix_add (mix_add env17_mix _ _) _ _) _ _) _ _)
end Cad

namespace Cad
open Go Go.Proofs

def allT (x0 : Sem shInt.sl) (x1 : Sem shInt) : Sem Sh.bool :=
  !decide (ixFrom (fun x => bif x != x1 then x != 0 else false) x0 0 ≥ 0)
theorem ok66 : fnChk env18.P 66 Tryz.f66 2 := by refine ⟨?_, ?_, ?_, ?_⟩ <;> kernel_rfl
theorem go66 (x0 : Sem shInt.sl) (x1 : Sem shInt) : run env18 0 (fun _ => { }) (Func.results Tryz.f66).toList 400 (bodyOf Tryz.f66) (initSt (Func.ntmps Tryz.f66) [datum shInt.sl x0, datum shInt x1] []) =
  Tr.ok (Leaf.ret (AV.bool !decide (ixFrom (fun x => bif x != x1 then x != 0 else false) x0 0 ≥ 0)) []) := by kernel_rfl
def F66 : FSem := plainT [shInt.sl, shInt] [Sh.bool] fun x => (allT x.1 x.2.1, ())
theorem FOk66 : FOk env18.P env18.gl 66 F66 := by
  refine FOk_plainT ok66 fun x C hC => ?_
  refine reach_res env18_all env18_mix ok66 (fun id _ => hC id) (go66 x.1 x.2.1) ?_
  simp only [Tr.val, allT]
  repeat' split
  all_goals rfl

def nameOk (x0 : Sem Sh.str) : Sem Sh.bool :=
  bif wName x0 then !resv x0 else false
theorem ok16 : fnChk env18.P 16 Tryz.f16 1 := by refine ⟨?_, ?_, ?_, ?_⟩ <;> kernel_rfl
theorem go16 (x0 : Sem Sh.str) : run env18 0 (fun _ => { }) (Func.results Tryz.f16).toList 400 (bodyOf Tryz.f16) (initSt (Func.ntmps Tryz.f16) [datum Sh.str x0] []) =
  Tr.ok (Leaf.ret (AV.bool (bif wName x0 then !resv x0 else false)) []) := by kernel_rfl
def F16 : FSem := plainT [Sh.str] [Sh.bool] fun x => (nameOk x.1, ())
theorem FOk16 : FOk env18.P env18.gl 16 F16 := by
  refine FOk_plainT ok16 fun x C hC => ?_
  refine reach_res env18_all env18_mix ok16 (fun id _ => hC id) (go16 x.1) ?_
  simp only [Tr.val, nameOk]
  repeat' split
  all_goals rfl

noncomputable def env19 : Env := ((env18.add 66 F66).add 16 F16)
theorem env19_all : EnvAll env19 := (EnvAll.addS (EnvAll.addS env18_all (SameE.refl env18) FOk66) ((SameE.refl env18).add _ _) FOk16)
theorem env19_mix : env19.P.follows .mixedOrders = true := (mix_add (mix_add env18_mix _ _) _ _)
end Cad

namespace Cad
open Go Go.Proofs

--pre
theorem FOk_none {P : Program} {gl : Nat → AV} {k : FuncId} {ks outs : List Sh} {c : HArgs (ks.map some) → Bool} {g : HArgs (ks.map some) → HArgs (outs.map some)} (hf : ∃ fn, P.funcs[k]? = some fn ∧ (fn.name == "runtime.NumGoroutine") = false ∧ fn.body.isNone = false) (hc : ∀ x, c x = false) : FOk P gl k (plainC ks outs c g) := by
  refine ⟨hf, ?_⟩
  intro w U ρ hp n args vals f fp hv
  exfalso
  unfold plainC liftF at hv
  split at hv
  · simp only at hv
    split at hv
    · split at hv
      · simp only [Tr.val_bind, Option.bind_eq_some_iff] at hv
        obtain ⟨res, h1, h2⟩ := hv
        unfold plainCG at h1
        split at h1
        · simp only [Tr.val, hc] at h1
          simp at h1
        · simp at h1
      · simp at hv
    · simp at hv
  · simp at hv
theorem OptOk_br {Φ : Leaf → Prop} {c : Bool} {t f : Tr Leaf} (h1 : c = true → OptOk Φ t.val) (h2 : c = false → OptOk Φ f.val) : OptOk Φ (Tr.br c t f).val := by
  cases c
  · simpa [Tr.val] using h2 rfl
  · simpa [Tr.val] using h1 rfl
theorem OptOk_chk {Φ : Leaf → Prop} {c : Bool} {t : Tr Leaf} (hc : c = true) (h : OptOk Φ t.val) : OptOk Φ (Tr.chk c t).val := by
  subst hc
  simpa [Tr.val] using h
theorem OptOk_chkT {Φ : Leaf → Prop} {t : Tr Leaf} (h : OptOk Φ t.val) : OptOk Φ (Tr.chk true t).val := h
theorem ne_t {c : Bool} (h : c = false) : ¬ c = true := by rw [h]; simp
theorem guard_ite {c g : Bool} (h : (if c = true then g else false) = true) : c = true ∧ g = true := by
  split at h
  · exact ⟨‹_›, h⟩
  · cases h
theorem Tr.val_brT {α : Type} (t f : Tr α) : (Tr.br true t f).val = t.val := rfl
theorem Tr.val_brF {α : Type} (t f : Tr α) : (Tr.br false t f).val = f.val := rfl
theorem Tr.val_chkT {α : Type} (t : Tr α) : (Tr.chk true t).val = t.val := rfl
instance : Inhabited ExprT := ⟨.mk [] (0, 0, []) [] []⟩
instance (s : Sh) : Inhabited (Sem s) := ⟨dflt s⟩

noncomputable def en51 (g : Sem Sh.expr → Sem (Sh.sl shCol) → Sem shInt × Sem shInt) (c : Sem Sh.expr → Sem (Sh.sl shCol) → Bool) : Env := env19.add 51 (plainC [Sh.expr, Sh.sl shCol] [shInt, shInt] (fun x => c x.1 x.2.1) fun x => ((g x.1 x.2.1).1, (g x.1 x.2.1).2, ()))
theorem en51_all {g : Sem Sh.expr → Sem (Sh.sl shCol) → Sem shInt × Sem shInt} {c : Sem Sh.expr → Sem (Sh.sl shCol) → Bool} (hg : FOk env19.P env19.gl 51 (plainC [Sh.expr, Sh.sl shCol] [shInt, shInt] (fun x => c x.1 x.2.1) fun x => ((g x.1 x.2.1).1, (g x.1 x.2.1).2, ()))) : EnvAll (en51 g c) := env19_all.add hg
theorem en51_mix {g : Sem Sh.expr → Sem (Sh.sl shCol) → Sem shInt × Sem shInt} {c : Sem Sh.expr → Sem (Sh.sl shCol) → Bool} : (en51 g c).P.follows .mixedOrders = true := mix_add env19_mix _ _
abbrev kp51r : Nat → Keep := fun j => if j = 3 then { slots := [1, 2, 6, 15, 16, 17], prom := [(6, none, shInt)] } else { }
abbrev s51r_3 (l1 : List (Sem shCol)) (l15 : List (Sem Sh.expr)) (i16 : Int) (i17 : Int) (sh_0_0 : Str) (ih_0_1 : Int) (ih_0_2 : Int) (sh_0_3 : Str) (sh_0_4 : Str) (lh_0_5 : List (Sem Sh.expr)) (lh_1 : List (Sem shInt)) : St := {
  tmps :=
    [AV.any, AV.sl shCol l1, AV.ptr 0 0, AV.any, AV.any, AV.any, AV.vec 1, AV.any, AV.any, AV.any, AV.any, AV.any,
      AV.any, AV.any, AV.any, AV.sl Sh.expr l15, AV.int IntKind.i64 i16, AV.int IntKind.i64 i17, AV.any, AV.any, AV.any, AV.any, AV.any, AV.any, AV.any, AV.any,
      AV.any, AV.any, AV.any, AV.any, AV.any, AV.any, AV.any, AV.any, AV.any, AV.any, AV.any, AV.any, AV.any, AV.any, AV.any, AV.any, AV.any, AV.any, AV.any,
      AV.any, AV.any, AV.any, AV.any, AV.any, AV.any, AV.any, AV.any, AV.any, AV.any, AV.any, AV.any, AV.any, AV.any, AV.any, AV.any, AV.any, AV.any, AV.any,
      AV.any, AV.any, AV.any, AV.any, AV.any, AV.any, AV.any, AV.any, AV.any, AV.any, AV.any, AV.any, AV.any, AV.any, AV.any, AV.any, AV.any, AV.any, AV.any,
      AV.any, AV.any, AV.any, AV.any, AV.any, AV.any, AV.any, AV.any],
  heap :=
    [AO.box [AV.str sh_0_0, AV.int IntKind.i64 ih_0_1, AV.int IntKind.i64 ih_0_2, AV.str sh_0_3, AV.str sh_0_4, AV.sl Sh.expr lh_0_5],
      AO.vec shInt lh_1] }
theorem ok51r (g : Sem Sh.expr → Sem (Sh.sl shCol) → Sem shInt × Sem shInt) (c : Sem Sh.expr → Sem (Sh.sl shCol) → Bool) : fnChk (en51 g c).P 51 Tryz.f51 2 := by refine ⟨?_, ?_, ?_, ?_⟩ <;> kernel_rfl
theorem go51r (g : Sem Sh.expr → Sem (Sh.sl shCol) → Sem shInt × Sem shInt) (c : Sem Sh.expr → Sem (Sh.sl shCol) → Bool) (x0 : Sem Sh.expr) (x1 : Sem shCol.sl) : run (en51 g c) 0 kp51r (Func.results Tryz.f51).toList 400 (bodyOf Tryz.f51) (initSt (Func.ntmps Tryz.f51) [datum Sh.expr x0, datum shCol.sl x1] []) =
  Tr.ok
  (Leaf.head 3 (headK Tryz.f51 3)
    (s51r_3 x1 (ExprT.l x0) (↑(ExprT.l x0).length : Int) 0 (ExprT.op x0) (ExprT.v x0).fst (ExprT.v x0).snd.fst (ExprT.v x0).snd.snd (ExprT.s x0) (ExprT.l x0)
      [])) := by kernel_rfl
theorem on51r_3 (g : Sem Sh.expr → Sem (Sh.sl shCol) → Sem shInt × Sem shInt) (c : Sem Sh.expr → Sem (Sh.sl shCol) → Bool) (l1 : List (Sem shCol)) (l15 : List (Sem Sh.expr)) (i16 : Int) (i17 : Int) (sh_0_0 : Str) (ih_0_1 : Int) (ih_0_2 : Int) (sh_0_3 : Str) (sh_0_4 : Str) (lh_0_5 : List (Sem Sh.expr)) (lh_1 : List (Sem shInt)) : run (en51 g c) 0 kp51r (Func.results Tryz.f51).toList 400 (headK Tryz.f51 3) (s51r_3 l1 l15 i16 i17 sh_0_0 ih_0_1 ih_0_2 sh_0_3 sh_0_4 lh_0_5 lh_1) =
  Tr.br (decide (i17 < i16))
  (Tr.chk (inB i17 l15.length)
    (Tr.chk
      (c
        (ExprT.mk (ExprT.op (l15.getD i17.toNat (dflt Sh.expr))) (ExprT.v (l15.getD i17.toNat (dflt Sh.expr))) (ExprT.s (l15.getD i17.toNat (dflt Sh.expr)))
          (ExprT.l (l15.getD i17.toNat (dflt Sh.expr))))
        l1)
      (Tr.br
        ((g
              (ExprT.mk (ExprT.op (l15.getD i17.toNat (dflt Sh.expr))) (ExprT.v (l15.getD i17.toNat (dflt Sh.expr)))
                (ExprT.s (l15.getD i17.toNat (dflt Sh.expr))) (ExprT.l (l15.getD i17.toNat (dflt Sh.expr))))
              l1).snd !=
          0)
        (Tr.ok
          (Leaf.ret
            (AV.tup
              [AV.int IntKind.i64 0,
                AV.int IntKind.i64
                  (g
                      (ExprT.mk (ExprT.op (l15.getD i17.toNat (dflt Sh.expr))) (ExprT.v (l15.getD i17.toNat (dflt Sh.expr)))
                        (ExprT.s (l15.getD i17.toNat (dflt Sh.expr))) (ExprT.l (l15.getD i17.toNat (dflt Sh.expr))))
                      l1).snd])
            []))
        (Tr.chk
          (decide
            (lh_1.length +
                [(g
                        (ExprT.mk (ExprT.op (l15.getD i17.toNat (dflt Sh.expr))) (ExprT.v (l15.getD i17.toNat (dflt Sh.expr)))
                          (ExprT.s (l15.getD i17.toNat (dflt Sh.expr))) (ExprT.l (l15.getD i17.toNat (dflt Sh.expr))))
                        l1).fst].length ≤
              1073741824))
          (Tr.ok
            (Leaf.head 3 (headK Tryz.f51 3)
              (s51r_3 l1 l15 i16 (IntKind.i64.wrap (i17 + 1)) sh_0_0 ih_0_1 ih_0_2 sh_0_3 sh_0_4 lh_0_5
                (lh_1 ++
                  [(g
                        (ExprT.mk (ExprT.op (l15.getD i17.toNat (dflt Sh.expr))) (ExprT.v (l15.getD i17.toNat (dflt Sh.expr)))
                          (ExprT.s (l15.getD i17.toNat (dflt Sh.expr))) (ExprT.l (l15.getD i17.toNat (dflt Sh.expr))))
                        l1).fst]))))))))
  (Tr.br (sh_0_0 == [108, 105, 116]) (Tr.ok (Leaf.ret (AV.tup [AV.int IntKind.i64 ih_0_1, AV.int IntKind.i64 0]) []))
    (Tr.br (sh_0_0 == [99, 111, 108])
      (Tr.br (decide (cPlace l1 sh_0_4 < 0)) (Tr.ok (Leaf.ret (AV.tup [AV.int IntKind.i64 0, AV.int IntKind.i64 4]) []))
        (Tr.chk (inB (cPlace l1 sh_0_4) l1.length)
          (Tr.ok
            (Leaf.ret
              (AV.tup
                [AV.int IntKind.i64 (l1.getD (Int.toNat (cPlace l1 sh_0_4)) (dflt shCol)).snd.fst,
                  AV.int IntKind.i64 0])
              []))))
      (Tr.br (sh_0_0 == [110, 111, 116])
        (Tr.br (!allT lh_1 3) (Tr.ok (Leaf.ret (AV.tup [AV.int IntKind.i64 0, AV.int IntKind.i64 5]) []))
          (Tr.ok (Leaf.ret (AV.tup [AV.int IntKind.i64 3, AV.int IntKind.i64 0]) [])))
        (Tr.br (sh_0_0 == [97, 110, 100])
          (Tr.br (!allT lh_1 3) (Tr.ok (Leaf.ret (AV.tup [AV.int IntKind.i64 0, AV.int IntKind.i64 5]) []))
            (Tr.ok (Leaf.ret (AV.tup [AV.int IntKind.i64 3, AV.int IntKind.i64 0]) [])))
          (Tr.br (sh_0_0 == [111, 114])
            (Tr.br (!allT lh_1 3) (Tr.ok (Leaf.ret (AV.tup [AV.int IntKind.i64 0, AV.int IntKind.i64 5]) []))
              (Tr.ok (Leaf.ret (AV.tup [AV.int IntKind.i64 3, AV.int IntKind.i64 0]) [])))
            (Tr.br (sh_0_0 == [61])
              (Tr.chk
                (inB 0 lh_1.length &&
                  (decide (Int.toNat 0 < lh_1.length) &&
                    (inB 1 lh_1.length &&
                      (decide (Int.toNat 1 < lh_1.length) &&
                        bif lh_1.getD (Int.toNat 0) (dflt shInt) == lh_1.getD (Int.toNat 1) (dflt shInt) then true
                        else
                          inB 0 lh_1.length &&
                            (decide (Int.toNat 0 < lh_1.length) &&
                              bif lh_1.getD (Int.toNat 0) (dflt shInt) == 0 then true
                              else inB 1 lh_1.length && decide (Int.toNat 1 < lh_1.length))))))
                (Tr.br
                  (!bif lh_1.getD (Int.toNat 0) (dflt shInt) == lh_1.getD (Int.toNat 1) (dflt shInt) then true
                    else bif lh_1.getD (Int.toNat 0) (dflt shInt) == 0 then true else lh_1.getD (Int.toNat 1) (dflt shInt) == 0)
                  (Tr.ok (Leaf.ret (AV.tup [AV.int IntKind.i64 0, AV.int IntKind.i64 5]) []))
                  (Tr.ok (Leaf.ret (AV.tup [AV.int IntKind.i64 3, AV.int IntKind.i64 0]) []))))
              (Tr.br (sh_0_0 == [60])
                (Tr.chk
                  (inB 0 lh_1.length &&
                    (decide (Int.toNat 0 < lh_1.length) &&
                      (inB 1 lh_1.length &&
                        (decide (Int.toNat 1 < lh_1.length) &&
                          bif lh_1.getD (Int.toNat 0) (dflt shInt) == lh_1.getD (Int.toNat 1) (dflt shInt) then true
                          else
                            inB 0 lh_1.length &&
                              (decide (Int.toNat 0 < lh_1.length) &&
                                bif lh_1.getD (Int.toNat 0) (dflt shInt) == 0 then true
                                else inB 1 lh_1.length && decide (Int.toNat 1 < lh_1.length))))))
                  (Tr.br
                    (!bif lh_1.getD (Int.toNat 0) (dflt shInt) == lh_1.getD (Int.toNat 1) (dflt shInt) then true
                      else bif lh_1.getD (Int.toNat 0) (dflt shInt) == 0 then true else lh_1.getD (Int.toNat 1) (dflt shInt) == 0)
                    (Tr.ok (Leaf.ret (AV.tup [AV.int IntKind.i64 0, AV.int IntKind.i64 5]) []))
                    (Tr.ok (Leaf.ret (AV.tup [AV.int IntKind.i64 3, AV.int IntKind.i64 0]) []))))
                (Tr.br (sh_0_0 == [43])
                  (Tr.br (!allT lh_1 1) (Tr.ok (Leaf.ret (AV.tup [AV.int IntKind.i64 0, AV.int IntKind.i64 5]) []))
                    (Tr.ok (Leaf.ret (AV.tup [AV.int IntKind.i64 1, AV.int IntKind.i64 0]) [])))
                  (Tr.br (sh_0_0 == [45])
                    (Tr.br (!allT lh_1 1) (Tr.ok (Leaf.ret (AV.tup [AV.int IntKind.i64 0, AV.int IntKind.i64 5]) []))
                      (Tr.ok (Leaf.ret (AV.tup [AV.int IntKind.i64 1, AV.int IntKind.i64 0]) [])))
                    (Tr.ok (Leaf.ret (AV.tup [AV.int IntKind.i64 3, AV.int IntKind.i64 0]) []))))))))))) := by kernel_rfl
def typedS_3 (g : Sem Sh.expr → Sem (Sh.sl shCol) → Sem shInt × Sem shInt) (c : Sem Sh.expr → Sem (Sh.sl shCol) → Bool) (l1 : List (Sem shCol)) (sh_0_0 : Str) (ih_0_1 : Int) (ih_0_2 : Int) (sh_0_3 : Str) (sh_0_4 : Str) (lh_0_5 : List (Sem Sh.expr)) : List (Sem Sh.expr) → Int → List (Sem shInt) → Sem shInt × Sem shInt
  | [], i17, lh_1 => if (sh_0_0 == [108, 105, 116]) = true then (ih_0_1, 0)
else
  if (sh_0_0 == [99, 111, 108]) = true then
    if decide (cPlace l1 sh_0_4 < 0) = true then (0, 4)
    else ((l1.getD (Int.toNat (cPlace l1 sh_0_4)) (dflt shCol)).snd.fst, 0)
  else
    if (sh_0_0 == [110, 111, 116]) = true then if (!allT lh_1 3) = true then (0, 5) else (3, 0)
    else
      if (sh_0_0 == [97, 110, 100]) = true then if (!allT lh_1 3) = true then (0, 5) else (3, 0)
      else
        if (sh_0_0 == [111, 114]) = true then if (!allT lh_1 3) = true then (0, 5) else (3, 0)
        else
          if (sh_0_0 == [61]) = true then
            if
                (!bif lh_1.getD (Int.toNat 0) (dflt shInt) == lh_1.getD (Int.toNat 1) (dflt shInt) then true
                    else bif lh_1.getD (Int.toNat 0) (dflt shInt) == 0 then true else lh_1.getD (Int.toNat 1) (dflt shInt) == 0) =
                  true then
              (0, 5)
            else (3, 0)
          else
            if (sh_0_0 == [60]) = true then
              if
                  (!bif lh_1.getD (Int.toNat 0) (dflt shInt) == lh_1.getD (Int.toNat 1) (dflt shInt) then true
                      else
                        bif lh_1.getD (Int.toNat 0) (dflt shInt) == 0 then true else lh_1.getD (Int.toNat 1) (dflt shInt) == 0) =
                    true then
                (0, 5)
              else (3, 0)
            else
              if (sh_0_0 == [43]) = true then if (!allT lh_1 1) = true then (0, 5) else (1, 0)
              else if (sh_0_0 == [45]) = true then if (!allT lh_1 1) = true then (0, 5) else (1, 0) else (3, 0)
  | x :: r, i17, lh_1 => if ((g x l1).snd != 0) = true then (0, (g x l1).snd) else typedS_3 g c l1 sh_0_0 ih_0_1 ih_0_2 sh_0_3 sh_0_4 lh_0_5 r (i17 + 1) (lh_1 ++ [(g x l1).fst])
def typedSC_3 (g : Sem Sh.expr → Sem (Sh.sl shCol) → Sem shInt × Sem shInt) (c : Sem Sh.expr → Sem (Sh.sl shCol) → Bool) (l1 : List (Sem shCol)) (sh_0_0 : Str) (ih_0_1 : Int) (ih_0_2 : Int) (sh_0_3 : Str) (sh_0_4 : Str) (lh_0_5 : List (Sem Sh.expr)) : List (Sem Sh.expr) → Int → List (Sem shInt) → Bool
  | [], i17, lh_1 => if (sh_0_0 == [108, 105, 116]) = true then true
else
  if (sh_0_0 == [99, 111, 108]) = true then
    if decide (cPlace l1 sh_0_4 < 0) = true then true else if inB (cPlace l1 sh_0_4) l1.length = true then true else false
  else
    if (sh_0_0 == [110, 111, 116]) = true then true
    else
      if (sh_0_0 == [97, 110, 100]) = true then true
      else
        if (sh_0_0 == [111, 114]) = true then true
        else
          if (sh_0_0 == [61]) = true then
            if
                (inB 0 lh_1.length &&
                    (decide (Int.toNat 0 < lh_1.length) &&
                      (inB 1 lh_1.length &&
                        (decide (Int.toNat 1 < lh_1.length) &&
                          bif lh_1.getD (Int.toNat 0) (dflt shInt) == lh_1.getD (Int.toNat 1) (dflt shInt) then true
                          else
                            inB 0 lh_1.length &&
                              (decide (Int.toNat 0 < lh_1.length) &&
                                bif lh_1.getD (Int.toNat 0) (dflt shInt) == 0 then true
                                else inB 1 lh_1.length && decide (Int.toNat 1 < lh_1.length)))))) =
                  true then
              true
            else false
          else
            if (sh_0_0 == [60]) = true then
              if
                  (inB 0 lh_1.length &&
                      (decide (Int.toNat 0 < lh_1.length) &&
                        (inB 1 lh_1.length &&
                          (decide (Int.toNat 1 < lh_1.length) &&
                            bif lh_1.getD (Int.toNat 0) (dflt shInt) == lh_1.getD (Int.toNat 1) (dflt shInt) then true
                            else
                              inB 0 lh_1.length &&
                                (decide (Int.toNat 0 < lh_1.length) &&
                                  bif lh_1.getD (Int.toNat 0) (dflt shInt) == 0 then true
                                  else inB 1 lh_1.length && decide (Int.toNat 1 < lh_1.length)))))) =
                    true then
                true
              else false
            else true
  | x :: r, i17, lh_1 => if c x l1 = true then
  if ((g x l1).snd != 0) = true then true
  else
    if decide (lh_1.length + [(g x l1).fst].length ≤ 1073741824) = true then
      typedSC_3 g c l1 sh_0_0 ih_0_1 ih_0_2 sh_0_3 sh_0_4 lh_0_5 r (i17 + 1) (lh_1 ++ [(g x l1).fst])
    else false
else false
theorem at51r_3 (g : Sem Sh.expr → Sem (Sh.sl shCol) → Sem shInt × Sem shInt) (c : Sem Sh.expr → Sem (Sh.sl shCol) → Bool) (hg : FOk env19.P env19.gl 51 (plainC [Sh.expr, Sh.sl shCol] [shInt, shInt] (fun x => c x.1 x.2.1) fun x => ((g x.1 x.2.1).1, (g x.1 x.2.1).2, ()))) {C : Ctx} (hC : ∀ id, C.ρ0 id = none) (l1 : List (Sem shCol)) (sh_0_0 : Str) (ih_0_1 : Int) (ih_0_2 : Int) (sh_0_3 : Str) (sh_0_4 : Str) (lh_0_5 : List (Sem Sh.expr)) (l15 : List (Sem Sh.expr)) (hl : l15.length ≤ maxStr) : ∀ (m i : Nat) (lh_1 : List (Sem shInt)), l15.length - i = m → i ≤ l15.length → typedSC_3 g c l1 sh_0_0 ih_0_1 ih_0_2 sh_0_3 sh_0_4 lh_0_5 (l15.drop i) i lh_1 = true →
    Reach (en51 g c) C 51 (headK Tryz.f51 3) (s51r_3 l1 l15 (l15.length : Int) (i : Int) sh_0_0 ih_0_1 ih_0_2 sh_0_3 sh_0_4 lh_0_5 lh_1) (fun r h => resOf h [shInt, shInt] r = some ((typedS_3 g c l1 sh_0_0 ih_0_1 ih_0_2 sh_0_3 sh_0_4 lh_0_5 (l15.drop i) i lh_1).1, (typedS_3 g c l1 sh_0_0 ih_0_1 ih_0_2 sh_0_3 sh_0_4 lh_0_5 (l15.drop i) i lh_1).2, ())) := by
  intro m
  induction m with
  | zero =>
    intro i lh_1 hm hi hc
    obtain rfl : i = l15.length := by omega
    rw [List.drop_length] at hc ⊢
    refine reach_ok (en51_all hg) en51_mix (ok51r g c) (fun id _ => hC id) (on51r_3 g c _ _ _ _ _ _ _ _ _ _ _) ?_
    rw [typedSC_3] at hc
    generalize hy : typedS_3 g c l1 sh_0_0 ih_0_1 ih_0_2 sh_0_3 sh_0_4 lh_0_5 [] _ lh_1 = y
    rw [typedS_3] at hy
    simp only [ExprT.eta, lt_dec', cond_false, Tr.val_brF]
    repeat' (first | (refine OptOk_br (fun hsp => ?_) (fun hsp => ?_) <;> first | (rw [if_pos hsp] at hy; try rw [if_pos hsp] at hc) | (rw [if_neg (ne_t hsp)] at hy; try rw [if_neg (ne_t hsp)] at hc)) | refine OptOk_chkT ?_ | (have hgi := guard_ite hc; refine OptOk_chk hgi.1 ?_; replace hc := hgi.2; clear hgi))
    all_goals (subst hy; first | rfl)
  | succ m IH =>
    intro i lh_1 hm hi hc
    have hlt : i < l15.length := by omega
    have IH := IH (i + 1)
    have hcast : ((i : Int) + 1) = ((i + 1 : Nat) : Int) := by omega
    have hwr := wrap_add i (by omega)
    rw [List.drop_eq_getElem_cons hlt] at hc ⊢
    refine reach_ok (en51_all hg) en51_mix (ok51r g c) (fun id _ => hC id) (on51r_3 g c _ _ _ _ _ _ _ _ _ _ _) ?_
    rw [typedSC_3] at hc
    generalize hy : typedS_3 g c l1 sh_0_0 ih_0_1 ih_0_2 sh_0_3 sh_0_4 lh_0_5 (l15[i] :: l15.drop (i + 1)) (i : Int) lh_1 = y
    rw [typedS_3] at hy
    simp only [ExprT.eta, lt_dec hlt, inB_of hlt, getD_at l15 _ hlt, hwr, cond_true, Tr.val_brT, Tr.val_chkT]
    clear hwr
    simp only [hcast] at hy
    try simp only [hcast] at hc
    repeat' (first | (refine OptOk_br (fun hsp => ?_) (fun hsp => ?_) <;> first | (rw [if_pos hsp] at hy; try rw [if_pos hsp] at hc) | (rw [if_neg (ne_t hsp)] at hy; try rw [if_neg (ne_t hsp)] at hc)) | refine OptOk_chkT ?_ | (have hgi := guard_ite hc; refine OptOk_chk hgi.1 ?_; replace hc := hgi.2; clear hgi))
    all_goals (subst hy; first | (change Reach _ _ _ _ _ _; apply IH <;> first | omega | assumption) | rfl)
theorem at51r_3s (g : Sem Sh.expr → Sem (Sh.sl shCol) → Sem shInt × Sem shInt) (c : Sem Sh.expr → Sem (Sh.sl shCol) → Bool) (hg : FOk env19.P env19.gl 51 (plainC [Sh.expr, Sh.sl shCol] [shInt, shInt] (fun x => c x.1 x.2.1) fun x => ((g x.1 x.2.1).1, (g x.1 x.2.1).2, ()))) {C : Ctx} (hC : ∀ id, C.ρ0 id = none) (l1 : List (Sem shCol)) (sh_0_0 : Str) (ih_0_1 : Int) (ih_0_2 : Int) (sh_0_3 : Str) (sh_0_4 : Str) (lh_0_5 : List (Sem Sh.expr)) (l15 : List (Sem Sh.expr)) (lh_1 : List (Sem shInt)) (hc : typedSC_3 g c l1 sh_0_0 ih_0_1 ih_0_2 sh_0_3 sh_0_4 lh_0_5 l15 0 lh_1 = true) :
    Reach (en51 g c) C 51 (headK Tryz.f51 3) (s51r_3 l1 l15 (l15.length : Int) 0 sh_0_0 ih_0_1 ih_0_2 sh_0_3 sh_0_4 lh_0_5 lh_1) (fun r h => resOf h [shInt, shInt] r = some ((typedS_3 g c l1 sh_0_0 ih_0_1 ih_0_2 sh_0_3 sh_0_4 lh_0_5 l15 0 lh_1).1, (typedS_3 g c l1 sh_0_0 ih_0_1 ih_0_2 sh_0_3 sh_0_4 lh_0_5 l15 0 lh_1).2, ())) :=
  Reach.len 15 (Sh.expr) l15 rfl fun hl => at51r_3 g c hg hC l1 sh_0_0 ih_0_1 ih_0_2 sh_0_3 sh_0_4 lh_0_5 l15 hl _ 0 lh_1 rfl (Nat.zero_le _) hc
def typedS (g : Sem Sh.expr → Sem (Sh.sl shCol) → Sem shInt × Sem shInt) (c : Sem Sh.expr → Sem (Sh.sl shCol) → Bool) (x0 : Sem Sh.expr) (x1 : Sem shCol.sl) : Sem shInt × Sem shInt :=
  typedS_3 g c x1 (ExprT.op x0) (ExprT.v x0).fst (ExprT.v x0).snd.fst (ExprT.v x0).snd.snd (ExprT.s x0) (ExprT.l x0) (ExprT.l x0) 0 []
def typedSC (g : Sem Sh.expr → Sem (Sh.sl shCol) → Sem shInt × Sem shInt) (c : Sem Sh.expr → Sem (Sh.sl shCol) → Bool) (x0 : Sem Sh.expr) (x1 : Sem shCol.sl) : Bool :=
  typedSC_3 g c x1 (ExprT.op x0) (ExprT.v x0).fst (ExprT.v x0).snd.fst (ExprT.v x0).snd.snd (ExprT.s x0) (ExprT.l x0) (ExprT.l x0) 0 []
def F51r (g : Sem Sh.expr → Sem (Sh.sl shCol) → Sem shInt × Sem shInt) (c : Sem Sh.expr → Sem (Sh.sl shCol) → Bool) : FSem := plainC [Sh.expr, shCol.sl] [shInt, shInt] (fun x => typedSC g c x.1 x.2.1) fun x => ((typedS g c x.1 x.2.1).1, (typedS g c x.1 x.2.1).2, ())
theorem FOk51r (g : Sem Sh.expr → Sem (Sh.sl shCol) → Sem shInt × Sem shInt) (c : Sem Sh.expr → Sem (Sh.sl shCol) → Bool) (hg : FOk env19.P env19.gl 51 (plainC [Sh.expr, Sh.sl shCol] [shInt, shInt] (fun x => c x.1 x.2.1) fun x => ((g x.1 x.2.1).1, (g x.1 x.2.1).2, ()))) : FOk (en51 g c).P (en51 g c).gl 51 (F51r g c) := by
  refine FOk_plainC (ok51r g c) fun x hc C hC => ?_
  unfold typedSC at hc
  refine reach_ok (en51_all hg) en51_mix (ok51r g c) (fun id _ => hC id) (go51r g c x.1 x.2.1) ?_
  generalize hy : typedS g c x.1 x.2.1 = y
  unfold typedS at hy
  try simp only [ExprT.eta]
  repeat' (first | (refine OptOk_br (fun hsp => ?_) (fun hsp => ?_) <;> first | (rw [if_pos hsp] at hy; try rw [if_pos hsp] at hc) | (rw [if_neg (ne_t hsp)] at hy; try rw [if_neg (ne_t hsp)] at hc)) | refine OptOk_chkT ?_ | (have hgi := guard_ite hc; refine OptOk_chk hgi.1 ?_; replace hc := hgi.2; clear hgi))
  all_goals (subst hy; first | (change Reach _ _ _ _ _ _; apply at51r_3s g c hg hC <;> first | assumption | exact hc) | rfl)
mutual
def typedN : Nat → Sem Sh.expr → Sem (Sh.sl shCol) → Sem shInt × Sem shInt
  | 0 => fun _ _ => default
  | n + 1 => typedS (typedN n) (typedCN n)
def typedCN : Nat → Sem Sh.expr → Sem (Sh.sl shCol) → Bool
  | 0 => fun _ _ => false
  | n + 1 => typedSC (typedN n) (typedCN n)
end
theorem FOk51N : ∀ n, FOk env19.P env19.gl 51 (plainC [Sh.expr, Sh.sl shCol] [shInt, shInt] (fun x => typedCN n x.1 x.2.1) fun x => ((typedN n x.1 x.2.1).1, (typedN n x.1 x.2.1).2, ()))
  | 0 => FOk_none ⟨Tryz.f51, (ok51r default default).1, (ok51r default default).2.1, (ok51r default default).2.2.1⟩ (fun _ => rfl)
  | n + 1 => FOk51r (typedN n) (typedCN n) (FOk51N n)
def F51 : FSem := plainC [Sh.expr, Sh.sl shCol] [shInt, shInt] (fun x => typedCN 16 x.1 x.2.1) fun x => ((typedN 16 x.1 x.2.1).1, (typedN 16 x.1 x.2.1).2, ())
theorem FOk51 : FOk env19.P env19.gl 51 F51 := FOk51N 16

noncomputable def env20 : Env := (env19.add 51 F51)
theorem env20_all : EnvAll env20 := (EnvAll.addS env19_all (SameE.refl env19) FOk51)
theorem env20_mix : env20.P.follows .mixedOrders = true := (mix_add env19_mix _ _)
end Cad

