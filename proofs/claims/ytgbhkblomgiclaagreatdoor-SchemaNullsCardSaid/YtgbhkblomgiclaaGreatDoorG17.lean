/- From what is handed in to plain data. From a contract over plain data to a law's statement. The laws' contracts. What the package variables hold when a law begins. -/
import Derived.Test.YtgbhkblomgiclaaGreatDoorG05
import Derived.Carry
import Derived.ChangeSame
import Derived.RowKit3
import Derived.WideKeyArgs
import Derived.Test.YtgbhkblomgiclaaGreatDoorG16
import Derived.Test.YtgbhkblomgiclaaGreatDoorRows
import Derived.OpenShut
import Derived.ProofKit
namespace Cad
open Go

abbrev U0 : Nat → Prop := fun _ => False
abbrev rhoN : Nat → Option Value := fun _ => none

def tyF (P : Program) (T : TypeId → Sh → Bool) : List Field → Nat → Sh → Bool
  | [], _, _ => false
  | [f], off, s => f.offset == off && (T f.type s && P.cellsOf f.type == s.size)
  | f :: fs, off, .pr a b => f.offset == off && (T f.type a && (P.cellsOf f.type == a.size && tyF P T fs (off + a.size) b))
  | _, _, _ => false

def isStrT (P : Program) (t : TypeId) : Bool := match P.underlying t with
  | some .string => P.cellsOf t == 1
  | _ => false

def isSlT (P : Program) (t e : TypeId) : Bool := match P.underlying t with
  | some (.slice u) => u == e && P.cellsOf t == 1
  | _ => false

/-- Is a type's layout a shape's? -/
def tyB (P : Program) : Nat → TypeId → Sh → Bool
  | 0, _, _ => false
  | n + 1, t, s => match P.underlying t, s with
    | some .bool, .bool => true
    | some (.int k), .int k' => k == k'
    | some .string, .str => true
    | some (.slice e), .sl s => P.cellsOf e == s.size && (decide (0 < s.size) && tyB P n e s)
    | some (.struct fs), .expr => match fs.toList with
      | [a, b, c, d] => P.cellsOf t == 6 && (a.offset == 0 && (b.offset == 1 && (c.offset == 4 && (d.offset == 5 && (isStrT P a.type && (isStrT P c.type && (isSlT P d.type t && (P.cellsOf b.type == 3 && tyB P n b.type (.pr (.int .i64) (.pr (.int .i64) .str))))))))))
      | _ => false
    | some (.struct fs), .pr a b => P.cellsOf t == (Sh.pr a b).size && tyF P (tyB P n) fs.toList 0 (.pr a b)
    | _, _ => false

section
variable {H : Type} {enc : TypeId × Value → H} {P : Program} {w : World} {sp : Nat → Bool} {held : Bool}

/-- What a reading of cells gives. -/
def Got (w : World) (s : Sh) (cs : List Value) : Prop := ∃ x : Sem s, RvL w U0 rhoN (explode s x) cs ∧ ∀ v ∈ cs, v.oneCell' = true

theorem mapM_cons_some {α β : Type} {f : α → Option β} {a : α} {l : List α} {r : List β} (h : (a :: l).mapM f = some r) : ∃ y ys, f a = some y ∧ l.mapM f = some ys ∧ r = y :: ys := by
  rw [List.mapM_cons] at h
  cases hy : f a with
  | none => rw [hy] at h; simp at h
  | some y =>
    cases hys : l.mapM f with
    | none => rw [hy, hys] at h; simp at h
    | some ys =>
      rw [hy, hys] at h
      simp at h
      exact ⟨y, ys, rfl, rfl, h.symm⟩

theorem mapM_mem {α β : Type} {f : α → Option β} : ∀ {l : List α} {r : List β}, l.mapM f = some r → ∀ x ∈ l, ∃ y, f x = some y
  | [], _, _, _, hx => by simp at hx
  | a :: l, r, h, x, hx => by
    obtain ⟨y, ys, h1, h2, _⟩ := mapM_cons_some h
    rcases List.mem_cons.1 hx with rfl | hx
    · exact ⟨y, h1⟩
    · exact mapM_mem h2 x hx

theorem mapM_get {α β : Type} {f : α → Option β} : ∀ {l : List α} {r : List β}, l.mapM f = some r → r.length = l.length ∧ ∀ (i : Nat) a, l[i]? = some a → f a = r[i]?
  | [], r, h => by simp at h; subst h; simp
  | a :: l, r, h => by
    obtain ⟨y, ys, h1, h2, rfl⟩ := mapM_cons_some h
    obtain ⟨h3, h4⟩ := mapM_get h2
    refine ⟨by simp [h3], fun i b hi => ?_⟩
    cases i with
    | zero => simp at hi; subst hi; simpa using h1
    | succ i => simpa using h4 i b (by simpa using hi)

theorem addr_add (a : Addr) (h : a.spot = none) (n : Nat) : a.add n = ⟨a.block, a.off + n, none⟩ := by
  obtain ⟨b, o, s⟩ := a
  simp only at h
  subst h
  unfold Addr.add
  split
  · rename_i h; subst h; rfl
  · rfl

theorem RvL.take {cs : List AV} {vs : List Value} (h : RvL w U0 rhoN cs vs) (n : Nat) : RvL w U0 rhoN (cs.take n) (vs.take n) := by
  refine ⟨by simp [h.len], fun j c v hc hv => ?_⟩
  rw [List.getElem?_take] at hc hv
  split at hc
  · rename_i hj
    rw [if_pos hj] at hv
    exact h.rv j c v hc hv
  · cases hc

theorem RvL.app {a b : List AV} {x y : List Value} (h : RvL w U0 rhoN a x) (h' : RvL w U0 rhoN b y) : RvL w U0 rhoN (a ++ b) (x ++ y) := by
  refine ⟨by simp [h.len, h'.len], fun j c v hc hv => ?_⟩
  by_cases hj : j < a.length
  · rw [List.getElem?_append_left hj] at hc
    rw [List.getElem?_append_left (by rw [← h.len]; exact hj)] at hv
    exact h.rv j c v hc hv
  · rw [List.getElem?_append_right (by omega)] at hc
    rw [List.getElem?_append_right (by rw [← h.len]; omega), ← h.len] at hv
    exact h'.rv _ c v hc hv

theorem RvL.one {c : AV} {v : Value} (h : Rv w U0 rhoN c v) : RvL w U0 rhoN [c] [v] := by
  refine ⟨rfl, fun j d u hd hu => ?_⟩
  cases j with
  | zero => simp at hd hu; subst hd; subst hu; exact h
  | succ j => simp at hd

/-- Fields, one behind the other. -/
theorem fields_got {fuel : Nat} {T : TypeId → Sh → Bool} (hT : ∀ t s cs d ps, T t s = true → DataW.trod enc P w 0 sp held fuel t cs = some (d, ps) → Got w s cs) {cs : List Value} :
    ∀ (fl : List Field) (off : Nat) (s : Sh) xs, tyF P T fl off s = true → (fl.mapM fun f => DataW.trod enc P w 0 sp held fuel f.type ((cs.drop f.offset).take (P.cellsOf f.type))) = some xs → Got w s ((cs.drop off).take s.size)
  | [], _, _, _, h, _ => by simp [tyF] at h
  | [f], off, s, xs, h, hm => by
    simp only [tyF, Bool.and_eq_true, beq_iff_eq] at h
    obtain ⟨h1, h2, h3⟩ := h
    obtain ⟨y, ys, hy, _, _⟩ := mapM_cons_some hm
    rw [h1, h3] at hy
    exact hT _ _ _ _ _ h2 hy
  | f :: g :: fs, off, .pr a b, xs, h, hm => by
    simp only [tyF, Bool.and_eq_true, beq_iff_eq] at h
    obtain ⟨h1, h2, h3, h4⟩ := h
    obtain ⟨y, ys, hy, hys, _⟩ := mapM_cons_some hm
    rw [h1, h3] at hy
    obtain ⟨x1, r1, o1⟩ := hT _ _ _ _ _ h2 hy
    obtain ⟨x2, r2, o2⟩ := fields_got hT (g :: fs) (off + a.size) b ys h4 hys
    have hl1 : ((cs.drop off).take a.size).length = a.size := by rw [← r1.len, explode_length]
    have hsplit : (cs.drop off).take (a.size + b.size) = (cs.drop off).take a.size ++ (cs.drop (off + a.size)).take b.size := by
      rw [List.take_add, List.drop_drop]
    refine ⟨(x1, x2), ?_, ?_⟩
    · show RvL w U0 rhoN (explode a x1 ++ explode b x2) ((cs.drop off).take (a.size + b.size))
      rw [hsplit]
      exact r1.app r2
    · intro v hv
      have hv : v ∈ (cs.drop off).take (a.size + b.size) := hv
      rw [hsplit, List.mem_append] at hv
      exact hv.elim (o1 v) (o2 v)
  | _ :: _ :: _, _, .unit, _, h, _ => by simp [tyF] at h
  | _ :: _ :: _, _, .bool, _, h, _ => by simp [tyF] at h
  | _ :: _ :: _, _, .int _, _, h, _ => by simp [tyF] at h
  | _ :: _ :: _, _, .str, _, h, _ => by simp [tyF] at h
  | _ :: _ :: _, _, .sl _, _, h, _ => by simp [tyF] at h
  | _ :: _ :: _, _, .expr, _, h, _ => by simp [tyF] at h

/-- A slice, element by element. -/
theorem slice_got {fuel : Nat} {t e : TypeId} {s : Sh} (ht : P.underlying t = some (.slice e)) (hc : P.cellsOf e = s.size) (hpos : 0 < s.size)
    (hT : ∀ cs d ps, DataW.trod enc P w 0 sp held fuel e cs = some (d, ps) → Got w s cs) {cs : List Value} {d : DataW H} {ps : List MemPlace} (h : DataW.trod enc P w 0 sp held (fuel + 1) t cs = some (d, ps)) : Got w (.sl s) cs := by
  unfold DataW.trod at h
  rw [ht] at h
  split at h
  all_goals first
    | (rename_i hu; cases hu; done)
    | (rename_i hu _; cases hu; done)
    | (simp at h; done)
    | skip
  · rename_i hu
    cases hu
    exact ⟨[], RvL.one (.sl0 s none 0), by simp [Value.oneCell']⟩
  · rename_i a len cap hu
    cases hu
    simp only [Nat.zero_le, true_and] at h
    split at h
    · rename_i hcond
      rw [Option.bind_eq_some_iff] at h
      obtain ⟨elems, he, _⟩ := h
      have hall : ∀ i, ∃ x : Sem s, i < len → ∃ ci, w.cells? 0 (a.add (i * s.size)) s.size = some ci ∧ RvL w U0 rhoN (explode s x) ci := by
        intro i
        by_cases hi : i < len
        · obtain ⟨y, hy⟩ := mapM_mem he i (by simpa using hi)
          rw [Option.bind_eq_some_iff] at hy
          obtain ⟨ci, h1, h2⟩ := hy
          obtain ⟨x, hx, _⟩ := hT ci y.1 y.2 h2
          rw [hc] at h1
          exact ⟨x, fun _ => ⟨ci, h1, hx⟩⟩
        · exact ⟨dflt s, fun h => (hi h).elim⟩
      obtain ⟨X, hX⟩ := Classical.axiomOfChoice hall
      have hmax : maxLen = maxStr := rfl
      cases len with
      | zero => exact ⟨[], RvL.one (.sl0 s (some a) cap), by simp [Value.oneCell']⟩
      | succ len =>
        have hcell : ∀ i, i < len + 1 → ∃ ci, ci.length = s.size ∧ (∀ j, j < s.size → w.cell? ((a.add (i * s.size)).add j) = ci[j]?) ∧ RvL w U0 rhoN (explode s (X i)) ci := by
          intro i hi
          obtain ⟨ci, h1, h2⟩ := hX i hi
          unfold World.cells? at h1
          rw [if_pos (Nat.zero_le _)] at h1
          obtain ⟨h3, h4⟩ := mapM_get h1
          refine ⟨ci, by simpa using h3, fun j hj => ?_, h2⟩
          exact h4 j j (by simp [List.getElem?_range, hj])
        have hspot : a.spot = none := by
          obtain ⟨ci, h1, h2, _⟩ := hcell 0 (by omega)
          have := h2 0 hpos
          simp only [Nat.zero_mul, Addr.add, if_true] at this
          rw [List.getElem?_eq_getElem (by omega)] at this
          unfold World.cell? at this
          split at this
          · split at this
            · cases this
            · rename_i hs
              cases hsp : a.spot with
              | none => rfl
              | some q => rw [hsp] at hs; simp at hs
          · cases this
        have hblk : a.block < w.heap.size := by
          obtain ⟨ci, h1, h2, _⟩ := hcell 0 (by omega)
          have := h2 0 hpos
          simp only [Nat.zero_mul, Addr.add, if_true] at this
          rw [List.getElem?_eq_getElem (by omega)] at this
          have ha : a = ⟨a.block, a.off, none⟩ := by rw [← hspot]
          rw [ha] at this
          exact cell_lt this
        have hci : ∀ i, ∃ ci : List Value, i < len + 1 → ci.length = s.size ∧ (∀ j, j < s.size → w.cell? ⟨a.block, a.off + i * s.size + j, none⟩ = ci[j]?) ∧ RvL w U0 rhoN (explode s (X i)) ci := by
          intro i
          by_cases hi : i < len + 1
          · obtain ⟨ci, h1, h2, h3⟩ := hcell i hi
            refine ⟨ci, fun _ => ⟨h1, fun j hj => ?_, h3⟩⟩
            rw [← h2 j hj, addr_add a hspot, addr_add _ rfl]
          · exact ⟨[], fun h => (hi h).elim⟩
        obtain ⟨Cs, hCs⟩ := Classical.axiomOfChoice hci
        let l : List (Sem s) := (List.range (len + 1)).map X
        have hl : l.length = len + 1 := by simp [l]
        have hget : ∀ i (hi : i < l.length), l[i] = X i := by intro i hi; simp [l]
        refine ⟨l, RvL.one ?_, by simp [Value.oneCell']⟩
        have ha : a = ⟨a.block, a.off, none⟩ := by rw [← hspot]
        rw [ha, ← hl]
        refine .sl s l a.block a.off cap (fun i j => ((Cs i)[j]?).getD undef) (by omega) (by omega) hblk (fun h => h) ?_ ?_
        · intro i j hi hj
          obtain ⟨h1, h2, _⟩ := hCs i (by omega)
          rw [h2 j hj, List.getElem?_eq_getElem (by omega)]
          rfl
        · intro i hi j c hc'
          obtain ⟨h1, _, h3⟩ := hCs i (by omega)
          rw [hget i hi] at hc'
          have hj : j < (Cs i).length := by
            have := (List.getElem?_eq_some_iff.1 hc').1
            rw [h3.len] at this
            exact this
          have := h3.rv j c _ hc' (List.getElem?_eq_getElem hj)
          rw [List.getElem?_eq_getElem hj]
          exact this
    · cases h

theorem str_got {fuel : Nat} {t : TypeId} (ht : P.underlying t = some .string) {cs : List Value} {d : DataW H} {ps : List MemPlace} (h : DataW.trod enc P w 0 sp held fuel t cs = some (d, ps)) : Got w .str cs := by
  cases fuel with
  | zero => simp [DataW.trod] at h
  | succ fuel =>
    unfold DataW.trod at h
    rw [ht] at h
    split at h
    all_goals first
      | (rename_i hu; cases hu; done)
      | (rename_i hu _; cases hu; done)
      | (simp at h; done)
      | skip
    rename_i s hu
    split at h
    · rename_i hs
      refine ⟨s.data.toList, RvL.one ?_, by simp [Value.oneCell']⟩
      have h9 : maxLen = maxStr := rfl
      have h8 : s.size = s.data.toList.length := rfl
      exact .str s.data.toList (by omega)
    · cases h

theorem isStrT_ok {t : TypeId} (h : isStrT P t = true) : P.underlying t = some .string ∧ P.cellsOf t = 1 := by
  unfold isStrT at h
  split at h
  · rename_i hu; exact ⟨hu, by simpa using h⟩
  · cases h

theorem isSlT_ok {t e : TypeId} (h : isSlT P t e = true) : P.underlying t = some (.slice e) ∧ P.cellsOf t = 1 := by
  unfold isSlT at h
  split at h
  · rename_i u hu
    simp only [Bool.and_eq_true, beq_iff_eq] at h
    rw [← h.1]
    exact ⟨hu, h.2⟩
  · cases h

theorem trod_got : ∀ (fuel n : Nat) (t : TypeId) (s : Sh) (cs : List Value) (d : DataW H) (ps : List MemPlace), tyB P n t s = true → DataW.trod enc P w 0 sp held fuel t cs = some (d, ps) → Got w s cs
  | 0, _, _, _, _, _, _, _, h => by simp [DataW.trod] at h
  | fuel + 1, 0, _, _, _, _, _, hty, _ => by simp [tyB] at hty
  | fuel + 1, n + 1, t, s, cs, d, ps, hty, h => by
    have h0 := h
    unfold tyB at hty
    split at hty
    · rename_i hu
      unfold DataW.trod at h
      rw [hu] at h
      split at h
      all_goals first
        | (rename_i hu'; cases hu'; done)
        | (rename_i hu' _; cases hu'; done)
        | (simp at h; done)
        | skip
      exact ⟨_, RvL.one (.bool _), by simp [Value.oneCell']⟩
    · rename_i k k' hu
      have hk : k = k' := by simpa using hty
      subst hk
      unfold DataW.trod at h
      rw [hu] at h
      split at h
      all_goals first
        | (rename_i hu'; cases hu'; done)
        | (rename_i hu' _; cases hu'; done)
        | (simp at h; done)
        | skip
      rename_i k1 k2 m hu'
      cases hu'
      split at h
      · rename_i hw
        obtain ⟨rfl, hw⟩ := hw
        simp only [Lit.wf, Bool.and_eq_true, decide_eq_true_eq] at hw
        exact ⟨m, RvL.one (.int _ _ ⟨hw.1, hw.2⟩), by simp [Value.oneCell']⟩
      · cases h
    · rename_i hu
      exact str_got hu h
    · rename_i e s hu
      simp only [Bool.and_eq_true, beq_iff_eq, decide_eq_true_eq] at hty
      exact slice_got hu hty.1 hty.2.1 (fun cs d ps h => trod_got fuel n e s cs d ps hty.2.2 h) h
    · rename_i fs hu
      split at hty
      · rename_i a b c d' hfs
        simp only [Bool.and_eq_true, beq_iff_eq] at hty
        obtain ⟨hsz, ha, hb, hc, hd, sa, sc, sd, zb, tb⟩ := hty
        obtain ⟨sa, za⟩ := isStrT_ok sa
        obtain ⟨sc, zc⟩ := isStrT_ok sc
        obtain ⟨sd, zd⟩ := isSlT_ok sd
        unfold DataW.trod at h
        rw [hu] at h
        simp only at h
        split at h
        · rename_i hlen
          rw [Option.map_eq_some_iff] at h
          obtain ⟨xs, hm, _⟩ := h
          rw [hfs] at hm
          obtain ⟨ya, r1, ya1, hm, _⟩ := mapM_cons_some hm
          obtain ⟨yb, r2, yb1, hm, _⟩ := mapM_cons_some hm
          obtain ⟨yc, r3, yc1, hm, _⟩ := mapM_cons_some hm
          obtain ⟨yd, r4, yd1, hm, _⟩ := mapM_cons_some hm
          rw [ha, za] at ya1
          rw [hb, zb] at yb1
          rw [hc, zc] at yc1
          rw [hd, zd] at yd1
          obtain ⟨xa, ga, oa⟩ := str_got sa ya1
          obtain ⟨xb, gb, ob⟩ := trod_got fuel n b.type _ _ _ _ tb yb1
          obtain ⟨xc, gc, oc⟩ := str_got sc yc1
          have hgd : Got w (.sl .expr) ((cs.drop 5).take 1) := by
            cases fuel with
            | zero => simp [DataW.trod] at yd1
            | succ fuel =>
              refine slice_got sd (by rw [hsz]; rfl) (by decide) (fun cs d ps h => trod_got fuel (n + 1) t .expr cs d ps ?_ h) yd1
              unfold tyB
              rw [hu]
              simp only [hfs, Bool.and_eq_true, beq_iff_eq]
              refine ⟨hsz, ha, hb, hc, hd, ?_, ?_, ?_, zb, tb⟩
              · simp [isStrT, sa, za]
              · simp [isStrT, sc, zc]
              · simp [isSlT, sd, zd]
          obtain ⟨xd, gd, od⟩ := hgd
          have hl6 : cs.length = 6 := by rw [hlen, hsz]
          have hcs : cs = (cs.drop 0).take 1 ++ ((cs.drop 1).take 3 ++ ((cs.drop 4).take 1 ++ (cs.drop 5).take 1)) := by
            match cs, hl6 with
            | [v0, v1, v2, v3, v4, v5], _ => rfl
          refine ⟨ExprT.mk xa xb xc xd, ?_, ?_⟩
          · have hr := ga.app (gb.app (gc.app gd))
            rw [← hcs] at hr
            exact hr
          · intro v hv
            rw [hcs] at hv
            simp only [List.mem_append] at hv
            rcases hv with hv | hv | hv | hv
            · exact oa v hv
            · exact ob v hv
            · exact oc v hv
            · exact od v hv
        · cases h
      · cases hty
    · rename_i fs a b hu
      simp only [Bool.and_eq_true, beq_iff_eq] at hty
      unfold DataW.trod at h
      rw [hu] at h
      simp only at h
      split at h
      · rename_i hlen
        rw [Option.map_eq_some_iff] at h
        obtain ⟨xs, hm, _⟩ := h
        have := fields_got (fun t s cs d ps h1 h2 => trod_got fuel n t s cs d ps h1 h2) fs.toList 0 (.pr a b) xs hty.2 hm
        rw [List.drop_zero, List.take_of_length_le (by rw [hlen, hty.1]; exact Nat.le_refl _)] at this
        exact this
      · cases h
    · cases hty
termination_by fuel => fuel

/-- An argument as plain data. -/
theorem arg_got {n : Nat} {t : TypeId} {s : Sh} {v : Value} {d : DataW H} {ps : List MemPlace} (hty : tyB P n t s = true) (h : DataW.Trod enc P w 0 sp held t v d ps) (hagg : (∃ cs, v = .agg cs) ↔ s.isAgg = true) (hsc : s.isAgg = false → v.cells = #[v]) : ∃ x : Sem s, Rv w U0 rhoN (datum s x) v := by
  obtain ⟨fuel, h⟩ := h
  obtain ⟨x, hr, ho⟩ := trod_got fuel n t s _ d ps hty h
  refine ⟨x, ?_⟩
  unfold datum
  cases hs : s.isAgg with
  | true =>
    obtain ⟨cs, rfl⟩ := hagg.2 hs
    simp only
    have := Rv.agg (w := w) (U := U0) (ρ := rhoN) (explode s x) cs.toList hr.len ho hr.rv
    simpa using this
  | false =>
    simp only
    rw [hsc hs] at hr
    have hlen := hr.len
    match he : explode s x, hlen with
    | [c], _ =>
      rw [he] at hr
      exact hr.rv 0 c v rfl rfl
end
end Cad

namespace Cad
open Go Go.RowKit Go.ChangeShapes

theorem kept_of_same {W W' : World} (hos : W'.os = W.os) (hout : W'.output = W.output) (h : ∀ b, b < W.heap.size → W'.heap[b]? = W.heap[b]?) (may : MemPlace → Prop) : W.keptBut W' may := by
  refine ⟨hos, hout, fun i hi => ?_⟩
  rw [h i hi]
  cases W.heap[i]? with
  | none => rfl
  | some o =>
    cases o with
    | cells c t fr => exact ⟨rfl, rfl, rfl, fun _ _ => rfl⟩
    | map es clock => exact .inr ⟨rfl, rfl⟩
    | _ => rfl

section
variable {H : Type} {enc : TypeId × Value → H} {P : Program}

/-- The end of a call that left all as it was, and answers true. -/
theorem post_of_old {f : Func} {s : ChangeSpec} {fresh handsOn again : Bool} {W W' : World} {args : Array Value} {v : Value} {ds gs : List (DataW H)} {before pa pv : List MemPlace}
    (hW : DataW.Whole enc P f.params.toList s.vars false W args.toList ds gs before)
    (hres : ∀ (b : Nat) (sp : Nat → Bool) (hd : Bool), DataW.TrodAll enc P W' b sp hd f.resultTypes.toList (v.resultList f.resultTypes.size) (s.fn H (ds ++ gs)).results [])
    (hargs : ∀ sp : Nat → Bool, (∀ p ∈ before, sp p.block = true) → DataW.TrodAll enc P W' 0 sp true f.params.toList args.toList (s.fn H (ds ++ gs)).args pa)
    (hvars : ∀ sp : Nat → Bool, (∀ p ∈ before, sp p.block = true) → DataW.TrodVars enc P W' sp s.vars (s.fn H (ds ++ gs)).vars pv)
    (hps : before = pa ++ pv) (hk : W.keptBut W' (· ∈ before)) (hfz : ∀ a : Addr, a.block < W.heap.size → W'.frozen? a = W.frozen? a)
    (hok : ∀ (j : Nat) (t : TypeId) (r : Value), f.resultTypes[j]? = some t → (v.resultList f.resultTypes.size)[j]? = some r → Value.okWide P W' .any 0 t r) :
    s.post enc P f false fresh handsOn again W args v W' := by
  have hold : ∀ p ∈ before, (fun b => decide (b < W.heap.size)) p.block = true := fun p hp => by simpa using hW.lt p hp
  have hlt := hW.lt
  refine ⟨ds, gs, before, [], pa, pv, hW, hres _ _ _, hargs _ hold, hvars _ hold, World.keptBut_mono (fun p hp => ⟨hp, ?_⟩) hk, fun _ => ?_⟩
  · rw [hps, List.mem_append] at hp
    exact Or.inr hp
  · obtain ⟨_, _, _, _, _, hz, hn⟩ := hW
    refine ⟨hok, _, _, ([] ++ pa) ++ pv, ⟨[] ++ pa, pv, trodAll_append (hargs _ (fun _ _ => rfl)) (hres _ _ _), hvars _ (fun _ _ => rfl), rfl, ?_, ?_⟩, ?_⟩
    · intro b off hp
      have hp' : MemPlace.cell b off ∈ before := by rw [hps]; simpa using hp
      rw [hfz ⟨b, off, none⟩ (hlt _ hp')]
      exact hz b off hp'
    · intro ha
      cases ha
    · intro p hp _
      rw [hps]
      simpa using hp

theorem ok_struct {W : World} {r : Go.Reach} {b : Nat} {t : TypeId} {fs : Array Field} {v : Value} (ht : P.underlying t = some (.struct fs)) (h : Value.okWide P W r b t v) : ∃ cs, v = .agg cs := by
  unfold Value.okWide at h
  rw [ht] at h
  obtain ⟨cs, rfl, _⟩ := h
  exact ⟨cs, rfl⟩

theorem ok_slice {W : World} {r : Go.Reach} {b : Nat} {t e : TypeId} {v : Value} (ht : P.underlying t = some (.slice e)) (h : Value.okWide P W r b t v) : ∃ a n c, v = .slice a n c := by
  unfold Value.okWide at h
  rw [ht] at h
  simp only at h
  unfold Cell.okWide at h
  rw [ht] at h
  unfold Cell.ok at h
  rw [ht] at h
  cases v <;> simp at h
  exact ⟨_, _, _, rfl⟩

theorem ok_int {W : World} {r : Go.Reach} {b : Nat} {t : TypeId} {k : IntKind} {v : Value} (ht : P.underlying t = some (.int k)) (h : Value.okWide P W r b t v) : ∃ n, v = .int k n := by
  unfold Value.okWide at h
  rw [ht] at h
  simp only at h
  unfold Cell.okWide at h
  rw [ht] at h
  unfold Cell.ok at h
  rw [ht] at h
  cases v <;> simp at h
  exact ⟨_, by rw [h.1]⟩

theorem got_struct {W : World} {r : Go.Reach} {b n : Nat} {t : TypeId} {fs : Array Field} {s : Sh} {v : Value} {d : DataW H} {ps : List MemPlace} (hty : tyB P n t s = true) (hs : s.isAgg = true) (ht : P.underlying t = some (.struct fs)) (hok : Value.okWide P W r b t v)
    (h : DataW.Trod enc P W 0 (fun _ => true) true t v d ps) : ∃ x : Sem s, Rv W U0 rhoN (datum s x) v := by
  refine arg_got hty h ⟨fun _ => hs, fun _ => ok_struct ht hok⟩ (fun h' => ?_)
  rw [hs] at h'; cases h'
theorem got_slice {W : World} {r : Go.Reach} {b n : Nat} {t e : TypeId} {s : Sh} {v : Value} {d : DataW H} {ps : List MemPlace} (hty : tyB P n t (.sl s) = true) (ht : P.underlying t = some (.slice e)) (hok : Value.okWide P W r b t v)
    (h : DataW.Trod enc P W 0 (fun _ => true) true t v d ps) : ∃ x : List (Sem s), Rv W U0 rhoN (.sl s x) v := by
  obtain ⟨a, m, c, rfl⟩ := ok_slice ht hok
  exact arg_got (s := .sl s) hty h ⟨(fun ⟨_, hh⟩ => (by cases hh)), (fun hh => (by cases hh))⟩ (fun _ => rfl)
theorem got_int {W : World} {r : Go.Reach} {b n : Nat} {t : TypeId} {k : IntKind} {v : Value} {d : DataW H} {ps : List MemPlace} (hty : tyB P n t (.int k) = true) (ht : P.underlying t = some (.int k)) (hok : Value.okWide P W r b t v)
    (h : DataW.Trod enc P W 0 (fun _ => true) true t v d ps) : ∃ x : Int, Rv W U0 rhoN (.int k x) v := by
  obtain ⟨m, rfl⟩ := ok_int ht hok
  exact arg_got (s := .int k) hty h ⟨(fun ⟨_, hh⟩ => (by cases hh)), (fun hh => (by cases hh))⟩ (fun _ => rfl)

/-- A call over plain data that answers a Bool leaves all that was there. -/
theorem calls_true {gl : Nat → AV} {k : FuncId} {F : FSem} (hF : FOk P gl k F) {W : World} {avs : List AV} {args : Array Value} (hgl : GlOk gl W U0) (hr : RvL W U0 rhoN avs args.toList) (hv : (F avs (fun _ => .dead) 0).val = some { val := .bool true }) (hid : AV.idsL avs = []) :
    Calls P k args W fun e W' => e = .returned (.bool true) ∧ Ext W W' ∧ ∀ b, b < W.heap.size → W'.heap[b]? = W.heap[b]? := by
  have := (hF.calls W U0 rhoN (fun _ => .dead) 0 avs args.toList _ [] hv hr (fun _ h => h.elim) hgl ⟨by simp, by simp⟩ (by rw [hid]; simp) (by simp) (by simp)).1
  rw [show args.toList.toArray = args by simp] at this
  refine this.mono ?_
  rintro e w' ⟨v, U', ρ', rfl, hef⟩
  have hv' := hef.val
  cases hv'
  exact ⟨rfl, hef.ext, fun b hb => hef.same b hb (by simp)⟩
end
end Cad

namespace Cad
open Go Go.Proofs Go.RowKit Go.ChangeShapes Go.WideShapes Go.ChangeAt Go.Proofs.YtgbhkblomgiclaaGreatDoor

theorem laidOut0 : laidOutB Tryz.prog = true := by kernel_rfl
theorem ty31 : tyB Tryz.prog 9 31 shTable = true := by kernel_rfl
theorem ty32 : tyB Tryz.prog 9 32 (.sl shVal) = true := by kernel_rfl
theorem ty29 : tyB Tryz.prog 9 29 .expr = true := by kernel_rfl
theorem ty5 : tyB Tryz.prog 9 5 (.int .u8) = true := by kernel_rfl
def isStructT (P : Program) (t : TypeId) : Bool := match P.underlying t with
  | some (.struct _) => true
  | _ => false
theorem isStructT_ok {P : Program} {t : TypeId} (h : isStructT P t = true) : ∃ fs, P.underlying t = some (.struct fs) := by
  unfold isStructT at h
  split at h
  · exact ⟨_, ‹_›⟩
  · cases h
theorem un31 : ∃ fs, Tryz.prog.underlying 31 = some (.struct fs) := isStructT_ok (by kernel_rfl)
theorem un29 : ∃ fs, Tryz.prog.underlying 29 = some (.struct fs) := isStructT_ok (by kernel_rfl)
theorem un32 : Tryz.prog.underlying 32 = some (.slice 26) := by kernel_rfl
theorem un5 : Tryz.prog.underlying 5 = some (.int .u8) := by kernel_rfl
theorem un4 : Tryz.prog.underlying 4 = some .bool := by kernel_rfl

theorem tr3 (t : Sem shTable) (row : List (Sem shVal)) (e : ExprT) : (F3 [datum shTable t, .sl shVal row, datum .expr e] (fun _ => .dead) 0).val =
    some { val := .bool (law3 (t.1, t.2.1, t.2.2.1, t.2.2.2.1, t.2.2.2.2.1, ExprT.mk t.2.2.2.2.2.op t.2.2.2.2.2.v t.2.2.2.2.2.s t.2.2.2.2.2.l) row (ExprT.mk e.op e.v e.s e.l)) } := by kernel_rfl

theorem stays {H : Type} {enc : TypeId × Value → H} {W W' : World} (hsame : ∀ b, b < W.heap.size → W'.heap[b]? = W.heap[b]?) {t : TypeId} {v : Value} {d : DataW H} {ps : List MemPlace} (hr : Tryz.prog.readableRec t = true) (hrow : t < Tryz.prog.types.size)
    (h : DataW.Trod enc Tryz.prog W 0 (fun _ => true) true t v d ps) (hlt : ∀ p ∈ ps, p.block < W.heap.size) {sp : Nat → Bool} (hs : ∀ p ∈ ps, sp p.block = true) : DataW.Trod enc Tryz.prog W' 0 sp true t v d ps :=
  WideElems.Trod_stays laidOut0 hr hrow h (fun p hp => by
    have h1 := hsame p.block (hlt p hp)
    cases p with
    | cell b off => exact World.cell?_of_block h1
    | map b => exact h1) hs

set_option maxRecDepth 100000 in
theorem contract3 (hg : FOk env33.P env33.gl 9 F9) {H : Type} {enc : TypeId × Value → H} {W : World} {base : Nat} {args : Array Value} {ds gs : List (DataW H)} {before : List MemPlace}
    (hval : ∀ (j : Nat) t v, Tryz.f3.params[j]? = some t → args[j]? = some v → Value.okWide Tryz.prog W .any base t v)
    (hW : DataW.Whole enc Tryz.prog Tryz.f3.params.toList Rows.schemaChecksSpec.vars false W args.toList ds gs before) (hgl : GlOk glOf W U0) :
    Calls Tryz.prog 3 args W fun e W' => ∃ v, e = .returned v ∧ Rows.schemaChecksSpec.post enc Tryz.prog Tryz.f3 false true false false W args v W' := by
  have hW' := hW
  obtain ⟨p, q, hA0, hV, rfl, hfz, hnd⟩ := hW
  have hA : DataW.TrodAll enc Tryz.prog W 0 (fun _ => true) true Tryz.f3.params.toList args.toList ds p := hA0
  have hpar : Tryz.f3.params = #[31, 32, 29] := by kernel_rfl
  rw [hpar] at hA
  obtain ⟨v0, v1, v2, d0, d1, d2, p0, p1, p2, rfl, rfl, rfl, h0, h1, h2⟩ := trodAll_three hA
  obtain ⟨rfl, rfl⟩ := trodVars_none hV
  have hlt := hW'.lt
  obtain ⟨f31, u31⟩ := un31
  obtain ⟨f29, u29⟩ := un29
  have q0 : Tryz.f3.params[0]? = some 31 := by rw [hpar]; rfl
  have q1 : Tryz.f3.params[1]? = some 32 := by rw [hpar]; rfl
  have q2 : Tryz.f3.params[2]? = some 29 := by rw [hpar]; rfl
  have e0 : (#[v0, v1, v2] : Array Value)[0]? = some v0 := by simp
  have e1 : (#[v0, v1, v2] : Array Value)[1]? = some v1 := by simp
  have e2 : (#[v0, v1, v2] : Array Value)[2]? = some v2 := by simp
  have k0 := hval 0 31 v0 q0 e0
  have k1 := hval 1 32 v1 q1 e1
  have k2 := hval 2 29 v2 q2 e2
  obtain ⟨t, rt⟩ := got_struct ty31 rfl u31 k0 h0
  obtain ⟨row, rr⟩ := got_slice ty32 un32 k1 h1
  obtain ⟨e, re⟩ := got_struct ty29 rfl u29 k2 h2
  have hv3 : (F3 [datum shTable t, .sl shVal row, datum .expr e] (fun _ => .dead) 0).val = some { val := .bool true } := by rw [tr3, law3_true]
  have hrv : RvL W U0 rhoN [datum shTable t, .sl shVal row, datum .expr e] (#[v0, v1, v2] : Array Value).toList := by
    refine ⟨rfl, fun j c v hc hv => ?_⟩
    match j, hc, hv with
    | 0, hc, hv => simp at hc hv; subst hc; subst hv; exact rt
    | 1, hc, hv => simp at hc hv; subst hc; subst hv; exact rr
    | 2, hc, hv => simp at hc hv; subst hc; subst hv; exact re
    | j + 3, hc, _ => simp at hc
  have hc := calls_true (FOk3 hg) (args := #[v0, v1, v2]) hgl hrv hv3 rfl
  refine hc.mono fun e' W' ⟨he, hext, hsame⟩ => ?_
  subst he
  have hmem : ∀ (p : MemPlace), p ∈ p0 ∨ p ∈ p1 ∨ p ∈ p2 → p ∈ p0 ++ p1 ++ p2 ++ [] := by
    intro p hp
    simp only [List.append_nil, List.mem_append]
    rcases hp with h | h | h
    · exact .inl (.inl h)
    · exact .inl (.inr h)
    · exact .inr h
  refine ⟨_, rfl, post_of_old (pa := p0 ++ (p1 ++ p2)) (pv := []) hW' (fun _ _ _ => trodAll_cons_mk (shut_bool un4 _) trodAll_mk0) (fun sp hsp => ?_) (fun _ _ => rfl) (by simp) (kept_of_same hext.os hext.out hsame _) hext.fr (ok_one (by kernel_rfl) rfl (okWide_bool_mk un4 _))⟩
  rw [hpar]
  exact trodAll_mk3 (stays hsame (by kernel_rfl) (of_decide_eq_true (by kernel_rfl)) h0 (fun p hp => hlt p (hmem p (.inl hp))) (fun p hp => hsp p (hmem p (.inl hp))))
    (stays hsame (by kernel_rfl) (of_decide_eq_true (by kernel_rfl)) h1 (fun p hp => hlt p (hmem p (.inr (.inl hp)))) (fun p hp => hsp p (hmem p (.inr (.inl hp)))))
    (stays hsame (by kernel_rfl) (of_decide_eq_true (by kernel_rfl)) h2 (fun p hp => hlt p (hmem p (.inr (.inr hp)))) (fun p hp => hsp p (hmem p (.inr (.inr hp)))))

theorem lFew2_len3 : ∀ (l : List (Sem shVal)) (i : Int) (a : List (Sem shVal)), (a.length : Int) ≤ i → i ≤ 14 → (lFew2_3 l i a).length ≤ 14
  | [], i, a, h1, h2 => by rw [lFew2_3]; omega
  | x :: r, i, a, h1, h2 => by
    rw [lFew2_3]
    split
    · rename_i h
      simp only [decide_eq_true_eq] at h
      exact lFew2_len3 r (i + 1) _ (by simp; omega) (by omega)
    · omega
theorem lFew2_len (l : List (Sem shVal)) : (lFew2 l).length ≤ 1000 := by
  have := lFew2_len3 l 0 [] (by simp) (by omega)
  unfold lFew2
  omega

theorem tr4a (t : Sem shTable) (row : List (Sem shVal)) (n : Int) : (F4 [datum shTable t, .sl shVal row, .int .u8 n] (fun _ => .dead) 0).val =
    (if law4C (t.1, t.2.1, t.2.2.1, t.2.2.2.1, t.2.2.2.2.1, ExprT.mk t.2.2.2.2.2.op t.2.2.2.2.2.v t.2.2.2.2.2.s t.2.2.2.2.2.l) row n = true then
      some { val := .bool (law4 (t.1, t.2.1, t.2.2.1, t.2.2.2.1, t.2.2.2.2.1, ExprT.mk t.2.2.2.2.2.op t.2.2.2.2.2.v t.2.2.2.2.2.s t.2.2.2.2.2.l) row n) } else none) := by kernel_rfl
theorem tr4 (t : Sem shTable) (row : List (Sem shVal)) (n : Int) (h0 : 0 ≤ n) (h1 : n ≤ 255) : (F4 [datum shTable t, .sl shVal row, .int .u8 n] (fun _ => .dead) 0).val = some { val := .bool true } := by
  rw [tr4a, if_pos (law4C_true _ _ _ h0 h1 (lFew2_len row)), law4_true _ _ _ h0 h1 (lFew2_len row)]

set_option maxRecDepth 100000 in
theorem contract4 (hg : FOk env33.P env33.gl 9 F9) {H : Type} {enc : TypeId × Value → H} {W : World} {base : Nat} {args : Array Value} {ds gs : List (DataW H)} {before : List MemPlace}
    (hval : ∀ (j : Nat) t v, Tryz.f4.params[j]? = some t → args[j]? = some v → Value.okWide Tryz.prog W .any base t v)
    (hW : DataW.Whole enc Tryz.prog Tryz.f4.params.toList Rows.schemaNullsSpec.vars false W args.toList ds gs before) (hgl : GlOk glOf W U0) :
    Calls Tryz.prog 4 args W fun e W' => ∃ v, e = .returned v ∧ Rows.schemaNullsSpec.post enc Tryz.prog Tryz.f4 false true false false W args v W' := by
  have hW' := hW
  obtain ⟨p, q, hA0, hV, rfl, hfz, hnd⟩ := hW
  have hA : DataW.TrodAll enc Tryz.prog W 0 (fun _ => true) true Tryz.f4.params.toList args.toList ds p := hA0
  have hpar : Tryz.f4.params = #[31, 32, 5] := by kernel_rfl
  rw [hpar] at hA
  obtain ⟨v0, v1, v2, d0, d1, d2, p0, p1, p2, rfl, rfl, rfl, h0, h1, h2⟩ := trodAll_three hA
  obtain ⟨rfl, rfl⟩ := trodVars_none hV
  have hlt := hW'.lt
  obtain ⟨f31, u31⟩ := un31
  have q0 : Tryz.f4.params[0]? = some 31 := by rw [hpar]; rfl
  have q1 : Tryz.f4.params[1]? = some 32 := by rw [hpar]; rfl
  have q2 : Tryz.f4.params[2]? = some 5 := by rw [hpar]; rfl
  have e0 : (#[v0, v1, v2] : Array Value)[0]? = some v0 := by simp
  have e1 : (#[v0, v1, v2] : Array Value)[1]? = some v1 := by simp
  have e2 : (#[v0, v1, v2] : Array Value)[2]? = some v2 := by simp
  have k0 := hval 0 31 v0 q0 e0
  have k1 := hval 1 32 v1 q1 e1
  have k2 := hval 2 5 v2 q2 e2
  obtain ⟨t, rt⟩ := got_struct ty31 rfl u31 k0 h0
  obtain ⟨row, rr⟩ := got_slice ty32 un32 k1 h1
  obtain ⟨e, re⟩ := got_int ty5 un5 k2 h2
  have hn : 0 ≤ e ∧ e ≤ 255 := by
    generalize v2 = vv at re
    cases re with
    | int _ _ h => exact ⟨h.1, h.2⟩
  have hv3 : (F4 [datum shTable t, .sl shVal row, .int .u8 e] (fun _ => .dead) 0).val = some { val := .bool true } := tr4 t row e hn.1 hn.2
  have hrv : RvL W U0 rhoN [datum shTable t, .sl shVal row, .int .u8 e] (#[v0, v1, v2] : Array Value).toList := by
    refine ⟨rfl, fun j c v hc hv => ?_⟩
    match j, hc, hv with
    | 0, hc, hv => simp at hc hv; subst hc; subst hv; exact rt
    | 1, hc, hv => simp at hc hv; subst hc; subst hv; exact rr
    | 2, hc, hv => simp at hc hv; subst hc; subst hv; exact re
    | j + 3, hc, _ => simp at hc
  have hc := calls_true (FOk4 hg) (args := #[v0, v1, v2]) hgl hrv hv3 rfl
  refine hc.mono fun e' W' ⟨he, hext, hsame⟩ => ?_
  subst he
  have hmem : ∀ (p : MemPlace), p ∈ p0 ∨ p ∈ p1 ∨ p ∈ p2 → p ∈ p0 ++ p1 ++ p2 ++ [] := by
    intro p hp
    simp only [List.append_nil, List.mem_append]
    rcases hp with h | h | h
    · exact .inl (.inl h)
    · exact .inl (.inr h)
    · exact .inr h
  refine ⟨_, rfl, post_of_old (pa := p0 ++ (p1 ++ p2)) (pv := []) hW' (fun _ _ _ => trodAll_cons_mk (shut_bool un4 _) trodAll_mk0) (fun sp hsp => ?_) (fun _ _ => rfl) (by simp) (kept_of_same hext.os hext.out hsame _) hext.fr (ok_one (by kernel_rfl) rfl (okWide_bool_mk un4 _))⟩
  rw [hpar]
  exact trodAll_mk3 (stays hsame (by kernel_rfl) (of_decide_eq_true (by kernel_rfl)) h0 (fun p hp => hlt p (hmem p (.inl hp))) (fun p hp => hsp p (hmem p (.inl hp))))
    (stays hsame (by kernel_rfl) (of_decide_eq_true (by kernel_rfl)) h1 (fun p hp => hlt p (hmem p (.inr (.inl hp)))) (fun p hp => hsp p (hmem p (.inr (.inl hp)))))
    (stays hsame (by kernel_rfl) (of_decide_eq_true (by kernel_rfl)) h2 (fun p hp => hlt p (hmem p (.inr (.inr hp)))) (fun p hp => hsp p (hmem p (.inr (.inr hp)))))
end Cad

namespace Cad
open Go Go.Proofs Go.RowKit Go.ChangeShapes Go.WideShapes Go.ChangeAt Go.Proofs.YtgbhkblomgiclaaGreatDoor

theorem laid_mem {P : Program} {w : World} : ∀ {l : List (String × DataW Unit)} {ps : List MemPlace}, DataW.LaidVars P w l ps → ∀ n d, (n, d) ∈ l →
    ∃ g t cs fuel p, P.globalNamed n = some g ∧ (P.globals[g]?).map (·.type) = some t ∧ w.var? P n = some cs ∧ DataW.trod (fun _ => ()) P w 0 (fun _ => true) false fuel t cs.toList = some (d, p)
  | [], _, _, _, _, h => by simp at h
  | (n0, d0) :: r, ps, h, n, d, hm => by
    obtain ⟨g, t, cs, fuel, p, q, h1, h2, h3, h4, h5, _⟩ := h
    rcases List.mem_cons.1 hm with e | hm
    · cases e
      exact ⟨g, t, cs, fuel, p, h1, h2, h3, h4⟩
    · exact laid_mem h5 n d hm

theorem laidMet_of_H {P : Program} {l : List (String × DataW Unit)} {w : World} (hf : (l.filter fun x => x.2.handleName?.isSome).isEmpty = true) (h : laidMetH P l w) : laidMet P l w := by
  unfold laidMetH at h
  split at h
  · exact h
  · rename_i a b hab
    rw [hab] at hf
    simp at hf

theorem trod_string {H : Type} {enc : TypeId × Value → H} {P : Program} {w : World} {base : Nat} {sp : Nat → Bool} {held : Bool} {fuel : Nat} {t : TypeId} (ht : P.underlying t = some .string) {cs : List Value} {b : List UInt8} {p : List MemPlace}
    (h : DataW.trod enc P w base sp held fuel t cs = some (.lit (.string b), p)) : cs = [.string ⟨b.toArray⟩] := by
  cases fuel with
  | zero => simp [DataW.trod] at h
  | succ fuel =>
    unfold DataW.trod at h
    rw [ht] at h
    split at h
    all_goals first
      | (rename_i hu; cases hu; done)
      | (rename_i hu _; cases hu; done)
      | (simp at h; done)
      | skip
    rename_i s hu
    split at h
    · simp only [Option.some.injEq, Prod.mk.injEq, DataW.lit.injEq, Lit.string.injEq] at h
      rw [← h.1]
    · cases h

/-- The three words, in the first block. -/
theorem types_cells {W : World} (h : laidMet Tryz.prog Rows.schemaChecksRow.laid W) : W.cell? ⟨0, 0, none⟩ = some (.string ⟨#[73, 78, 84]⟩) ∧ W.cell? ⟨0, 1, none⟩ = some (.string ⟨#[84, 69, 88, 84]⟩) ∧ W.cell? ⟨0, 2, none⟩ = some (.string ⟨#[66, 79, 79, 76]⟩) := by
  obtain ⟨ps, hL, _, _⟩ := h
  obtain ⟨g, t, cs, fuel, p, h1, h2, h3, h4⟩ := laid_mem hL "caddis/stmt.types" Rows.laid_caddis_stmt_types (by simp [Rows.schemaChecksRow])
  have hg : Tryz.prog.globalNamed "caddis/stmt.types" = some 0 := by kernel_rfl
  rw [hg] at h1
  cases h1
  have ht : (Tryz.prog.globals[0]?).map (·.type) = some 154 := by kernel_rfl
  rw [ht] at h2
  cases h2
  have hvar : ∃ T fr, W.heap[0]? = some (.cells cs T fr) := by
    unfold World.var? at h3
    rw [hg] at h3
    simp only [Option.bind_some] at h3
    split at h3
    · rename_i c T fr hh
      cases h3
      exact ⟨T, fr, hh⟩
    · cases h3
  obtain ⟨T, fr, hblk⟩ := hvar
  have hcell : ∀ j, W.cell? ⟨0, j, none⟩ = cs[j]? := by
    intro j
    unfold World.cell?
    rw [hblk]
    rfl
  have hu : Tryz.prog.underlying 154 = some (.array 3 9) := by kernel_rfl
  have hs9 : Tryz.prog.underlying 9 = some .string := by kernel_rfl
  have hc9 : Tryz.prog.cellsOf 9 = 1 := by kernel_rfl
  cases fuel with
  | zero => simp [DataW.trod] at h4
  | succ fuel =>
    unfold DataW.trod at h4
    rw [hu] at h4
    simp only at h4
    split at h4
    · rw [Option.map_eq_some_iff] at h4
      obtain ⟨xs, hm, hx⟩ := h4
      simp only [Prod.mk.injEq, Rows.laid_caddis_stmt_types, DataW.agg.injEq] at hx
      obtain ⟨hl, hg'⟩ := mapM_get hm
      match xs, hl, hx, hg' with
      | [x0, x1, x2], _, hx, hg' =>
        simp only [List.map_cons, List.map_nil, List.cons.injEq, and_true] at hx
        obtain ⟨⟨e0, e1, e2⟩, _⟩ := hx
        have g0 := hg' 0 0 rfl
        have g1 := hg' 1 1 rfl
        have g2 := hg' 2 2 rfl
        rw [hc9] at g0 g1 g2
        obtain ⟨y0, z0⟩ := x0
        obtain ⟨y1, z1⟩ := x1
        obtain ⟨y2, z2⟩ := x2
        simp only at e0 e1 e2
        subst e0; subst e1; subst e2
        have w0 := trod_string hs9 g0
        have w1 := trod_string hs9 g1
        have w2 := trod_string hs9 g2
        have k : ∀ (j : Nat) v, (cs.toList.drop (j * 1)).take 1 = [v] → cs[j]? = some v := by
          intro j v hv
          have := congrArg (·[0]?) hv
          simp only [List.getElem?_take, List.getElem?_drop] at this
          simpa using this
        exact ⟨by rw [hcell]; exact k 0 _ w0, by rw [hcell]; exact k 1 _ w1, by rw [hcell]; exact k 2 _ w2⟩
    · cases h4

theorem glOk_of {W : World} (h : W.cell? ⟨0, 0, none⟩ = some (.string ⟨#[73, 78, 84]⟩) ∧ W.cell? ⟨0, 1, none⟩ = some (.string ⟨#[84, 69, 88, 84]⟩) ∧ W.cell? ⟨0, 2, none⟩ = some (.string ⟨#[66, 79, 79, 76]⟩)) : GlOk glOf W U0 := by
  intro g
  match g with
  | 0 =>
    refine .eptr [.str [73, 78, 84], .str [84, 69, 88, 84], .str [66, 79, 79, 76]] 0 0 0 (fun j => match j with
      | 0 => .string ⟨#[73, 78, 84]⟩
      | 1 => .string ⟨#[84, 69, 88, 84]⟩
      | _ => .string ⟨#[66, 79, 79, 76]⟩) (cell_lt h.1) (fun h => h) ?_ ?_ ?_
    · intro j hj
      match j, hj with
      | 0, _ => exact h.1
      | 1, _ => exact h.2.1
      | 2, _ => exact h.2.2
    · intro j hj
      match j, hj with
      | 0, _ => rfl
      | 1, _ => rfl
      | 2, _ => rfl
    · intro j c hc
      match j, hc with
      | 0, hc => simp at hc; subst hc; exact .str [73, 78, 84] (by simp [maxStr])
      | 1, hc => simp at hc; subst hc; exact .str [84, 69, 88, 84] (by simp [maxStr])
      | 2, hc => simp at hc; subst hc; exact .str [66, 79, 79, 76] (by simp [maxStr])
      | j + 3, hc => simp at hc
  | g + 1 => exact .any _
end Cad

