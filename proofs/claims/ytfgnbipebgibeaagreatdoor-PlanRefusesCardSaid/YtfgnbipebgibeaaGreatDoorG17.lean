/- From what is handed in to plain data. From a contract over plain data to a law's statement. What the package variables hold when a law begins. Laws on a base and a statement: the contract. The law PlanRefuses holds. -/
import Derived.Test.YtfgnbipebgibeaaGreatDoorG08
import Derived.Carry
import Derived.ChangeSame
import Derived.RowKit3
import Derived.WideKeyArgs
import Derived.Test.YtfgnbipebgibeaaGreatDoorG05
import Derived.Test.YtfgnbipebgibeaaGreatDoorRows
import Derived.OpenShut
import Derived.ProofKit
import Derived.Test.YtfgnbipebgibeaaGreatDoorG10
import Derived.Test.YtfgnbipebgibeaaGreatDoorG13
import Derived.Test.YtfgnbipebgibeaaGreatDoorG15
import Derived.Test.YtfgnbipebgibeaaGreatDoorG16
namespace Cad
open Go

abbrev U0 : Nat → Prop := fun _ => False
abbrev rhoN : Nat → Option Value := fun _ => none

def tyF (P : Program) (T : TypeId → Sh → Bool) : List Field → Nat → Sh → Bool
  | [], _, _ => false
  | [f], off, s => f.offset == off && (T f.type s && P.cellsOf f.type == s.size)
  | f :: fs, off, .pr a b => f.offset == off && (T f.type a && (P.cellsOf f.type == a.size && tyF P T fs (off + a.size) b))
  | _, _, _ => false

def isStrT1 (P : Program) (t : TypeId) : Bool := match P.underlying t with
  | some .string => P.cellsOf t == 1
  | _ => false

def isSlT (P : Program) (t e : TypeId) : Bool := match P.underlying t with
  | some (.slice u) => u == e && P.cellsOf t == 1
  | _ => false

def tyB (P : Program) : Nat → TypeId → Sh → Bool
  | 0, _, _ => false
  | n + 1, t, s => match P.underlying t, s with
    | some .bool, .bool => true
    | some (.int k), .int k' => k == k'
    | some .string, .str => true
    | some (.slice e), .sl s => P.cellsOf e == s.size && (decide (0 < s.size) && tyB P n e s)
    | some (.struct fs), .expr => match fs.toList with
      | [a, b, c, d] => P.cellsOf t == 6 && (a.offset == 0 && (b.offset == 1 && (c.offset == 4 && (d.offset == 5 && (isStrT1 P a.type && (isStrT1 P c.type && (isSlT P d.type t && (P.cellsOf b.type == 3 && tyB P n b.type (.pr (.int .i64) (.pr (.int .i64) .str))))))))))
      | _ => false
    | some (.struct fs), .pr a b => P.cellsOf t == (Sh.pr a b).size && tyF P (tyB P n) fs.toList 0 (.pr a b)
    | _, _ => false

section
variable {H : Type} {enc : TypeId × Value → H} {P : Program} {w : World} {sp : Nat → Bool} {held : Bool}

def Got (w : World) (s : Sh) (cs : List Value) : Prop := ∃ x : Sem s, RvL w U0 rhoN (explode s x) cs ∧ ∀ v ∈ cs, v.oneCell' = true

theorem mapM_cons_some {α β : Type} {f : α → Option β} {a : α} {l : List α} {r : List β} (h : (a :: l).mapM f = some r) : ∃ y ys, f a = some y ∧ l.mapM f = some ys ∧ r = y :: ys := by
  rw [List.mapM_cons] at h
  cases hy : f a with
  | none => rw [hy] at h; simp at h
  | some y =>
    cases hys : l.mapM f with
    | none => rw [hy, hys] at h; simp at h
    | some ys =>
      rw [hy, hys] at h
      simp at h
      exact ⟨y, ys, rfl, rfl, h.symm⟩

theorem mapM_mem {α β : Type} {f : α → Option β} : ∀ {l : List α} {r : List β}, l.mapM f = some r → ∀ x ∈ l, ∃ y, f x = some y
  | [], _, _, _, hx => by simp at hx
  | a :: l, r, h, x, hx => by
    obtain ⟨y, ys, h1, h2, _⟩ := mapM_cons_some h
    rcases List.mem_cons.1 hx with rfl | hx
    · exact ⟨y, h1⟩
    · exact mapM_mem h2 x hx

theorem mapM_get {α β : Type} {f : α → Option β} : ∀ {l : List α} {r : List β}, l.mapM f = some r → r.length = l.length ∧ ∀ (i : Nat) a, l[i]? = some a → f a = r[i]?
  | [], r, h => by simp at h; subst h; simp
  | a :: l, r, h => by
    obtain ⟨y, ys, h1, h2, rfl⟩ := mapM_cons_some h
    obtain ⟨h3, h4⟩ := mapM_get h2
    refine ⟨by simp [h3], fun i b hi => ?_⟩
    cases i with
    | zero => simp at hi; subst hi; simpa using h1
    | succ i => simpa using h4 i b (by simpa using hi)

theorem addr_add (a : Addr) (h : a.spot = none) (n : Nat) : a.add n = ⟨a.block, a.off + n, none⟩ := by
  obtain ⟨b, o, s⟩ := a
  simp only at h
  subst h
  unfold Addr.add
  split
  · rename_i h; subst h; rfl
  · rfl

theorem RvL.take {cs : List AV} {vs : List Value} (h : RvL w U0 rhoN cs vs) (n : Nat) : RvL w U0 rhoN (cs.take n) (vs.take n) := by
  refine ⟨by simp [h.len], fun j c v hc hv => ?_⟩
  rw [List.getElem?_take] at hc hv
  split at hc
  · rename_i hj
    rw [if_pos hj] at hv
    exact h.rv j c v hc hv
  · cases hc

theorem RvL.appS {a b : List AV} {x y : List Value} (h : RvL w U0 rhoN a x) (h' : RvL w U0 rhoN b y) : RvL w U0 rhoN (a ++ b) (x ++ y) := by
  refine ⟨by simp [h.len, h'.len], fun j c v hc hv => ?_⟩
  by_cases hj : j < a.length
  · rw [List.getElem?_append_left hj] at hc
    rw [List.getElem?_append_left (by rw [← h.len]; exact hj)] at hv
    exact h.rv j c v hc hv
  · rw [List.getElem?_append_right (by omega)] at hc
    rw [List.getElem?_append_right (by rw [← h.len]; omega), ← h.len] at hv
    exact h'.rv _ c v hc hv

theorem RvL.one {c : AV} {v : Value} (h : Rv w U0 rhoN c v) : RvL w U0 rhoN [c] [v] := by
  refine ⟨rfl, fun j d u hd hu => ?_⟩
  cases j with
  | zero => simp at hd hu; subst hd; subst hu; exact h
  | succ j => simp at hd

theorem fields_got {fuel : Nat} {T : TypeId → Sh → Bool} (hT : ∀ t s cs d ps, T t s = true → DataW.trod enc P w 0 sp held fuel t cs = some (d, ps) → Got w s cs) {cs : List Value} :
    ∀ (fl : List Field) (off : Nat) (s : Sh) xs, tyF P T fl off s = true → (fl.mapM fun f => DataW.trod enc P w 0 sp held fuel f.type ((cs.drop f.offset).take (P.cellsOf f.type))) = some xs → Got w s ((cs.drop off).take s.size)
  | [], _, _, _, h, _ => by simp [tyF] at h
  | [f], off, s, xs, h, hm => by
    simp only [tyF, Bool.and_eq_true, beq_iff_eq] at h
    obtain ⟨h1, h2, h3⟩ := h
    obtain ⟨y, ys, hy, _, _⟩ := mapM_cons_some hm
    rw [h1, h3] at hy
    exact hT _ _ _ _ _ h2 hy
  | f :: g :: fs, off, .pr a b, xs, h, hm => by
    simp only [tyF, Bool.and_eq_true, beq_iff_eq] at h
    obtain ⟨h1, h2, h3, h4⟩ := h
    obtain ⟨y, ys, hy, hys, _⟩ := mapM_cons_some hm
    rw [h1, h3] at hy
    obtain ⟨x1, r1, o1⟩ := hT _ _ _ _ _ h2 hy
    obtain ⟨x2, r2, o2⟩ := fields_got hT (g :: fs) (off + a.size) b ys h4 hys
    have hl1 : ((cs.drop off).take a.size).length = a.size := by rw [← r1.len, explode_length]
    have hsplit : (cs.drop off).take (a.size + b.size) = (cs.drop off).take a.size ++ (cs.drop (off + a.size)).take b.size := by
      rw [List.take_add, List.drop_drop]
    refine ⟨(x1, x2), ?_, ?_⟩
    · show RvL w U0 rhoN (explode a x1 ++ explode b x2) ((cs.drop off).take (a.size + b.size))
      rw [hsplit]
      exact r1.appS r2
    · intro v hv
      have hv : v ∈ (cs.drop off).take (a.size + b.size) := hv
      rw [hsplit, List.mem_append] at hv
      exact hv.elim (o1 v) (o2 v)
  | _ :: _ :: _, _, .unit, _, h, _ => by simp [tyF] at h
  | _ :: _ :: _, _, .bool, _, h, _ => by simp [tyF] at h
  | _ :: _ :: _, _, .int _, _, h, _ => by simp [tyF] at h
  | _ :: _ :: _, _, .str, _, h, _ => by simp [tyF] at h
  | _ :: _ :: _, _, .sl _, _, h, _ => by simp [tyF] at h
  | _ :: _ :: _, _, .expr, _, h, _ => by simp [tyF] at h

theorem slice_got {fuel : Nat} {t e : TypeId} {s : Sh} (ht : P.underlying t = some (.slice e)) (hc : P.cellsOf e = s.size) (hpos : 0 < s.size)
    (hT : ∀ cs d ps, DataW.trod enc P w 0 sp held fuel e cs = some (d, ps) → Got w s cs) {cs : List Value} {d : DataW H} {ps : List MemPlace} (h : DataW.trod enc P w 0 sp held (fuel + 1) t cs = some (d, ps)) : Got w (.sl s) cs := by
  unfold DataW.trod at h
  rw [ht] at h
  split at h
  all_goals first
    | (rename_i hu; cases hu; done)
    | (rename_i hu _; cases hu; done)
    | (simp at h; done)
    | skip
  · rename_i hu
    cases hu
    exact ⟨[], RvL.one (.sl0 s none 0), by simp [Value.oneCell']⟩
  · rename_i a len cap hu
    cases hu
    simp only [Nat.zero_le, true_and] at h
    split at h
    · rename_i hcond
      rw [Option.bind_eq_some_iff] at h
      obtain ⟨elems, he, _⟩ := h
      have hall : ∀ i, ∃ x : Sem s, i < len → ∃ ci, w.cells? 0 (a.add (i * s.size)) s.size = some ci ∧ RvL w U0 rhoN (explode s x) ci := by
        intro i
        by_cases hi : i < len
        · obtain ⟨y, hy⟩ := mapM_mem he i (by simpa using hi)
          rw [Option.bind_eq_some_iff] at hy
          obtain ⟨ci, h1, h2⟩ := hy
          obtain ⟨x, hx, _⟩ := hT ci y.1 y.2 h2
          rw [hc] at h1
          exact ⟨x, fun _ => ⟨ci, h1, hx⟩⟩
        · exact ⟨dflt s, fun h => (hi h).elim⟩
      obtain ⟨X, hX⟩ := Classical.axiomOfChoice hall
      have hmax : maxLen = maxStr := rfl
      cases len with
      | zero => exact ⟨[], RvL.one (.sl0 s (some a) cap), by simp [Value.oneCell']⟩
      | succ len =>
        have hcell : ∀ i, i < len + 1 → ∃ ci, ci.length = s.size ∧ (∀ j, j < s.size → w.cell? ((a.add (i * s.size)).add j) = ci[j]?) ∧ RvL w U0 rhoN (explode s (X i)) ci := by
          intro i hi
          obtain ⟨ci, h1, h2⟩ := hX i hi
          unfold World.cells? at h1
          rw [if_pos (Nat.zero_le _)] at h1
          obtain ⟨h3, h4⟩ := mapM_get h1
          refine ⟨ci, by simpa using h3, fun j hj => ?_, h2⟩
          exact h4 j j (by simp [hj])
        have hspot : a.spot = none := by
          obtain ⟨ci, h1, h2, _⟩ := hcell 0 (by omega)
          have := h2 0 hpos
          simp only [Nat.zero_mul, Addr.add, if_true] at this
          rw [List.getElem?_eq_getElem (by omega)] at this
          unfold World.cell? at this
          split at this
          · split at this
            · cases this
            · rename_i hs
              cases hsp : a.spot with
              | none => rfl
              | some q => rw [hsp] at hs; simp at hs
          · cases this
        have hblk : a.block < w.heap.size := by
          obtain ⟨ci, h1, h2, _⟩ := hcell 0 (by omega)
          have := h2 0 hpos
          simp only [Nat.zero_mul, Addr.add, if_true] at this
          rw [List.getElem?_eq_getElem (by omega)] at this
          have ha : a = ⟨a.block, a.off, none⟩ := by rw [← hspot]
          rw [ha] at this
          exact cell_lt this
        have hci : ∀ i, ∃ ci : List Value, i < len + 1 → ci.length = s.size ∧ (∀ j, j < s.size → w.cell? ⟨a.block, a.off + i * s.size + j, none⟩ = ci[j]?) ∧ RvL w U0 rhoN (explode s (X i)) ci := by
          intro i
          by_cases hi : i < len + 1
          · obtain ⟨ci, h1, h2, h3⟩ := hcell i hi
            refine ⟨ci, fun _ => ⟨h1, fun j hj => ?_, h3⟩⟩
            rw [← h2 j hj, addr_add a hspot, addr_add _ rfl]
          · exact ⟨[], fun h => (hi h).elim⟩
        obtain ⟨Cs, hCs⟩ := Classical.axiomOfChoice hci
        let l : List (Sem s) := (List.range (len + 1)).map X
        have hl : l.length = len + 1 := by simp [l]
        have hget : ∀ i (hi : i < l.length), l[i] = X i := by intro i hi; simp [l]
        refine ⟨l, RvL.one ?_, by simp [Value.oneCell']⟩
        have ha : a = ⟨a.block, a.off, none⟩ := by rw [← hspot]
        rw [ha, ← hl]
        refine .sl s l a.block a.off cap (fun i j => ((Cs i)[j]?).getD undef) (by omega) (by omega) hblk (fun h => h) ?_ ?_
        · intro i j hi hj
          obtain ⟨h1, h2, _⟩ := hCs i (by omega)
          rw [h2 j hj, List.getElem?_eq_getElem (by omega)]
          rfl
        · intro i hi j c hc'
          obtain ⟨h1, _, h3⟩ := hCs i (by omega)
          rw [hget i hi] at hc'
          have hj : j < (Cs i).length := by
            have := (List.getElem?_eq_some_iff.1 hc').1
            rw [h3.len] at this
            exact this
          have := h3.rv j c _ hc' (List.getElem?_eq_getElem hj)
          rw [List.getElem?_eq_getElem hj]
          exact this
    · cases h

theorem str_got {fuel : Nat} {t : TypeId} (ht : P.underlying t = some .string) {cs : List Value} {d : DataW H} {ps : List MemPlace} (h : DataW.trod enc P w 0 sp held fuel t cs = some (d, ps)) : Got w .str cs := by
  cases fuel with
  | zero => simp [DataW.trod] at h
  | succ fuel =>
    unfold DataW.trod at h
    rw [ht] at h
    split at h
    all_goals first
      | (rename_i hu; cases hu; done)
      | (rename_i hu _; cases hu; done)
      | (simp at h; done)
      | skip
    rename_i s hu
    split at h
    · rename_i hs
      refine ⟨s.data.toList, RvL.one ?_, by simp [Value.oneCell']⟩
      have h9 : maxLen = maxStr := rfl
      have h8 : s.size = s.data.toList.length := rfl
      exact .str s.data.toList (by omega)
    · cases h

theorem isStrT1_ok {t : TypeId} (h : isStrT1 P t = true) : P.underlying t = some .string ∧ P.cellsOf t = 1 := by
  unfold isStrT1 at h
  split at h
  · rename_i hu; exact ⟨hu, by simpa using h⟩
  · cases h

theorem isSlT_ok {t e : TypeId} (h : isSlT P t e = true) : P.underlying t = some (.slice e) ∧ P.cellsOf t = 1 := by
  unfold isSlT at h
  split at h
  · rename_i u hu
    simp only [Bool.and_eq_true, beq_iff_eq] at h
    rw [← h.1]
    exact ⟨hu, h.2⟩
  · cases h

theorem trod_got : ∀ (fuel n : Nat) (t : TypeId) (s : Sh) (cs : List Value) (d : DataW H) (ps : List MemPlace), tyB P n t s = true → DataW.trod enc P w 0 sp held fuel t cs = some (d, ps) → Got w s cs
  | 0, _, _, _, _, _, _, _, h => by simp [DataW.trod] at h
  | fuel + 1, 0, _, _, _, _, _, hty, _ => by simp [tyB] at hty
  | fuel + 1, n + 1, t, s, cs, d, ps, hty, h => by
    have h0 := h
    unfold tyB at hty
    split at hty
    · rename_i hu
      unfold DataW.trod at h
      rw [hu] at h
      split at h
      all_goals first
        | (rename_i hu'; cases hu'; done)
        | (rename_i hu' _; cases hu'; done)
        | (simp at h; done)
        | skip
      exact ⟨_, RvL.one (.bool _), by simp [Value.oneCell']⟩
    · rename_i k k' hu
      have hk : k = k' := by simpa using hty
      subst hk
      unfold DataW.trod at h
      rw [hu] at h
      split at h
      all_goals first
        | (rename_i hu'; cases hu'; done)
        | (rename_i hu' _; cases hu'; done)
        | (simp at h; done)
        | skip
      rename_i k1 k2 m hu'
      cases hu'
      split at h
      · rename_i hw
        obtain ⟨rfl, hw⟩ := hw
        simp only [Lit.wf, Bool.and_eq_true, decide_eq_true_eq] at hw
        exact ⟨m, RvL.one (.int _ _ ⟨hw.1, hw.2⟩), by simp [Value.oneCell']⟩
      · cases h
    · rename_i hu
      exact str_got hu h
    · rename_i e s hu
      simp only [Bool.and_eq_true, beq_iff_eq, decide_eq_true_eq] at hty
      exact slice_got hu hty.1 hty.2.1 (fun cs d ps h => trod_got fuel n e s cs d ps hty.2.2 h) h
    · rename_i fs hu
      split at hty
      · rename_i a b c d' hfs
        simp only [Bool.and_eq_true, beq_iff_eq] at hty
        obtain ⟨hsz, ha, hb, hc, hd, sa, sc, sd, zb, tb⟩ := hty
        obtain ⟨sa, za⟩ := isStrT1_ok sa
        obtain ⟨sc, zc⟩ := isStrT1_ok sc
        obtain ⟨sd, zd⟩ := isSlT_ok sd
        unfold DataW.trod at h
        rw [hu] at h
        simp only at h
        split at h
        · rename_i hlen
          rw [Option.map_eq_some_iff] at h
          obtain ⟨xs, hm, _⟩ := h
          rw [hfs] at hm
          obtain ⟨ya, r1, ya1, hm, _⟩ := mapM_cons_some hm
          obtain ⟨yb, r2, yb1, hm, _⟩ := mapM_cons_some hm
          obtain ⟨yc, r3, yc1, hm, _⟩ := mapM_cons_some hm
          obtain ⟨yd, r4, yd1, hm, _⟩ := mapM_cons_some hm
          rw [ha, za] at ya1
          rw [hb, zb] at yb1
          rw [hc, zc] at yc1
          rw [hd, zd] at yd1
          obtain ⟨xa, ga, oa⟩ := str_got sa ya1
          obtain ⟨xb, gb, ob⟩ := trod_got fuel n b.type _ _ _ _ tb yb1
          obtain ⟨xc, gc, oc⟩ := str_got sc yc1
          have hgd : Got w (.sl .expr) ((cs.drop 5).take 1) := by
            cases fuel with
            | zero => simp [DataW.trod] at yd1
            | succ fuel =>
              refine slice_got sd (by rw [hsz]; rfl) (by decide) (fun cs d ps h => trod_got fuel (n + 1) t .expr cs d ps ?_ h) yd1
              unfold tyB
              rw [hu]
              simp only [hfs, Bool.and_eq_true, beq_iff_eq]
              refine ⟨hsz, ha, hb, hc, hd, ?_, ?_, ?_, zb, tb⟩
              · simp [isStrT1, sa, za]
              · simp [isStrT1, sc, zc]
              · simp [isSlT, sd, zd]
          obtain ⟨xd, gd, od⟩ := hgd
          have hl6 : cs.length = 6 := by rw [hlen, hsz]
          have hcs : cs = (cs.drop 0).take 1 ++ ((cs.drop 1).take 3 ++ ((cs.drop 4).take 1 ++ (cs.drop 5).take 1)) := by
            match cs, hl6 with
            | [v0, v1, v2, v3, v4, v5], _ => rfl
          refine ⟨ExprT.mk xa xb xc xd, ?_, ?_⟩
          · have hr := ga.appS (gb.appS (gc.appS gd))
            rw [← hcs] at hr
            exact hr
          · intro v hv
            rw [hcs] at hv
            simp only [List.mem_append] at hv
            rcases hv with hv | hv | hv | hv
            · exact oa v hv
            · exact ob v hv
            · exact oc v hv
            · exact od v hv
        · cases h
      · cases hty
    · rename_i fs a b hu
      simp only [Bool.and_eq_true, beq_iff_eq] at hty
      unfold DataW.trod at h
      rw [hu] at h
      simp only at h
      split at h
      · rename_i hlen
        rw [Option.map_eq_some_iff] at h
        obtain ⟨xs, hm, _⟩ := h
        have := fields_got (fun t s cs d ps h1 h2 => trod_got fuel n t s cs d ps h1 h2) fs.toList 0 (.pr a b) xs hty.2 hm
        rw [List.drop_zero, List.take_of_length_le (by rw [hlen, hty.1]; exact Nat.le_refl _)] at this
        exact this
      · cases h
    · cases hty
termination_by fuel => fuel

theorem arg_got {n : Nat} {t : TypeId} {s : Sh} {v : Value} {d : DataW H} {ps : List MemPlace} (hty : tyB P n t s = true) (h : DataW.Trod enc P w 0 sp held t v d ps) (hagg : (∃ cs, v = .agg cs) ↔ s.isAgg = true) (hsc : s.isAgg = false → v.cells = #[v]) : ∃ x : Sem s, Rv w U0 rhoN (datum s x) v := by
  obtain ⟨fuel, h⟩ := h
  obtain ⟨x, hr, ho⟩ := trod_got fuel n t s _ d ps hty h
  refine ⟨x, ?_⟩
  unfold datum
  cases hs : s.isAgg with
  | true =>
    obtain ⟨cs, rfl⟩ := hagg.2 hs
    simp only
    have := Rv.agg (w := w) (U := U0) (ρ := rhoN) (explode s x) cs.toList hr.len ho hr.rv
    simpa using this
  | false =>
    simp only
    rw [hsc hs] at hr
    have hlen := hr.len
    match he : explode s x, hlen with
    | [c], _ =>
      rw [he] at hr
      exact hr.rv 0 c v rfl rfl
end
open Go Go.RowKit Go.ChangeShapes

theorem kept_of_same {W W' : World} (hos : W'.os = W.os) (hout : W'.output = W.output) (h : ∀ b, b < W.heap.size → W'.heap[b]? = W.heap[b]?) (may : MemPlace → Prop) : W.keptBut W' may := by
  refine ⟨hos, hout, fun i hi => ?_⟩
  rw [h i hi]
  cases W.heap[i]? with
  | none => rfl
  | some o =>
    cases o with
    | cells c t fr => exact ⟨rfl, rfl, rfl, fun _ _ => rfl⟩
    | map es clock => exact .inr ⟨rfl, rfl⟩
    | _ => rfl

section
variable {H : Type} {enc : TypeId × Value → H} {P : Program}

theorem post_of_old {f : Func} {s : ChangeSpec} {fresh handsOn again : Bool} {W W' : World} {args : Array Value} {v : Value} {ds gs : List (DataW H)} {before pa pv : List MemPlace}
    (hW : DataW.Whole enc P f.params.toList s.vars false W args.toList ds gs before)
    (hres : ∀ (b : Nat) (sp : Nat → Bool) (hd : Bool), DataW.TrodAll enc P W' b sp hd f.resultTypes.toList (v.resultList f.resultTypes.size) (s.fn H (ds ++ gs)).results [])
    (hargs : ∀ sp : Nat → Bool, (∀ p ∈ before, sp p.block = true) → DataW.TrodAll enc P W' 0 sp true f.params.toList args.toList (s.fn H (ds ++ gs)).args pa)
    (hvars : ∀ sp : Nat → Bool, (∀ p ∈ before, sp p.block = true) → DataW.TrodVars enc P W' sp s.vars (s.fn H (ds ++ gs)).vars pv)
    (hps : before = pa ++ pv) (hk : W.keptBut W' (· ∈ before)) (hfz : ∀ a : Addr, a.block < W.heap.size → W'.frozen? a = W.frozen? a)
    (hok : ∀ (j : Nat) (t : TypeId) (r : Value), f.resultTypes[j]? = some t → (v.resultList f.resultTypes.size)[j]? = some r → Value.okWide P W' .any 0 t r) :
    s.post enc P f false fresh handsOn again W args v W' := by
  have hold : ∀ p ∈ before, (fun b => decide (b < W.heap.size)) p.block = true := fun p hp => by simpa using hW.lt p hp
  have hlt := hW.lt
  refine ⟨ds, gs, before, [], pa, pv, hW, hres _ _ _, hargs _ hold, hvars _ hold, World.keptBut_mono (fun p hp => ⟨hp, ?_⟩) hk, fun _ => ?_⟩
  · rw [hps, List.mem_append] at hp
    exact Or.inr hp
  · obtain ⟨_, _, _, _, _, hz, hn⟩ := hW
    refine ⟨hok, _, _, ([] ++ pa) ++ pv, ⟨[] ++ pa, pv, trodAll_append (hargs _ (fun _ _ => rfl)) (hres _ _ _), hvars _ (fun _ _ => rfl), rfl, ?_, ?_⟩, ?_⟩
    · intro b off hp
      have hp' : MemPlace.cell b off ∈ before := by rw [hps]; simpa using hp
      rw [hfz ⟨b, off, none⟩ (hlt _ hp')]
      exact hz b off hp'
    · intro ha
      cases ha
    · intro p hp _
      rw [hps]
      simpa using hp

theorem ok_struct {W : World} {r : Go.Reach} {b : Nat} {t : TypeId} {fs : Array Field} {v : Value} (ht : P.underlying t = some (.struct fs)) (h : Value.okWide P W r b t v) : ∃ cs, v = .agg cs := by
  unfold Value.okWide at h
  rw [ht] at h
  obtain ⟨cs, rfl, _⟩ := h
  exact ⟨cs, rfl⟩

theorem ok_slice {W : World} {r : Go.Reach} {b : Nat} {t e : TypeId} {v : Value} (ht : P.underlying t = some (.slice e)) (h : Value.okWide P W r b t v) : ∃ a n c, v = .slice a n c := by
  unfold Value.okWide at h
  rw [ht] at h
  simp only at h
  unfold Cell.okWide at h
  rw [ht] at h
  unfold Cell.ok at h
  rw [ht] at h
  cases v <;> simp at h
  exact ⟨_, _, _, rfl⟩

theorem got_struct {W : World} {r : Go.Reach} {b n : Nat} {t : TypeId} {fs : Array Field} {s : Sh} {v : Value} {d : DataW H} {ps : List MemPlace} (hty : tyB P n t s = true) (hs : s.isAgg = true) (ht : P.underlying t = some (.struct fs)) (hok : Value.okWide P W r b t v)
    (h : DataW.Trod enc P W 0 (fun _ => true) true t v d ps) : ∃ x : Sem s, Rv W U0 rhoN (datum s x) v := by
  refine arg_got hty h ⟨fun _ => hs, fun _ => ok_struct ht hok⟩ (fun h' => ?_)
  rw [hs] at h'; cases h'
theorem got_slice {W : World} {r : Go.Reach} {b n : Nat} {t e : TypeId} {s : Sh} {v : Value} {d : DataW H} {ps : List MemPlace} (hty : tyB P n t (.sl s) = true) (ht : P.underlying t = some (.slice e)) (hok : Value.okWide P W r b t v)
    (h : DataW.Trod enc P W 0 (fun _ => true) true t v d ps) : ∃ x : List (Sem s), Rv W U0 rhoN (.sl s x) v := by
  obtain ⟨a, m, c, rfl⟩ := ok_slice ht hok
  exact arg_got (s := .sl s) hty h ⟨(fun ⟨_, hh⟩ => (by cases hh)), (fun hh => (by cases hh))⟩ (fun _ => rfl)
theorem calls_true {gl : Nat → AV} {k : FuncId} {F : FSem} (hF : FOk P gl k F) {W : World} {avs : List AV} {args : Array Value} (hgl : GlOk gl W U0) (hr : RvL W U0 rhoN avs args.toList) (hv : (F avs (fun _ => .dead) 0).val = some { val := .bool true }) (hid : AV.idsL avs = []) :
    Calls P k args W fun e W' => e = .returned (.bool true) ∧ Ext W W' ∧ ∀ b, b < W.heap.size → W'.heap[b]? = W.heap[b]? := by
  have := (hF.calls W U0 rhoN (fun _ => .dead) 0 avs args.toList _ [] hv hr (fun _ h => h.elim) hgl ⟨by simp, by simp⟩ (by rw [hid]; simp) (by simp) (by simp)).1
  rw [show args.toList.toArray = args by simp] at this
  refine this.mono ?_
  rintro e w' ⟨v, U', ρ', rfl, hef⟩
  have hv' := hef.val
  cases hv'
  exact ⟨rfl, hef.ext, fun b hb => hef.same b hb (by simp)⟩
end
open Go Go.Proofs Go.RowKit Go.ChangeShapes Go.WideShapes Go.ChangeAt Go.Proofs.YtfgnbipebgibeaaGreatDoor

theorem laid_mem {P : Program} {w : World} : ∀ {l : List (String × DataW Unit)} {ps : List MemPlace}, DataW.LaidVars P w l ps → ∀ n d, (n, d) ∈ l →
    ∃ g t cs fuel p, P.globalNamed n = some g ∧ (P.globals[g]?).map (·.type) = some t ∧ w.var? P n = some cs ∧ DataW.trod (fun _ => ()) P w 0 (fun _ => true) false fuel t cs.toList = some (d, p)
  | [], _, _, _, _, h => by simp at h
  | (n0, d0) :: r, ps, h, n, d, hm => by
    obtain ⟨g, t, cs, fuel, p, q, h1, h2, h3, h4, h5, _⟩ := h
    rcases List.mem_cons.1 hm with e | hm
    · cases e
      exact ⟨g, t, cs, fuel, p, h1, h2, h3, h4⟩
    · exact laid_mem h5 n d hm

theorem laidMet_of_H {P : Program} {l : List (String × DataW Unit)} {w : World} (hf : (l.filter fun x => x.2.handleName?.isSome).isEmpty = true) (h : laidMetH P l w) : laidMet P l w := by
  unfold laidMetH at h
  split at h
  · exact h
  · rename_i a b hab
    rw [hab] at hf
    simp at hf

theorem trod_string {H : Type} {enc : TypeId × Value → H} {P : Program} {w : World} {base : Nat} {sp : Nat → Bool} {held : Bool} {fuel : Nat} {t : TypeId} (ht : P.underlying t = some .string) {cs : List Value} {b : List UInt8} {p : List MemPlace}
    (h : DataW.trod enc P w base sp held fuel t cs = some (.lit (.string b), p)) : cs = [.string ⟨b.toArray⟩] := by
  cases fuel with
  | zero => simp [DataW.trod] at h
  | succ fuel =>
    unfold DataW.trod at h
    rw [ht] at h
    split at h
    all_goals first
      | (rename_i hu; cases hu; done)
      | (rename_i hu _; cases hu; done)
      | (simp at h; done)
      | skip
    rename_i s hu
    split at h
    · simp only [Option.some.injEq, Prod.mk.injEq, DataW.lit.injEq, Lit.string.injEq] at h
      rw [← h.1]
    · cases h

theorem trod_u64 {H : Type} {enc : TypeId × Value → H} {P : Program} {w : World} {base : Nat} {sp : Nat → Bool} {held : Bool} {fuel : Nat} {t : TypeId} (ht : P.underlying t = some (.int .u64)) {cs : List Value} {z : Int} {p : List MemPlace}
    (h : DataW.trod enc P w base sp held fuel t cs = some (.lit (.int .u64 z), p)) : cs = [.int .u64 z] := by
  cases fuel with
  | zero => simp [DataW.trod] at h
  | succ fuel =>
    unfold DataW.trod at h
    rw [ht] at h
    split at h
    all_goals first
      | (rename_i hu; cases hu; done)
      | (rename_i hu _; cases hu; done)
      | (simp at h; done)
      | skip
    all_goals (try split at h)
    all_goals first
      | (cases h; done)
      | (simp at h; done)
      | skip
    all_goals simp_all

theorem arr_cells {W : World} {l : List (String × DataW Unit)} (h : laidMet Tryz.prog l W) {name : String} {g : Nat} {t e : TypeId} {len : Nat} {ds : List (DataW Unit)} (hm : (name, DataW.agg ds) ∈ l)
    (hg : Tryz.prog.globalNamed name = some g) (ht : (Tryz.prog.globals[g]?).map (·.type) = some t) (hu : Tryz.prog.underlying t = some (.array len e)) (hc : Tryz.prog.cellsOf e = 1) :
    ∃ cs T fr, W.heap[g]? = some (.cells cs T fr) ∧ ∀ (j : Nat) d, ds[j]? = some d → ∃ fuel p, DataW.trod (fun _ => ()) Tryz.prog W 0 (fun _ => true) false fuel e ((cs.toList.drop j).take 1) = some (d, p) := by
  obtain ⟨ps, hL, _, _⟩ := h
  obtain ⟨g', t', cs, fuel, p, h1, h2, h3, h4⟩ := laid_mem hL name _ hm
  rw [hg] at h1
  cases h1
  rw [ht] at h2
  cases h2
  have hvar : ∃ T fr, W.heap[g]? = some (.cells cs T fr) := by
    unfold World.var? at h3
    rw [hg] at h3
    simp only [Option.bind_some] at h3
    split at h3
    · rename_i c T fr hh
      cases h3
      exact ⟨T, fr, hh⟩
    · cases h3
  obtain ⟨T, fr, hblk⟩ := hvar
  refine ⟨cs, T, fr, hblk, ?_⟩
  cases fuel with
  | zero => simp [DataW.trod] at h4
  | succ fuel =>
    unfold DataW.trod at h4
    rw [hu] at h4
    simp only at h4
    split at h4
    · rw [Option.map_eq_some_iff] at h4
      obtain ⟨xs, hm', hx⟩ := h4
      simp only [Prod.mk.injEq, DataW.agg.injEq] at hx
      obtain ⟨hl, hg'⟩ := mapM_get hm'
      intro j d hj
      rw [← hx.1, List.getElem?_map, Option.map_eq_some_iff] at hj
      obtain ⟨⟨d', p'⟩, hj, rfl⟩ := hj
      have hjl : j < xs.length := (List.getElem?_eq_some_iff.1 hj).1
      have hr : (List.range len)[j]? = some j := by
        rw [List.getElem?_range]
        rw [hl, List.length_range] at hjl
        exact hjl
      have := hg' j j hr
      rw [hj, hc, Nat.mul_one] at this
      exact ⟨fuel, p', this⟩
    · cases h4

theorem take1 {cs : Array Value} {j : Nat} {v : Value} (h : (cs.toList.drop j).take 1 = [v]) : cs[j]? = some v := by
  have := congrArg (·[0]?) h
  simp only [List.getElem?_take, List.getElem?_drop] at this
  simpa using this

theorem gl0 {W : World} {l : List (String × DataW Unit)} (h : laidMet Tryz.prog l W) (hm : ("caddis/stmt.types", Rows.laid_caddis_stmt_types) ∈ l) : Rv W U0 rhoN (.eptr [.str [73, 78, 84], .str [84, 69, 88, 84], .str [66, 79, 79, 76]] 0) (.pointer (some ⟨0, 0, none⟩)) := by
  obtain ⟨cs, T, fr, hb, hd⟩ := arr_cells h (g := 0) (t := 233) (e := 9) (len := 3) hm (by kernel_rfl) (by kernel_rfl) (by kernel_rfl) (by kernel_rfl)
  have hs9 : Tryz.prog.underlying 9 = some .string := by kernel_rfl
  have hcell : ∀ j, W.cell? ⟨0, j, none⟩ = cs[j]? := by
    intro j
    unfold World.cell?
    rw [hb]
    rfl
  obtain ⟨_, _, g0⟩ := hd 0 _ rfl
  obtain ⟨_, _, g1⟩ := hd 1 _ rfl
  obtain ⟨_, _, g2⟩ := hd 2 _ rfl
  have w0 := take1 (trod_string hs9 g0)
  have w1 := take1 (trod_string hs9 g1)
  have w2 := take1 (trod_string hs9 g2)
  refine .eptr [.str [73, 78, 84], .str [84, 69, 88, 84], .str [66, 79, 79, 76]] 0 0 0 (fun j => match j with
    | 0 => .string ⟨#[73, 78, 84]⟩
    | 1 => .string ⟨#[84, 69, 88, 84]⟩
    | _ => .string ⟨#[66, 79, 79, 76]⟩) (cell_lt (by rw [hcell]; exact w0)) (fun h => h) ?_ ?_ ?_
  · intro j hj
    match j, hj with
    | 0, _ => rw [hcell]; exact w0
    | 1, _ => rw [hcell]; exact w1
    | 2, _ => rw [hcell]; exact w2
  · intro j hj
    match j, hj with
    | 0, _ => rfl
    | 1, _ => rfl
    | 2, _ => rfl
  · intro j c hc
    match j, hc with
    | 0, hc => simp at hc; subst hc; exact .str [73, 78, 84] (by simp [maxStr])
    | 1, hc => simp at hc; subst hc; exact .str [84, 69, 88, 84] (by simp [maxStr])
    | 2, hc => simp at hc; subst hc; exact .str [66, 79, 79, 76] (by simp [maxStr])
    | j + 3, hc => simp at hc

set_option maxRecDepth 100000 in
theorem gl2 {W : World} (h : W.ShapedOpen Tryz.prog) : Rv W U0 rhoN .gint (.pointer (some ⟨2, 0, none⟩)) := by
  have h0 : ((begin Tryz.prog (fun _ _ => 0) default).world.heap[2]?).bind Obj.row? = some (#[.int .i64 0], 3) := by kernel_rfl
  obtain ⟨cs, hh, hs, hr⟩ := h.1 2 _ _ (of_decide_eq_true (by kernel_rfl)) h0
  obtain ⟨ts, hts, _, hall⟩ := hr (by kernel_rfl)
  have hc : Tryz.prog.cellTypes Tryz.prog.depth 3 = some [3] := by kernel_rfl
  rw [hc] at hts
  cases hts
  have h1 : cs.size = 1 := hs
  obtain ⟨u, hu, hok⟩ := hall 0 cs[0] (by simp)
  have : u = 3 := by simpa using hu.symm
  subst this
  have hi : Tryz.prog.underlying 3 = some (.int .i64) := by kernel_rfl
  unfold Cell.ok at hok
  rw [hi] at hok
  have hcs : cs = #[cs[0]] := by
    apply Array.ext
    · simp [h1]
    · intro i h2 h3
      have : i = 0 := by omega
      subst this
      rfl
  cases hv : cs[0] <;> rw [hv] at hok <;> simp at hok
  rename_i k n
  obtain ⟨rfl, hn⟩ := hok
  refine .gint n 2 3 (0, 0) hn ?_ (fun h => h)
  rw [hh, hcs, hv]

theorem gl5 {W : World} {l : List (String × DataW Unit)} (h : laidMet Tryz.prog l W) (hs : W.ShapedOpen Tryz.prog) (hm : ("internal/strconv.uint64pow10", Rows.laid_internal_strconv_uint64pow10) ∈ l) : Rv W U0 rhoN (.tab .u64 pow10L) (.pointer (some ⟨5, 0, none⟩)) := by
  obtain ⟨cs, T, fr, hb, hd⟩ := arr_cells h (g := 5) (t := 297) (e := 279) (len := 20) hm (by kernel_rfl) (by kernel_rfl) (by kernel_rfl) (by kernel_rfl)
  have hu : Tryz.prog.underlying 279 = some (.int .u64) := by kernel_rfl
  have h0 : ((begin Tryz.prog (fun _ _ => 0) default).world.heap[5]?).bind Obj.row? = some (Array.replicate 20 (.int .u64 0), 297) := by kernel_rfl
  obtain ⟨cs', hh, hsz, _⟩ := hs.1 5 _ _ (of_decide_eq_true (by kernel_rfl)) h0
  rw [hb] at hh
  have hcs : cs = cs' := by simp only [Option.some.injEq, Obj.cells.injEq] at hh; exact hh.1
  have hlen : cs.size = 20 := by rw [hcs, hsz]; simp
  have key : cs = (pow10L.map fun z => Value.int .u64 z).toArray := by
    apply Array.ext
    · rw [hlen]; rfl
    · intro i h1 h2
      have hd' : ∀ (j : Nat) z, pow10L[j]? = some z → cs[j]? = some (.int .u64 z) := by
        intro j z hz
        obtain ⟨_, _, g⟩ := hd j (.lit (.int .u64 z)) (by
          have : (match (Rows.laid_internal_strconv_uint64pow10 : DataW Unit) with | .agg l => l | _ => []) = pow10L.map fun z => DataW.lit (.int .u64 z) := by kernel_rfl
          have e2 : (match (Rows.laid_internal_strconv_uint64pow10 : DataW Unit) with | .agg l => l | _ => [])[j]? = some (.lit (.int .u64 z)) := by
            rw [this, List.getElem?_map, hz]
            rfl
          exact e2)
        exact take1 (trod_u64 hu g)
      have hi : i < pow10L.length := by simpa using h2
      have := hd' i pow10L[i] (List.getElem?_eq_getElem hi)
      rw [Array.getElem?_eq_getElem h1, Option.some.injEq] at this
      rw [this, List.getElem_toArray, List.getElem_map]
  exact .tab .u64 pow10L 5 T fr (by rw [hb, key]) (fun h => h)

open Go Go.Proofs Go.RowKit Go.ChangeShapes Go.WideShapes Go.ChangeAt Go.Proofs.YtfgnbipebgibeaaGreatDoor

theorem laidOut0 : laidOutB Tryz.prog = true := by kernel_rfl
theorem ty22 : tyB Tryz.prog 9 22 (.sl shRel) = true := by kernel_rfl
theorem ty34 : tyB Tryz.prog 9 34 shStmt = true := by kernel_rfl
def isStructT (P : Program) (t : TypeId) : Bool := match P.underlying t with
  | some (.struct _) => true
  | _ => false
theorem isStructT_ok {P : Program} {t : TypeId} (h : isStructT P t = true) : ∃ fs, P.underlying t = some (.struct fs) := by
  unfold isStructT at h
  split at h
  · exact ⟨_, ‹_›⟩
  · cases h
theorem un34 : ∃ fs, Tryz.prog.underlying 34 = some (.struct fs) := isStructT_ok (by kernel_rfl)
theorem un22 : Tryz.prog.underlying 22 = some (.slice 43) := by kernel_rfl
theorem un4 : Tryz.prog.underlying 4 = some .bool := by kernel_rfl

theorem stays {H : Type} {enc : TypeId × Value → H} {W W' : World} (hsame : ∀ b, b < W.heap.size → W'.heap[b]? = W.heap[b]?) {t : TypeId} {v : Value} {d : DataW H} {ps : List MemPlace} (hr : Tryz.prog.readableRec t = true) (hrow : t < Tryz.prog.types.size)
    (h : DataW.Trod enc Tryz.prog W 0 (fun _ => true) true t v d ps) (hlt : ∀ p ∈ ps, p.block < W.heap.size) {sp : Nat → Bool} (hs : ∀ p ∈ ps, sp p.block = true) : DataW.Trod enc Tryz.prog W' 0 sp true t v d ps :=
  WideElems.Trod_stays laidOut0 hr hrow h (fun p hp => by
    have h1 := hsame p.block (hlt p hp)
    cases p with
    | cell b off => exact World.cell?_of_block h1
    | map b => exact h1) hs

theorem glOk_of {W : World} {l : List (String × DataW Unit)} (hL : laidMet Tryz.prog l W) (hs : W.ShapedOpen Tryz.prog) (h0 : ("caddis/stmt.types", Rows.laid_caddis_stmt_types) ∈ l) (h5 : ("internal/strconv.uint64pow10", Rows.laid_internal_strconv_uint64pow10) ∈ l) : GlOk glOf W U0 := by
  intro g
  match g with
  | 0 => exact gl0 hL h0
  | 1 => exact .any _
  | 2 => exact gl2 hs
  | 3 => exact .any _
  | 4 => exact .any _
  | 5 => exact gl5 hL hs h5
  | g + 6 => exact .any _

def tru2 : FSem := plainT [.sl shRel, shStmt] [.bool] fun _ => (true, ())
theorem tru2_val (db : List (Sem shRel)) (s : Sem shStmt) : (tru2 [.sl shRel db, datum shStmt s] (fun _ => .dead) 0).val = some { val := .bool true } := by kernel_rfl

theorem FOk_true2 {P : Program} {gl : Nat → AV} {k : FuncId} {c : List (Sem shRel) → Sem shStmt → Bool} {g : List (Sem shRel) → Sem shStmt → Bool} (h : FOk P gl k (plainC [.sl shRel, shStmt] [.bool] (fun x => c x.1 x.2.1) fun x => (g x.1 x.2.1, ())))
    (hc : ∀ db s, c db s = true) (hg : ∀ db s, g db s = true) : FOk P gl k tru2 := by
  refine FOk_T ?_
  rwa [show (fun x : HArgs (List.map some [.sl shRel, shStmt]) => c x.1 x.2.1) = fun _ => true from funext fun x => hc x.1 x.2.1,
    show (fun x : HArgs (List.map some [.sl shRel, shStmt]) => ((g x.1 x.2.1, ()) : HArgs (List.map some [Sh.bool]))) = fun _ => (true, ()) from funext fun x => by rw [hg x.1 x.2.1]] at h

set_option maxRecDepth 100000 in
theorem contract2 {k : FuncId} {f : Func} {s : ChangeSpec} (hF : FOk Tryz.prog glOf k tru2) (hpar : f.params = #[22, 34]) (hrt : f.resultTypes = #[4]) (hvars : s.vars = [])
    (hfn : ∀ (H : Type) (d0 d1 : DataW H), s.fn H [d0, d1] = { results := [.lit (.bool true)], args := [d0, d1] })
    {H : Type} {enc : TypeId × Value → H} {W : World} {base : Nat} {args : Array Value} {ds gs : List (DataW H)} {before : List MemPlace}
    (hval : ∀ (j : Nat) t v, f.params[j]? = some t → args[j]? = some v → Value.okWide Tryz.prog W .any base t v)
    (hW : DataW.Whole enc Tryz.prog f.params.toList s.vars false W args.toList ds gs before) (hgl : GlOk glOf W U0) :
    Calls Tryz.prog k args W fun e W' => ∃ v, e = .returned v ∧ s.post enc Tryz.prog f false true false false W args v W' := by
  have hW' := hW
  obtain ⟨p, q, hA0, hV, rfl, hfz, hnd⟩ := hW
  have hA : DataW.TrodAll enc Tryz.prog W 0 (fun _ => true) true f.params.toList args.toList ds p := hA0
  rw [hpar] at hA
  obtain ⟨v0, v1, d0, d1, p0, p1, rfl, rfl, rfl, h0, h1⟩ := trodAll_two hA
  rw [hvars] at hV
  obtain ⟨rfl, rfl⟩ := trodVars_none hV
  have hlt := hW'.lt
  obtain ⟨f34, u34⟩ := un34
  have q0 : f.params[0]? = some 22 := by rw [hpar]; rfl
  have q1 : f.params[1]? = some 34 := by rw [hpar]; rfl
  have e0 : (#[v0, v1] : Array Value)[0]? = some v0 := by simp
  have e1 : (#[v0, v1] : Array Value)[1]? = some v1 := by simp
  have k0 := hval 0 22 v0 q0 e0
  have k1 := hval 1 34 v1 q1 e1
  obtain ⟨db, rd⟩ := got_slice ty22 un22 k0 h0
  obtain ⟨st, rs⟩ := got_struct ty34 rfl u34 k1 h1
  have hrv : RvL W U0 rhoN [.sl shRel db, datum shStmt st] (#[v0, v1] : Array Value).toList := by
    refine ⟨rfl, fun j c v hc hv => ?_⟩
    match j, hc, hv with
    | 0, hc, hv => simp at hc hv; subst hc; subst hv; exact rd
    | 1, hc, hv => simp at hc hv; subst hc; subst hv; exact rs
    | j + 2, hc, _ => simp at hc
  have hc := calls_true hF (args := #[v0, v1]) hgl hrv (tru2_val db st) rfl
  refine hc.mono fun e' W' ⟨he, hext, hsame⟩ => ?_
  subst he
  have hmem : ∀ (p : MemPlace), p ∈ p0 ∨ p ∈ p1 → p ∈ p0 ++ p1 ++ [] := by
    intro p hp
    simp only [List.append_nil, List.mem_append]
    exact hp
  have hf2 : s.fn H ([d0, d1] ++ []) = { results := [.lit (.bool true)], args := [d0, d1] } := hfn H d0 d1
  refine ⟨_, rfl, post_of_old (pa := p0 ++ p1) (pv := []) hW' (fun _ _ _ => ?_) (fun sp hsp => ?_) (fun _ _ => ?_) (by simp) (kept_of_same hext.os hext.out hsame _) hext.fr (ok_one hrt rfl (okWide_bool_mk un4 _))⟩
  · rw [hf2, hrt]
    exact trodAll_cons_mk (shut_bool un4 _) trodAll_mk0
  · rw [hf2, hpar]
    exact trodAll_mk2 (stays hsame (by kernel_rfl) (of_decide_eq_true (by kernel_rfl)) h0 (fun p hp => hlt p (hmem p (.inl hp))) (fun p hp => hsp p (hmem p (.inl hp))))
      (stays hsame (by kernel_rfl) (of_decide_eq_true (by kernel_rfl)) h1 (fun p hp => hlt p (hmem p (.inr hp))) (fun p hp => hsp p (hmem p (.inr hp))))
  · rw [hf2, hvars]
    rfl
open Go Go.Proofs
set_option maxHeartbeats 4000000

theorem r8Find_2_eq (s : Str) : ∀ (l : List (Sem shRel)) (i : Nat), r8Find_2 s l (i : Int) = ixFrom (fun x : Sem shRel => x.1.1 == s) l i
  | [], _ => rfl
  | x :: r, i => by
    rw [r8Find_2, ixFrom]
    have h := r8Find_2_eq s r (i + 1)
    have e : (((i + 1 : Nat)) : Int) = (i : Int) + 1 := by omega
    rw [e] at h
    by_cases hx : (x.1.1 == s) = true
    · rw [if_pos hx, if_pos hx]
    · rw [if_neg hx, if_neg hx, h]
theorem r8Find_eq (l : List (Sem shRel)) (s : Str) : r8Find l s = bFind l s := r8Find_2_eq s l 0

theorem awakeC_true : awakeC = true := by unfold awakeC; rw [awake_true]; rfl
theorem awake_is : awake = true := by unfold awake; rw [awake_true]; rfl

theorem i4_eq (x0 : Sem shRel.sl) (x1 : Sem shStmt) : i4p x0 x1 = (let a1 := l5Few x1
    let a3 := a1.1 == [106, 111, 105, 110]
    let a4 := pOf (l8Few x0) a1
    let a5 := a4.2 == 1
    let a6 := (List.length a4.1.2.2.2.1.2.1 : Int) == 0
    let a7 := r8Find (l8Few x0) a1.2.1
    let a8 := r8Find (l8Few x0) a1.2.2.1
    let a9 := r8Find (l8Few x0) a1.2.2.2.2.2.2.2.2.2.2.2.2
    let a10 := !bif decide (a7 ≥ 0) then true else bif decide (a8 < 0) then true else bif a3 then decide (a9 < 0) else false
    let a11 := a4.2 != 0
    i4pz x0 x1 x1 a1 a1 a3 a4 a5 a6 a7 a8 a9 a10 a11) := by
  unfold i4p
  simp only [etaE_eq]

theorem lRefuses_ok (x0 : Sem shRel.sl) (x1 : Sem shStmt) : lRefusesO x0 x1 = some (true, ()) := by
  obtain ⟨db, d1, d2, d3⟩ := l8Few_ok x0
  obtain ⟨s, s1, s2⟩ := l5Few_ok x1
  have hdb : l8Few x0 = db := by unfold l8Few; rw [d1]; rfl
  have hdc : l8FewC x0 = true := by unfold l8FewC; rw [d1]; rfl
  have hs : l5Few x1 = s := by unfold l5Few; rw [s1]; rfl
  have hsc : l5FewC x1 = true := by unfold l5FewC; rw [s1]; rfl
  obtain ⟨p, e, h1, h2, h3, h4⟩ := pOf_ok d3 d2 s2
  have hp : pOf db s = (p, e) := by unfold pOf; rw [h1]; rfl
  have hpc : pOfC db s = true := by unfold pOfC; rw [h1]; rfl
  unfold lRefusesO outT runT
  rw [i4_eq]
  simp only [i4pz, Tr.val, hdb, hdc, hs, hsc, hp, hpc, awakeC_true, awake_is, r8Find_eq, if_true]
  by_cases hm : isMig s.1
  · have hmb : (bif !s.1 == [99, 111, 112, 121] then bif !s.1 == [106, 111, 105, 110] then !s.1 == [103, 114, 111, 117, 112] else false else false) = false := by
      rcases hm with h | h | h <;> rw [h] <;> rfl
    simp only [hmb]
    by_cases he : e = 0
    · obtain ⟨_, hparts, y, z, hsrc, _⟩ := h4 he
      have k1 : (0 : Int) ≤ bFind db s.2.2.1 := hsrc.1
      have k2 : s.2.2.2.2.2.2.2.2.2.2.2.2 = [] ∨ (0 : Int) ≤ bFind db s.2.2.2.2.2.2.2.2.2.2.2.2 := hsrc.2.1
      have k3 : LT.lt (α := Int) (bFind db s.2.1) 0 := hsrc.2.2.1
      have k4 : (!bif decide (bFind db s.2.1 ≥ 0) then true else bif decide (bFind db s.2.2.1 < 0) then true else bif s.1 == [106, 111, 105, 110] then decide (bFind db s.2.2.2.2.2.2.2.2.2.2.2.2 < 0) else false) = true := by
        have e1 : decide (bFind db s.2.1 ≥ 0) = false := decide_eq_false (by show ¬ ((0 : Int) ≤ bFind db s.2.1); omega)
        have e2 : decide (bFind db s.2.2.1 < 0) = false := decide_eq_false (by show ¬ LT.lt (α := Int) (bFind db s.2.2.1) 0; omega)
        rw [e1, e2]
        cases hj : (s.1 == [106, 111, 105, 110])
        · rfl
        · have hj' : s.1 = [106, 111, 105, 110] := eq_of_beq hj
          have hr := join_role hparts hj'
          have k5 := k2.resolve_left hr
          have e3 : decide (bFind db s.2.2.2.2.2.2.2.2.2.2.2.2 < 0) = false := decide_eq_false (by show ¬ LT.lt (α := Int) (bFind db s.2.2.2.2.2.2.2.2.2.2.2.2) 0; omega)
          rw [e3]; rfl
      simp only [k4]
      rfl
    · have heb : (e != 0) = true := by simpa using he
      simp only [heb]
      cases (!bif decide (bFind db s.2.1 ≥ 0) then true else bif decide (bFind db s.2.2.1 < 0) then true else bif s.1 == [106, 111, 105, 110] then decide (bFind db s.2.2.2.2.2.2.2.2.2.2.2.2 < 0) else false) <;> rfl
  · obtain ⟨rfl, rfl⟩ := h2 hm
    have hmb : (bif !s.1 == [99, 111, 112, 121] then bif !s.1 == [106, 111, 105, 110] then !s.1 == [103, 114, 111, 117, 112] else false else false) = true := by
      have h1 : (s.1 == [99, 111, 112, 121]) = false := by
        cases h : (s.1 == [99, 111, 112, 121])
        · rfl
        · exact absurd (Or.inl (eq_of_beq h)) hm
      have h2 : (s.1 == [106, 111, 105, 110]) = false := by
        cases h : (s.1 == [106, 111, 105, 110])
        · rfl
        · exact absurd (Or.inr (Or.inl (eq_of_beq h))) hm
      have h3 : (s.1 == [103, 114, 111, 117, 112]) = false := by
        cases h : (s.1 == [103, 114, 111, 117, 112])
        · rfl
        · exact absurd (Or.inr (Or.inr (eq_of_beq h))) hm
      rw [h1, h2, h3]; rfl
    simp only [hmb]
    rfl

theorem same82P : env82.P = Tryz.prog := rfl
theorem same82g : env82.gl = glOf := rfl
theorem refuses_holds : FOk Tryz.prog glOf 4 tru2 := by
  have h := FOk4p
  rw [same82P, same82g] at h
  exact FOk_true2 h (fun db s => by unfold lRefusesC; rw [lRefuses_ok]; rfl) (fun db s => by unfold lRefuses; rw [lRefuses_ok]; rfl)
end Cad
