/- What each operation says: all of them. Regions: one operation behind the other. Regions whose order is drawn: where operations that get in one another's way are ordered, every order comes to the same. Regions whose order is drawn: every order comes to the same. Regions whose order is drawn: the step, and the whole. A whole region; what is kept at a loop's head; the run. -/
import Derived.Test.YtfgnbipebgibeaaGreatDoorG02
import Derived.Orders
namespace Cad
open Go
section
variable {w : World} {U : Nat → Prop} {ρ : Nat → Option Value}

def GlOk (gl : Nat → AV) (w : World) (U : Nat → Prop) : Prop := ∀ g, Rv w U (fun _ => none) (gl g) (.pointer (some ⟨g, 0, none⟩))

structure FOk (P : Program) (gl : Nat → AV) (k : FuncId) (F : FSem) : Prop where
  fn : ∃ fn, P.funcs[k]? = some fn ∧ (fn.name == "runtime.NumGoroutine") = false ∧ fn.body.isNone = false
  calls : ∀ (w : World) (U : Nat → Prop) (ρ : Nat → Option Value) (hp : Nat → AO) (n : Nat) (args : List AV) (vals : List Value) (f : Eff) (fp : List Nat), (F args hp n).val = some f →
    RvL w U ρ args vals → (∀ b, U b → b < w.heap.size) → GlOk gl w U → FpOk w U ρ hp fp → (∀ id ∈ AV.idsL args, id ∈ fp) → (∀ id ∈ fp, ∀ j ∈ (hp id).ids, j ∈ fp) → (∀ j, j < f.nw.length → ρ (n + j) = none) →
    Calls P k vals.toArray w (fun e w' => ∃ v U' ρ', e = .returned v ∧ Ef n hp f w U ρ v w' U' ρ') ∧ ∀ id o, (id, o) ∈ f.wr → id ∈ fp

structure EnvAll (E : Env) : Prop extends EnvOk E where
  fs : ∀ k F, E.F k = some F → FOk E.P E.gl k F

theorem partIds_ids {v : AV} {id : Nat} (h : id ∈ partIds v) : id ∈ v.ids := by
  have hl : ∀ cs : List AV, id ∈ cs.flatMap vecIds → id ∈ AV.idsL cs := by
    intro cs
    induction cs with
    | nil => simp
    | cons c cs ih =>
      intro h
      simp only [List.flatMap_cons, List.mem_append] at h
      simp only [AV.idsL, List.mem_append]
      rcases h with h | h
      · left
        cases c <;> simp [vecIds] at h
        subst h; simp [AV.ids]
      · exact .inr (ih h)
  unfold partIds at h
  split at h
  · rename_i cs hcs
    cases v <;> simp only [cellsOf, Option.some.injEq, reduceCtorEq] at hcs <;> (try subst hcs)
    case agg cs => simp only [AV.ids]; exact hl _ h
    case vec id' => simp [vecIds] at h; subst h; simp [AV.ids]
    all_goals simp [vecIds] at h
  · simp at h

theorem idsL_mem {cs : List AV} {c : AV} {id : Nat} (hc : c ∈ cs) (h : id ∈ c.ids) : id ∈ AV.idsL cs := by
  induction cs with
  | nil => simp at hc
  | cons x cs ih =>
    simp only [AV.idsL, List.mem_append]
    rcases List.mem_cons.1 hc with rfl | hc
    · exact .inl h
    · exact .inr (ih hc)

theorem idsL_of {cs : List AV} {id : Nat} (h : id ∈ AV.idsL cs) : ∃ c ∈ cs, id ∈ c.ids := by
  induction cs with
  | nil => simp [AV.idsL] at h
  | cons x cs ih =>
    simp only [AV.idsL, List.mem_append] at h
    rcases h with h | h
    · exact ⟨x, by simp, h⟩
    · obtain ⟨c, hc, hi⟩ := ih h
      exact ⟨c, by simp [hc], hi⟩

theorem wp_value {P : Program} {o : Oper} {a : Act} {K : Act → World → Prop} {Q : Exit → Act → World → Prop} {v : Value} {w' : World} (h : (execOp a.eval o).run P w = .ok (.value v) w') (hk : K (a.put o.dst v) w') : o.wp P a w K Q := by
  rw [Oper.wp, h]; exact hk

theorem wp_skip' {P : Program} {o : Oper} {a : Act} {K : Act → World → Prop} {Q : Exit → Act → World → Prop} {w' : World} (h : (execOp a.eval o).run P w = .ok .skip w') (hk : K (a.put o.dst undef) w') : o.wp P a w K Q := by
  rw [Oper.wp, h]; exact hk

theorem rvL_map {ev : Operand → AV} {g : Operand → Value} : ∀ (xs : List Operand), (∀ x ∈ xs, Rv w U ρ (ev x) (g x)) → RvL w U ρ (xs.map ev) (xs.map g)
  | [], _ => ⟨rfl, by simp⟩
  | x :: xs, h => by
    have ih := rvL_map xs (fun y hy => h y (by simp [hy]))
    refine ⟨by simp, fun j c v hc hv => ?_⟩
    cases j with
    | zero => simp at hc hv; subst hc; subst hv; exact h x (by simp)
    | succ j => exact ih.rv j c v (by simpa using hc) (by simpa using hv)

theorem RvL.append {a b : List AV} {x y : List Value} (h : RvL w U ρ a x) (h' : RvL w U ρ b y) : RvL w U ρ (a ++ b) (x ++ y) := by
  refine ⟨by simp [h.len, h'.len], fun j c v hc hv => ?_⟩
  by_cases hj : j < a.length
  · rw [List.getElem?_append_left hj] at hc
    rw [List.getElem?_append_left (by rw [← h.len]; exact hj)] at hv
    exact h.rv j c v hc hv
  · rw [List.getElem?_append_right (by omega)] at hc
    rw [List.getElem?_append_right (by rw [← h.len]; omega), ← h.len] at hv
    exact h'.rv _ c v hc hv

theorem evalOp_ok {E : Env} (hE : EnvAll E) {ev : Operand → AV} {hp : Nat → AO} {n : Nat} {o : Oper} {f : Eff} {a : Act} {fp : List Nat} (h : (evalOp E ev hp n o).val = some f)
    (hev : ∀ x ∈ o.op.operands.toList, Rv w U ρ (ev x) (a.eval x)) (hub : ∀ b, U b → b < w.heap.size) (hgl : GlOk E.gl w U) (hfp : FpOk w U ρ hp fp)
    (hin : memOp o.op = true → ∀ x ∈ o.op.operands.toList, ∀ id ∈ (ev x).ids, id ∈ fp) (hcl : deepOp o.op = true → ∀ id ∈ fp, ∀ j ∈ (hp id).ids, j ∈ fp) (hn : ∀ j, j < f.nw.length → ρ (n + j) = none) :
    (∀ (K : Act → World → Prop) (Q : Exit → Act → World → Prop), (∀ v w' U' ρ', Ef n hp f w U ρ v w' U' ρ' → K (a.put o.dst v) w') → o.wp E.P a w K Q) ∧ ∀ id o', (id, o') ∈ f.wr → id ∈ fp := by
  have pureCase : ∀ (r : AV) (x : Value), f = { val := r } → (execOp a.eval o).run E.P w = .ok (.value x) w → Rv w U ρ r x →
      (∀ (K : Act → World → Prop) (Q : Exit → Act → World → Prop), (∀ v w' U' ρ', Ef n hp f w U ρ v w' U' ρ' → K (a.put o.dst v) w') → o.wp E.P a w K Q) ∧ ∀ id o', (id, o') ∈ f.wr → id ∈ fp := by
    rintro r x rfl hrun hr
    exact ⟨fun K Q hK => wp_value hrun (hK _ _ _ _ (Ef.pure hub hr)), by simp⟩
  unfold evalOp at h
  split at h
  case h_1 x ho =>
    simp at h; subst h
    exact pureCase _ (a.eval x) rfl (by simp [execOp, ho]) (hev x (by simp [ho, Op.operands]))
  case h_2 x ho =>
    simp at h; subst h
    exact pureCase _ (a.eval x) rfl (by simp [execOp, ho]) (hev x (by simp [ho, Op.operands]))
  case h_3 c x y ho =>
    have hc := hev c (by simp [ho, Op.operands])
    have hx := hev x (by simp [ho, Op.operands])
    have hy := hev y (by simp [ho, Op.operands])
    generalize hvc : a.eval c = vc at hc
    split at h
    · rename_i hcc
      rw [hcc] at hc; cases hc
      simp at h; subst h
      exact pureCase _ (a.eval x) rfl (by simp [execOp, ho, hvc, asBool]) hx
    · rename_i hcc
      rw [hcc] at hc; cases hc
      simp at h; subst h
      exact pureCase _ (a.eval y) rfl (by simp [execOp, ho, hvc, asBool]) hy
    · rename_i b hcc
      rw [hcc] at hc; cases hc
      simp at h
      obtain ⟨z, hz, rfl⟩ := h
      refine pureCase _ (if b then a.eval x else a.eval y) rfl (by simp [execOp, ho, hvc, asBool]) (mergeAV_ok hz ?_)
      cases b <;> simp [hx, hy]
    · simp at h
  case h_4 t x ho =>
    have hx := hev x (by simp [ho, Op.operands])
    split at h
    · rename_i cs hcs
      simp at h; subst h
      obtain ⟨h1, h2⟩ := cellsOf_ok hcs hx
      refine ⟨fun K Q hK => wp_value (v := .pointer (some ⟨w.heap.size, 0, none⟩)) (w' := w.alloc (.cells (a.eval x).cells t)) ?_ (hK _ _ _ _ (Ef.box hub (by simpa using hn 0 (by simp)) h1 h2)), by simp⟩
      simp [execOp, ho, Instr.box, newVar, newRow]
    · simp at h
  case h_5 t ho =>
    split at h
    · rename_i z hz
      split at h
      · rename_i cs hcs
        simp at h; subst h
        unfold tzero at hz
        split at hz
        · rename_i i hinfo
          simp only [Option.map_eq_some_iff] at hz
          obtain ⟨zv, hz1, rfl⟩ := hz
          obtain ⟨h1, h2⟩ := cellsOf_ok hcs (absV_ok (w := w) (U := U) (ρ := ρ) zv)
          refine ⟨fun K Q hK => wp_value (v := .pointer (some ⟨w.heap.size, 0, none⟩)) (w' := w.alloc (.cells zv.cells t)) ?_ (hK _ _ _ _ (Ef.box hub (by simpa using hn 0 (by simp)) h1 h2)), by simp⟩
          simp [execOp, ho, Instr.alloc, zeroValue, typeInfo, hinfo, hz1, newVar, newRow]
        · cases hz
      · simp at h
    · simp at h
  case h_6 t x ho =>
    have hx := hev x (by simp [ho, Op.operands])
    obtain ⟨r, v, rfl, hrun, hr⟩ := evLoad_ok h hx (fun id hid => hfp.ob id (hin (by simp [ho, memOp]) x (by simp [ho, Op.operands]) id hid))
    exact pureCase r v rfl (by simp [execOp, ho, hrun]) hr
  case h_7 t x y ho =>
    have hx := hev x (by simp [ho, Op.operands])
    have hy := hev y (by simp [ho, Op.operands])
    obtain ⟨w', U', hrun, hef, hwr⟩ := evStore_ok (n := n) h hx hy hub hfp (fun id hid => hin (by simp [ho, memOp]) x (by simp [ho, Op.operands]) id hid)
      (fun id hid => hin (by simp [ho, memOp]) y (by simp [ho, Op.operands]) id (partIds_ids hid))
    exact ⟨fun K Q hK => wp_skip' (by simp [execOp, ho, hrun]) (hK _ _ _ _ hef), hwr⟩
  case h_8 t x fl ho =>
    have hx := hev x (by simp [ho, Op.operands])
    obtain ⟨r, v, rfl, hrun, hr⟩ := evField_ok h hx
    exact pureCase r v rfl (by simp [execOp, ho, hrun]) hr
  case h_9 t x fl ho =>
    have hx := hev x (by simp [ho, Op.operands])
    split at h
    · rename_i fd cs hfd hcs
      simp at h
      obtain ⟨r, hr, rfl⟩ := h
      rw [hcs] at hx
      generalize hvx : a.eval x = vx at hx
      cases hx with
      | agg _ vs hl h1 hrr =>
      obtain ⟨v, hrun, hrv⟩ := partA_part hr hl h1 hrr
      unfold fieldOf at hfd
      split at hfd
      · rename_i fs hu
        exact pureCase r v rfl (by simp [execOp, ho, hvx, Instr.field, run_underlying hu, hfd, asAgg, hrun]) hrv
      · cases hfd
    · simp at h
  case h_10 t x i ho =>
    have hx := hev x (by simp [ho, Op.operands])
    have hi := hev i (by simp [ho, Op.operands])
    obtain ⟨r, v, rfl, hrun, hr⟩ := evIndexAddr_ok h hx hi (fun id hid => hfp.ob id (hin (by simp [ho, memOp]) x (by simp [ho, Op.operands]) id hid))
    exact pureCase r v rfl (by simp [execOp, ho, hrun]) hr
  case h_11 t x i ho =>
    have hx := hev x (by simp [ho, Op.operands])
    have hi := hev i (by simp [ho, Op.operands])
    obtain ⟨r, v, rfl, hrun, hr⟩ := evIndex_ok h hx hi
    exact pureCase r v rfl (by simp [execOp, ho, hrun]) hr
  case h_12 t parts ho =>
    simp at h
    obtain ⟨r, hr, rfl⟩ := h
    have hops : ∀ p ∈ parts.toList, Rv w U ρ (ev p.2) (a.eval p.2) := fun p hp => hev p.2 (by simp only [ho, Op.operands]; simp; exact ⟨p.1, by simpa using hp⟩)
    obtain ⟨v, hrun, hrv⟩ := buildA_ok (w := w) (U := U) (ρ := ρ) (vparts := parts.toList.map fun p => (p.1, a.eval p.2)) hr (by simp) (by
      have := rvL_map (w := w) (U := U) (ρ := ρ) (ev := ev) (g := a.eval) (parts.toList.map (·.2)) (fun x hx => by
        simp only [List.mem_map] at hx
        obtain ⟨p, hp, rfl⟩ := hx
        exact hops p hp)
      simpa [List.map_map, Function.comp_def] using this)
    refine pureCase r v rfl ?_ hrv
    have e1 : (parts.toList.map fun p => (p.1, a.eval p.2)).toArray = parts.map fun p => (p.1, a.eval p.2) := by
      apply Array.ext'; simp
    rw [e1] at hrun
    simp [execOp, ho, hrun]
  case h_13 t len parts ho =>
    have hops : ∀ p ∈ parts.toList, Rv w U ρ (ev p.2) (a.eval p.2) := fun p hp => hev p.2 (by simp only [ho, Op.operands]; simp; exact ⟨p.1, by simpa using hp⟩)
    obtain ⟨v, w', U', hrun, hef, hwr⟩ := evBuildSlice_ok hE.toEnvOk (n := n) (w := w) (U := U) (ρ := ρ) (vps := parts.toList.map fun p => (p.1, a.eval p.2)) h (by simp) (by
      have := rvL_map (w := w) (U := U) (ρ := ρ) (ev := ev) (g := a.eval) (parts.toList.map (·.2)) (fun x hx => by
        simp only [List.mem_map] at hx
        obtain ⟨p, hp, rfl⟩ := hx
        exact hops p hp)
      simpa [List.map_map, Function.comp_def] using this) hub hfp (fun id hid => by
        simp only [List.mem_flatMap, List.mem_map] at hid
        obtain ⟨q, ⟨p, hp, rfl⟩, hid⟩ := hid
        exact hin (by simp [ho, memOp]) p.2 (by simp only [ho, Op.operands]; simp; exact ⟨p.1, by simpa using hp⟩) id (partIds_ids hid))
    refine ⟨fun K Q hK => wp_value ?_ (hK _ _ _ _ hef), hwr⟩
    have e1 : (parts.toList.map fun p => (p.1, a.eval p.2)).toArray = parts.map fun p => (p.1, a.eval p.2) := by
      apply Array.ext'; simp
    rw [e1] at hrun
    simp [execOp, ho, hrun]
  case h_14 op t x y yt ho =>
    have hx := hev x (by simp [ho, Op.operands])
    have hy := hev y (by simp [ho, Op.operands])
    obtain ⟨r, v, rfl, hrun, hr⟩ := binA_ok x y h hx hy
    refine pureCase r v rfl ?_ hr
    simp only [execOp, ho]
    rw [Sem.run_bind, hrun]
    rfl
  case h_15 t x ho =>
    have hx := hev x (by simp [ho, Op.operands])
    generalize hvx : a.eval x = vx at hx
    split at h
    · rename_i b hb
      rw [hb] at hx; cases hx
      simp at h; subst h
      exact pureCase _ (.bool (!b)) rfl (by simp [execOp, ho, hvx, Op.unary]) (.bool _)
    · rename_i b hb
      rw [hb] at hx; cases hx
      simp at h; subst h
      exact pureCase _ (.bool (!b)) rfl (by simp [execOp, ho, hvx, Op.unary]) (.kb _)
    · simp at h
  case h_16 t x ho =>
    have hx := hev x (by simp [ho, Op.operands])
    generalize hvx : a.eval x = vx at hx
    split at h
    · rename_i k b hb
      rw [hb] at hx; cases hx
      simp at h; subst h
      exact pureCase _ (.int k (k.wrap (-b))) rfl (by simp [execOp, ho, hvx, Op.unary, Op.intArith]) (.int _ _ (wrap_ok _ _))
    · simp at h
  case h_17 src dst x ho =>
    have hx := hev x (by simp [ho, Op.operands])
    generalize hvx : a.eval x = vx at hx
    split at h
    · rename_i d k k' b hs hu hb
      rw [hb] at hx; cases hx
      simp at h; subst h
      exact pureCase _ (.int k (k.wrap b)) rfl (by simp [execOp, ho, hvx, convert, run_underlying hs, run_underlying hu, Conv.intToInt]) (.int _ _ (wrap_ok _ _))
    · rename_i d s hs hu hb
      rw [hb] at hx
      have hh := hx
      cases hx
      simp at h; subst h
      exact pureCase _ _ rfl (by simp [execOp, ho, hvx, convert, run_underlying hs, run_underlying hu]) hh
    · simp at h
  case h_18 t x lo hi mx ho =>
    have hx := hev x (by simp [ho, Op.operands])
    obtain ⟨v, U', hrun, hef, hwr⟩ := evSliceV_ok (n := n) (fp := fp) (w := w) (U := U) (ρ := ρ) (vlo := lo.map a.eval) (vhi := hi.map a.eval) (vmx := mx.map a.eval) h hx
      (fun b v hb hv => by cases lo <;> simp at hb hv; subst hb; subst hv; exact hev _ (by simp [ho, Op.operands]))
      (fun b v hb hv => by cases hi <;> simp at hb hv; subst hb; subst hv; exact hev _ (by simp [ho, Op.operands]))
      (fun b v hb hv => by cases mx <;> simp at hb hv; subst hb; subst hv; exact hev _ (by simp [ho, Op.operands])) (by cases lo <;> rfl) (by cases hi <;> rfl) (by cases mx <;> rfl) hub hfp (fun id hid => hin (by simp [ho, memOp]) x (by simp [ho, Op.operands]) id hid)
    exact ⟨fun K Q hK => wp_value (by simp [execOp, ho, hrun]) (hK _ _ _ _ hef), hwr⟩
  case h_19 x i ho =>
    have hx := hev x (by simp [ho, Op.operands])
    generalize hvx : a.eval x = vx at hx
    split at h
    · rename_i vs hvs
      rw [hvs] at hx
      simp at h
      obtain ⟨r, hr, rfl⟩ := h
      cases hx with
      | tup _ xs hl hrr =>
      have hlt : i < xs.length := by rw [← hl]; exact (List.getElem?_eq_some_iff.1 hr).1
      exact pureCase r xs[i] rfl (by simp [execOp, ho, hvx, Instr.extract, List.getElem?_eq_getElem hlt]) (hrr i r _ hr (List.getElem?_eq_getElem hlt))
    · simp at h
  case h_20 fn first caps ho =>
    simp at h; subst h
    refine pureCase _ (.func fn (first.toList.map a.eval).toArray (caps.toList.map a.eval).toArray) rfl (by simp [execOp, ho, Instr.makeFunc]; constructor <;> (apply Array.ext'; simp)) ?_
    have h1 := rvL_map (w := w) (U := U) (ρ := ρ) (ev := ev) (g := a.eval) first.toList (fun x hx => hev x (by simp [ho, Op.operands]; exact .inl (by simpa using hx)))
    have h2 := rvL_map (w := w) (U := U) (ρ := ρ) (ev := ev) (g := a.eval) caps.toList (fun x hx => hev x (by simp [ho, Op.operands]; exact .inr (by simpa using hx)))
    exact .clo fn _ _ _ _ h1.len h2.len h1.rv h2.rv
  case h_21 x ho =>
    have hx := hev x (by simp [ho, Op.operands])
    have hx' := hx
    generalize hvx : a.eval x = vx at hx
    split at h
    · rename_i i j hav
      rw [hav] at hx
      simp at h; subst h
      have hh := hx
      cases hx
      exact pureCase _ _ rfl (by simp [execOp, ho, hvx]) hh
    · rename_i cs j hav
      rw [hav] at hx
      simp at h; subst h
      have hh := hx
      cases hx
      exact pureCase _ _ rfl (by simp [execOp, ho, hvx]) hh
    · rename_i i j k l hav
      rw [hav] at hx
      simp at h; subst h
      have hh := hx
      cases hx
      exact pureCase _ _ rfl (by simp [execOp, ho, hvx]) hh
    · rename_i g as bs hav
      rw [hav] at hx
      simp at h; subst h
      have hh := hx
      cases hx
      exact pureCase _ _ rfl (by simp [execOp, ho, hvx]) hh
    · simp at h
  case h_22 c ho =>
    have hm : memOp o.op = true := by simp [ho, memOp]
    have hargs : ∀ x ∈ c.args.toList, x ∈ o.op.operands.toList := by
      intro x hx
      simp only [ho, Op.operands, Call.operands, Array.toList_append, List.mem_append]
      exact .inr hx
    have hrv := rvL_map (w := w) (U := U) (ρ := ρ) (ev := ev) (g := a.eval) c.args.toList (fun x hx => hev x (hargs x hx))
    unfold evCall at h
    split at h
    · rename_i fo hcal
      have hfo : fo ∈ o.op.operands.toList := by simp [ho, Op.operands, Call.operands, hcal]
      have hf := hev fo hfo
      generalize hvf : a.eval fo = vf at hf
      split at h
      · rename_i k first caps hcl0
        split at h
        · rename_i F hF
          have hFok := hE.fs k F hF
          rw [hcl0] at hf
          cases hf with
          | clo _ _ _ vfi vca h1 h2 h3 h4 =>
          have hall : RvL w U ρ (first ++ c.args.toList.map ev ++ caps) (vfi ++ c.args.toList.map a.eval ++ vca) := (RvL.append ⟨h1, h3⟩ hrv).append ⟨h2, h4⟩
          obtain ⟨hcalls, hwr⟩ := hFok.calls w U ρ hp n _ _ f fp h hall hub hgl hfp (fun id hid => by
            obtain ⟨cc, hcc, hid⟩ := idsL_of hid
            simp only [List.mem_append, List.mem_map] at hcc
            rcases hcc with (hcc | ⟨x, hx, rfl⟩) | hcc
            · exact hin hm fo hfo id (by rw [hcl0]; simp only [AV.ids, List.mem_append]; exact .inl (idsL_mem hcc hid))
            · exact hin hm x (hargs x hx) id hid
            · exact hin hm fo hfo id (by rw [hcl0]; simp only [AV.ids, List.mem_append]; exact .inr (idsL_mem hcc hid))) (hcl (by simp [ho, deepOp])) hn
          refine ⟨fun K Q hK => ?_, hwr⟩
          obtain ⟨fn, hfn, hname, hbody⟩ := hFok.fn
          have hrun : (execOp a.eval o).run E.P w = .ok (.enter k (vfi ++ c.args.toList.map a.eval ++ vca).toArray) w := by
            simp only [execOp, ho, resolve, hcal, hvf, Deferred.ofValue, Sem.run_bind, Sem.run_pure, Result.andThen_ok, invoke, callFunc, run_program, hfn, hname, hbody, Bool.false_eq_true, if_false]
            congr 2
            apply Array.ext'
            simp
          rw [Oper.wp, hrun]
          refine hcalls.mono fun e w' ⟨v, U', ρ', he, hef⟩ => ?_
          subst he
          exact hK v w' U' ρ' hef
        · simp at h
      · simp at h
    · rename_i hcal
      split at h
      · rename_i x t hax hat
        have hc : c.args.toList.length = 1 := by have := congrArg List.length hax; simpa using this
        obtain ⟨xo, hxo⟩ : ∃ xo, c.args.toList = [xo] := List.length_eq_one_iff.1 hc
        rw [hxo] at hax
        simp at hax
        subst hax
        obtain ⟨r, v, rfl, hrun, hr⟩ := evLen_ok (P := E.P) (w := w) (U := U) (ρ := ρ) (ty := o.type) h (hev xo (hargs xo (by simp [hxo]))) (fun id hid => hfp.ob id (hin hm xo (hargs xo (by simp [hxo])) id hid))
        refine pureCase r v rfl ?_ hr
        have e1 : c.args = #[xo] := by apply Array.ext'; simpa using hxo
        have e2 : c.argTypes = #[t] := by apply Array.ext'; simpa using hat
        simp [execOp, ho, resolve, hcal, invoke, builtin, e1, e2, hrun]
      · simp at h
    · rename_i hcal
      split at h
      · rename_i b x t t' hax hat
        split at h
        · rename_i elem el' hu hu'
          have hc : c.args.toList.length = 2 := by have := congrArg List.length hax; simpa using this
          obtain ⟨bo, xo, hbx⟩ : ∃ bo xo, c.args.toList = [bo, xo] := by
            match hl : c.args.toList, hc with
            | [p, q], _ => exact ⟨p, q, rfl⟩
          rw [hbx] at hax
          simp at hax
          obtain ⟨rfl, rfl⟩ := hax
          have hnn : ρ n = none := by
            have h1 : f.nw.length = 1 := by
              clear hn
              unfold evAppend at h
              repeat' split at h
              all_goals first
                | (simp at h; done)
                | (simp at h; obtain ⟨_, rfl⟩ := h; rfl)
            simpa using hn 0 (by omega)
          obtain ⟨v, w', U', ρ', hrun, hef, hwr⟩ := evAppend_ok hE.toEnvOk (w := w) (U := U) (ρ := ρ) (t := t) (t' := t') (ty := o.type) h hu hu' (hev bo (hargs bo (by simp [hbx]))) (hev xo (hargs xo (by simp [hbx]))) hub hfp
            (fun id hid => hin hm bo (hargs bo (by simp [hbx])) id hid) (fun id hid => hin hm xo (hargs xo (by simp [hbx])) id hid) hnn
          refine ⟨fun K Q hK => wp_value ?_ (hK _ _ _ _ hef), hwr⟩
          have e1 : c.args = #[bo, xo] := by apply Array.ext'; simpa using hbx
          have e2 : c.argTypes = #[t, t'] := by apply Array.ext'; simpa using hat
          simp [execOp, ho, resolve, hcal, invoke, builtin, e1, e2, hrun]
        · simp at h
      · simp at h
    · simp at h
  case h_23 t ho =>
    split at h
    · rename_i o0 ho0
      simp at h; subst h
      have hoo : o0 = .fmap [] ∨ ∃ u, o0 = .vmap u [] := by
        unfold mapNew at ho0
        repeat' split at ho0
        all_goals first
          | (cases ho0; exact .inl rfl)
          | (cases ho0; exact .inr ⟨_, rfl⟩)
          | (cases ho0; done)
      refine ⟨fun K Q hK => wp_value (v := .map (some w.heap.size)) (w' := w.alloc (.map #[] 0)) ?_ (hK _ _ _ _ (Ef.mkMap hoo hub (by simpa using hn 0 (by simp)))), by simp⟩
      simp [execOp, ho, Instr.makeMap, newObj]
      rfl
    · simp at h
  case h_24 t m k x ho =>
    obtain ⟨w', hrun, hef, hwr⟩ := evInsert_ok (n := n) h (hev m (by simp [ho, Op.operands])) (hev k (by simp [ho, Op.operands])) (hev x (by simp [ho, Op.operands])) hub hfp (fun id hid => hin (by simp [ho, memOp]) m (by simp [ho, Op.operands]) id hid)
    exact ⟨fun K Q hK => wp_skip' (by simp [execOp, ho, hrun]) (hK _ _ _ _ hef), hwr⟩
  case h_25 t m k x ho =>
    obtain ⟨w', hrun, hef, hwr⟩ := evInsert_ok (n := n) h (hev m (by simp [ho, Op.operands])) (hev k (by simp [ho, Op.operands])) (hev x (by simp [ho, Op.operands])) hub hfp (fun id hid => hin (by simp [ho, memOp]) m (by simp [ho, Op.operands]) id hid)
    exact ⟨fun K Q hK => wp_skip' (by simp [execOp, ho, hrun]) (hK _ _ _ _ hef), hwr⟩
  case h_26 t x i two ho =>
    obtain ⟨r, v, rfl, hrun, hr⟩ := evLookup_ok h (hev x (by simp [ho, Op.operands])) (hev i (by simp [ho, Op.operands])) (fun id hid => hfp.ob id (hin (by simp [ho, memOp]) x (by simp [ho, Op.operands]) id hid))
    exact pureCase r v rfl (by simp [execOp, ho, hrun]) hr
  case h_27 t m k ho =>
    obtain ⟨v, w', hrun, hef, hwr⟩ := evEntry_ok (n := n) h (hev m (by simp [ho, Op.operands])) (hev k (by simp [ho, Op.operands])) hub hfp (fun id hid => hin (by simp [ho, memOp]) m (by simp [ho, Op.operands]) id hid)
    exact ⟨fun K Q hK => wp_value (by simp [execOp, ho, hrun]) (hK _ _ _ _ hef), hwr⟩
  case h_28 t m s x ho =>
    obtain ⟨w', hrun, hef, hwr⟩ := evEntryStore_ok (P := E.P) (t := t) (n := n) h (hev m (by simp [ho, Op.operands])) (hev s (by simp [ho, Op.operands])) (hev x (by simp [ho, Op.operands])) hub hfp (fun id hid => hin (by simp [ho, memOp]) m (by simp [ho, Op.operands]) id hid)
    exact ⟨fun K Q hK => wp_skip' (by simp [execOp, ho, hrun]) (hK _ _ _ _ hef), hwr⟩
  case h_29 => simp at h

end
open Go

structure Ctx where
  w0 : World
  U0 : Nat → Prop
  B0 : Nat → Prop
  ρ0 : Nat → Option Value

structure Wd (gl : Nat → AV) (C : Ctx) (w : World) (U : Nat → Prop) : Prop where
  ext : Ext C.w0 w
  same : ∀ b, b < C.w0.heap.size → ¬ C.B0 b → w.heap[b]? = C.w0.heap[b]?
  ub : ∀ b, U b → b < w.heap.size
  u1 : ∀ b, b < C.w0.heap.size → U b → C.U0 b
  u2 : ∀ b, b < C.w0.heap.size → C.U0 b → ¬ C.B0 b → U b
  gl : GlOk gl w U

structure HpOk (C : Ctx) (w : World) (U : Nat → Prop) (ρ : Nat → Option Value) (hp : Nat → AO) : Prop where
  ob : ∀ id, objOk w U ρ id (hp id)
  inj : ∀ id1 id2 b, ownsB ρ id1 (hp id1) b → ownsB ρ id2 (hp id2) b → id1 = id2
  blk : ∀ id b, ownsB ρ id (hp id) b → C.B0 b ∨ C.w0.heap.size ≤ b

section
variable {gl : Nat → AV} {C : Ctx} {w : World} {U : Nat → Prop} {ρ : Nat → Option Value}

theorem apply_ef {n : Nat} {hpl hp hp' : Nat → AO} {f : Eff} {v : Value} {w' : World} {U' : Nat → Prop} {ρ' : Nat → Option Value} (hW : Wd gl C w U) (hH : HpOk C w U ρ hp) (hef : Ef n hpl f w U ρ v w' U' ρ')
    (hloc : ∀ id o, (id, o) ∈ f.wr → hpl id = hp id)
    (h1 : ∀ id, (∃ o, (id, o) ∈ f.wr) → ∃ o, (id, o) ∈ f.wr ∧ hp' id = o) (h2 : ∀ (j : Nat) o, f.nw[j]? = some o → hp' (n + j) = o)
    (h3 : ∀ id, (¬ ∃ o, (id, o) ∈ f.wr) → (id < n ∨ n + f.nw.length ≤ id) → hp' id = hp id) :
    Wd gl C w' U' ∧ HpOk C w' U' ρ' hp' ∧ ∀ {c : AV} {x : Value}, Rv w U ρ c x → Rv w' U' ρ' c x := by
  have hownU : ∀ id o b, (id, o) ∈ f.wr → ownsB ρ id (hpl id) b → U b ∧ b < w.heap.size := by
    intro id o b hid ho
    rw [hloc id o hid] at ho
    exact (hH.ob id).inU ho
  have hk : ∀ b, b < w.heap.size → ¬ U b → w'.heap[b]? = w.heap[b]? := fun b hb hU => hef.same b hb (fun id o hid ho => hU (hownU id o b hid ho).1)
  have mono : ∀ {c : AV} {x : Value}, Rv w U ρ c x → Rv w' U' ρ' c x := fun h => h.mono hef.ext.sz hk hef.u1 hef.rhon
  have kind : ∀ id, (∃ o, (id, o) ∈ f.wr ∧ hp' id = o) ∨ (n ≤ id ∧ ∃ o, f.nw[id - n]? = some o ∧ hp' id = o) ∨ ((¬ ∃ o, (id, o) ∈ f.wr) ∧ (id < n ∨ n + f.nw.length ≤ id) ∧ hp' id = hp id) := by
    intro id
    by_cases hw : ∃ o, (id, o) ∈ f.wr
    · exact .inl (h1 id hw)
    · by_cases hn : n ≤ id ∧ id < n + f.nw.length
      · refine .inr (.inl ⟨hn.1, f.nw[id - n]'(by omega), List.getElem?_eq_getElem (by omega), ?_⟩)
        have := h2 (id - n) _ (List.getElem?_eq_getElem (by omega))
        rwa [show n + (id - n) = id by omega] at this
      · exact .inr (.inr ⟨hw, by omega, h3 id hw (by omega)⟩)
  have other : ∀ id, (¬ ∃ o, (id, o) ∈ f.wr) → ∀ b, ownsB ρ id (hp id) b → b < w.heap.size ∧ ∀ id' o', (id', o') ∈ f.wr → ¬ ownsB ρ id' (hpl id') b := by
    intro id hw b ho
    refine ⟨((hH.ob id).inU ho).2, fun id' o' hid' ho' => ?_⟩
    rw [hloc id' o' hid'] at ho'
    have := hH.inj id id' b ho ho'
    subst this
    exact hw ⟨o', hid'⟩
  have ownsBack : ∀ id, (id < n ∨ n + f.nw.length ≤ id) → ∀ o b, ownsB ρ' id o b → ownsB ρ id o b := by
    rintro id hid o b ⟨h, v, hv, hb⟩
    rw [hef.rho id hid] at hv
    exact ⟨h, v, hv, hb⟩
  have ownKnown : ∀ id b, ((∃ o, (id, o) ∈ f.wr ∧ hp' id = o) ∨ (n ≤ id ∧ ∃ o, f.nw[id - n]? = some o ∧ hp' id = o)) → ownsB ρ' id (hp' id) b →
      w.heap.size ≤ b ∨ ∃ id' o', (id', o') ∈ f.wr ∧ ownsB ρ id' (hp id') b := by
    intro id b hid ho
    have hin : ((id, hp' id) ∈ f.wr ∨ (n ≤ id ∧ f.nw[id - n]? = some (hp' id))) := by
      rcases hid with ⟨o, h, rfl⟩ | ⟨h, o, h', rfl⟩
      · exact .inl h
      · exact .inr ⟨h, h'⟩
    rcases hef.own id _ b hin ho with h | ⟨id', o', hid', ho'⟩
    · exact .inl h
    · exact .inr ⟨id', o', hid', by rw [← hloc id' o' hid']; exact ho'⟩
  refine ⟨⟨hW.ext.trans hef.ext, ?_, hef.ub, ?_, ?_, ?_⟩, ⟨?_, ?_, ?_⟩, mono⟩
  · intro b hb hB
    rw [hef.same b (Nat.lt_of_lt_of_le hb hW.ext.sz) (fun id o hid ho => ?_)]
    · exact hW.same b hb hB
    · rw [hloc id o hid] at ho
      rcases hH.blk id b ho with h | h
      · exact hB h
      · omega
  · intro b hb hU
    exact hW.u1 b hb (hef.u1 b (Nat.lt_of_lt_of_le hb hW.ext.sz) hU)
  · intro b hb hU hB
    refine hef.u2 b (Nat.lt_of_lt_of_le hb hW.ext.sz) (hW.u2 b hb hU hB) (fun id o hid ho => ?_)
    rw [hloc id o hid] at ho
    rcases hH.blk id b ho with h | h
    · exact hB h
    · omega
  · intro g
    exact (hW.gl g).mono hef.ext.sz hk hef.u1 (fun _ _ h => by cases h)
  · intro id
    rcases kind id with ⟨o, h, e⟩ | ⟨h, o, h', e⟩ | ⟨hw, hid, e⟩
    · rw [e]; exact hef.wr id o h
    · rw [e]
      have := hef.nw (id - n) o h'
      rwa [show n + (id - n) = id by omega] at this
    · rw [e]
      refine (hH.ob id).mono hef.ext.sz hk hef.u1 hef.rhon (fun b ho => ?_)
      obtain ⟨hb, hno⟩ := other id hw b ho
      exact ⟨hef.same b hb hno, hef.u2 b hb ((hH.ob id).inU ho).1 hno⟩
  · intro id1 id2 b ho1 ho2
    have k1 := kind id1
    have k2 := kind id2
    have cross : ∀ id1 id2, ((∃ o, (id1, o) ∈ f.wr ∧ hp' id1 = o) ∨ (n ≤ id1 ∧ ∃ o, f.nw[id1 - n]? = some o ∧ hp' id1 = o)) →
        ((¬ ∃ o, (id2, o) ∈ f.wr) ∧ (id2 < n ∨ n + f.nw.length ≤ id2) ∧ hp' id2 = hp id2) → ownsB ρ' id1 (hp' id1) b → ownsB ρ' id2 (hp' id2) b → False := by
      intro id1 id2 k1 ⟨hw, hid, e⟩ ho1 ho2
      rw [e] at ho2
      have ho2' := ownsBack id2 hid _ b ho2
      obtain ⟨hb, hno⟩ := other id2 hw b ho2'
      rcases ownKnown id1 b k1 ho1 with h | ⟨id', o', hid', ho'⟩
      · omega
      · exact hno id' o' hid' (by rw [hloc id' o' hid']; exact ho')
    rcases k1 with k1 | k1 | k1 <;> rcases k2 with k2 | k2 | k2
    · obtain ⟨o1, h1', e1⟩ := k1; obtain ⟨o2, h2', e2⟩ := k2
      rw [e1] at ho1; rw [e2] at ho2
      exact hef.inj id1 o1 id2 o2 b (.inl h1') (.inl h2') ho1 ho2
    · obtain ⟨o1, h1', e1⟩ := k1; obtain ⟨hn2, o2, h2', e2⟩ := k2
      rw [e1] at ho1; rw [e2] at ho2
      exact hef.inj id1 o1 id2 o2 b (.inl h1') (.inr ⟨hn2, h2'⟩) ho1 ho2
    · exact (cross id1 id2 (.inl k1) k2 ho1 ho2).elim
    · obtain ⟨hn1, o1, h1', e1⟩ := k1; obtain ⟨o2, h2', e2⟩ := k2
      rw [e1] at ho1; rw [e2] at ho2
      exact hef.inj id1 o1 id2 o2 b (.inr ⟨hn1, h1'⟩) (.inl h2') ho1 ho2
    · obtain ⟨hn1, o1, h1', e1⟩ := k1; obtain ⟨hn2, o2, h2', e2⟩ := k2
      rw [e1] at ho1; rw [e2] at ho2
      exact hef.inj id1 o1 id2 o2 b (.inr ⟨hn1, h1'⟩) (.inr ⟨hn2, h2'⟩) ho1 ho2
    · exact (cross id1 id2 (.inr k1) k2 ho1 ho2).elim
    · exact (cross id2 id1 (.inl k2) k1 ho2 ho1).elim
    · exact (cross id2 id1 (.inr k2) k1 ho2 ho1).elim
    · obtain ⟨_, hid1, e1⟩ := k1; obtain ⟨_, hid2, e2⟩ := k2
      rw [e1] at ho1; rw [e2] at ho2
      exact hH.inj id1 id2 b (ownsBack id1 hid1 _ b ho1) (ownsBack id2 hid2 _ b ho2)
  · intro id b ho
    rcases kind id with k | k | ⟨_, hid, e⟩
    · rcases ownKnown id b (.inl k) ho with h | ⟨id', o', hid', ho'⟩
      · exact .inr (Nat.le_trans hW.ext.sz h)
      · exact hH.blk id' b ho'
    · rcases ownKnown id b (.inr k) ho with h | ⟨id', o', hid', ho'⟩
      · exact .inr (Nat.le_trans hW.ext.sz h)
      · exact hH.blk id' b ho'
    · rw [e] at ho
      exact hH.blk id b (ownsBack id hid _ b ho)

structure CnR (C : Ctx) (st : RS) (a : Act) (w : World) (U : Nat → Prop) (ρ : Nat → Option Value) : Prop where
  tm : RvL w U ρ st.tmps a.tmps.toList
  hp : HpOk C w U ρ st.hp
  new : ∀ id, st.heap.length ≤ id → ρ id = none
  kn : ∀ d b, st.known.lookup d = some b → a.tmps[d]? = some (.bool b)
  df : a.defers = []
  r0 : ∀ id v, C.ρ0 id = some v → ρ id = some v

theorem evo_ok {E : Env} {tmps : List AV} {known : List (Nat × Bool)} {a : Act} (htm : RvL w U ρ tmps a.tmps.toList) (hkn : ∀ d b, known.lookup d = some b → a.tmps[d]? = some (.bool b)) (hgl : GlOk E.gl w U) (x : Operand) :
    Rv w U ρ (evo E tmps known x) (a.eval x) := by
  cases x with
  | tmp t =>
    simp only [evo, Act.eval]
    cases hk : known.lookup t with
    | some b =>
      have := hkn t b hk
      simp only [Array.getD_eq_getD_getElem?, this, Option.getD_some]
      exact .kb b
    | none =>
      by_cases ht : t < tmps.length
      · have ht' : t < a.tmps.toList.length := by rw [← htm.len]; exact ht
        have h1 : a.tmps.getD t undef = a.tmps.toList[t] := by
          simp only [Array.length_toList] at ht'
          simp [Array.getD, ht']
        rw [h1]
        exact htm.rv t _ _ (by rw [List.getD_eq_getElem?_getD, List.getElem?_eq_getElem ht]; rfl) (List.getElem?_eq_getElem ht')
      · rw [List.getD_eq_getElem?_getD, List.getElem?_eq_none (Nat.le_of_not_lt ht)]
        exact .any _
  | const v => exact absV_ok v
  | global g => exact (hgl g).mono (Nat.le_refl _) (fun _ _ _ => rfl) (fun _ _ h => h) (fun _ _ h => by cases h)
  | func f => simp only [evo, Act.eval]; exact .clo (.func f) [] [] [] [] rfl rfl (by simp) (by simp)

theorem wrAll_length : ∀ (wr : List (Nat × AO)) (h : List AO), (wrAll h wr).length = h.length
  | [], _ => rfl
  | (i, o) :: r, h => by simp [wrAll, wrAll_length r]

theorem wrAll_get : ∀ (wr : List (Nat × AO)) (h : List AO) (id : Nat), (¬ ∃ o, (id, o) ∈ wr) → (wrAll h wr).getD id .dead = h.getD id .dead
  | [], _, _, _ => rfl
  | (i, o) :: r, h, id, hn => by
    rw [wrAll, wrAll_get r _ id (fun ⟨o', ho'⟩ => hn ⟨o', by simp [ho']⟩)]
    have : i ≠ id := fun e => hn ⟨o, by simp [e]⟩
    simp [List.getD_eq_getElem?_getD, List.getElem?_set_ne this]

theorem wrAll_set : ∀ (wr : List (Nat × AO)) (h : List AO) (id : Nat), (∀ p ∈ wr, p.1 < h.length) → (∃ o, (id, o) ∈ wr) → ∃ o, (id, o) ∈ wr ∧ (wrAll h wr).getD id .dead = o
  | [], _, _, _, ⟨_, h⟩ => by simp at h
  | (i, o) :: r, h, id, hl, hex => by
    by_cases hr : ∃ o, (id, o) ∈ r
    · obtain ⟨o', h1, h2⟩ := wrAll_set r (h.set i o) id (fun p hp => by rw [List.length_set]; exact hl p (by simp [hp])) hr
      exact ⟨o', by simp [h1], h2⟩
    · obtain ⟨o', ho'⟩ := hex
      simp only [List.mem_cons, Prod.mk.injEq] at ho'
      rcases ho' with ⟨rfl, rfl⟩ | ho'
      · refine ⟨o', by simp, ?_⟩
        rw [wrAll, wrAll_get r _ _ hr]
        have : id < h.length := hl (id, o') (by simp)
        simp [List.getD_eq_getElem?_getD, List.getElem?_set_self this]
      · exact (hr ⟨o', ho'⟩).elim

theorem putT_rv {tmps : List AV} {a : Act} {d : Option Tmp} {c : AV} {v : Value} (h : RvL w U ρ tmps a.tmps.toList) (hv : Rv w U ρ c v) : RvL w U ρ (putT tmps d c) (a.put d v).tmps.toList := by
  cases d with
  | none => exact h
  | some d =>
    simp only [putT, Act.put]
    refine ⟨by simp [h.len], fun j c' v' hc hv' => ?_⟩
    simp only [Array.toList_setIfInBounds] at hv'
    by_cases hj : d = j
    · subst hj
      rw [List.getElem?_set] at hc hv'
      simp only [if_true] at hc hv'
      split at hc
      · rename_i hlt
        rw [if_pos (by rw [← h.len]; exact hlt)] at hv'
        cases hc; cases hv'; exact hv
      · cases hc
    · rw [List.getElem?_set_ne hj] at hc hv'
      exact h.rv j c' v' hc hv'

theorem forget_ok {known : List (Nat × Bool)} {a : Act} {d : Option Tmp} {v : Value} (h : ∀ d b, known.lookup d = some b → a.tmps[d]? = some (.bool b)) :
    ∀ d' b, (forget known d).lookup d' = some b → (a.put d v).tmps[d']? = some (.bool b) := by
  intro d' b hl
  cases d with
  | none => exact h d' b hl
  | some d =>
    simp only [forget] at hl
    have key : ∀ (k : List (Nat × Bool)), (k.filter fun p => p.1 != d).lookup d' = some b → d' ≠ d ∧ k.lookup d' = some b := by
      intro k
      induction k with
      | nil => simp
      | cons p k ih =>
        intro hk
        rw [List.filter_cons] at hk
        split at hk
        · rename_i hp
          rw [List.lookup_cons] at hk ⊢
          split at hk
          · rename_i he
            cases hk
            simp at hp he
            exact ⟨by rw [he]; exact hp, by simp⟩
          · rename_i he
            obtain ⟨h1, h2⟩ := ih hk
            exact ⟨h1, h2⟩
        · rename_i hp
          obtain ⟨h1, h2⟩ := ih hk
          refine ⟨h1, ?_⟩
          rw [List.lookup_cons]
          have : (d' == p.1) = false := by
            simp at hp
            simp [hp, h1]
          rw [this]; exact h2
    obtain ⟨hne, hk⟩ := key known hl
    simp only [Act.put]
    rw [Array.getElem?_setIfInBounds_ne (fun e => hne e.symm)]
    exact h d' b hk

theorem fpOkB_ok {hp : Nat → AO} {ev : Operand → AV} {o : Oper} (h : fpOkB hp ev o = true) :
    (memOp o.op = true → ∀ x ∈ o.op.operands.toList, ∀ id ∈ (ev x).ids, id ∈ fpOp hp ev o) ∧ (deepOp o.op = true → ∀ id ∈ fpOp hp ev o, ∀ j ∈ (hp id).ids, j ∈ fpOp hp ev o) := by
  unfold fpOkB at h
  constructor
  · intro hm x hx id hid
    simp only [hm, Bool.not_true, Bool.false_or, Bool.and_eq_true, List.all_eq_true, List.contains_iff_mem] at h
    exact h.1 id (idsL_mem (List.mem_map_of_mem hx) hid)
  · intro hm id hid j hj
    have hm2 : memOp o.op = true := by
      cases ho : o.op <;> rw [ho] at hm <;> simp_all [deepOp, memOp]
    simp only [hm, hm2, Bool.not_true, Bool.false_or, Bool.and_eq_true, List.all_eq_true, List.contains_iff_mem] at h
    exact h.2 id hid j hj

theorem goOp_ok {E : Env} (hE : EnvAll E) {st st' : RS} {o : Oper} {a : Act} (h : (goOp E o st).val = some st') (hc : CnR C st a w U ρ) (hW : Wd E.gl C w U)
    (K : Act → World → Prop) (Q : Exit → Act → World → Prop) (hK : ∀ a' w' U' ρ', CnR C st' a' w' U' ρ' → Wd E.gl C w' U' → K a' w') : o.wp E.P a w K Q := by
  unfold goOp at h
  split at h
  · rename_i hfp
    simp only [Tr.val_bind, Option.bind_eq_some_iff] at h
    obtain ⟨f, hf, h⟩ := h
    split at h
    · rename_i hwl
      simp at h; subst h
      obtain ⟨hin, hcl⟩ := fpOkB_ok hfp
      have hn : ∀ j, j < f.nw.length → ρ (st.heap.length + j) = none := fun j _ => hc.new _ (by omega)
      obtain ⟨hwp, hwr⟩ := evalOp_ok hE (w := w) (U := U) (ρ := ρ) (a := a) (fp := fpOp st.hp (evo E st.tmps st.known) o) hf (fun x _ => evo_ok hc.tm hc.kn hW.gl x) hW.ub hW.gl
        ⟨fun id _ => hc.hp.ob id, fun id1 _ id2 _ b => hc.hp.inj id1 id2 b⟩ hin hcl hn
      refine hwp K Q (fun v w' U' ρ' hef => ?_)
      simp only [List.all_eq_true, Bool.and_eq_true, decide_eq_true_eq] at hwl
      replace hwl : ∀ p ∈ f.wr, p.1 < st.heap.length := fun p hp => (hwl p hp).1
      have hset := wrAll_set f.wr st.heap
      obtain ⟨hW', hH', mono⟩ := apply_ef (hp' := fun id => (wrAll st.heap f.wr ++ f.nw).getD id .dead) hW hc.hp hef (fun _ _ _ => rfl)
        (fun id hex => by
          obtain ⟨o', h1, h2⟩ := wrAll_set f.wr st.heap id hwl hex
          refine ⟨o', h1, ?_⟩
          have : id < st.heap.length := hwl _ h1
          rw [List.getD_eq_getElem?_getD, List.getElem?_append_left (by rw [wrAll_length]; exact this), ← List.getD_eq_getElem?_getD]
          exact h2)
        (fun j o' hj => by
          rw [List.getD_eq_getElem?_getD, List.getElem?_append_right (by rw [wrAll_length]; omega), wrAll_length, show st.heap.length + j - st.heap.length = j by omega, hj]
          rfl)
        (fun id hno hid => by
          rcases hid with hid | hid
          · rw [List.getD_eq_getElem?_getD, List.getElem?_append_left (by rw [wrAll_length]; exact hid), ← List.getD_eq_getElem?_getD]
            exact wrAll_get f.wr st.heap id hno
          · simp only [RS.hp]
            rw [List.getD_eq_getElem?_getD, List.getD_eq_getElem?_getD, List.getElem?_eq_none (by simp [wrAll_length]; omega), List.getElem?_eq_none (by omega)])
      refine hK _ _ U' ρ' ⟨putT_rv ⟨hc.tm.len, fun j c x hx hv => mono (hc.tm.rv j c x hx hv)⟩ hef.val, hH', ?_, forget_ok hc.kn, ?_, fun id v h => hef.rhon id v (hc.r0 id v h)⟩ hW'
      · intro id hid
        simp only [List.length_append, wrAll_length] at hid
        rw [hef.rho id (.inr hid)]
        exact hc.new id (by omega)
      · cases hd : o.dst <;> simp [Act.put, hc.df]
    · simp at h
  · simp at h

theorem skipOp_ok {st : RS} {o : Oper} {a : Act} (hc : CnR C st a w U ρ) : CnR C (skipOp o st) (a.put o.dst undef) w U ρ := by
  refine ⟨putT_rv hc.tm (.tup [] [] rfl (by simp)), hc.hp, hc.new, forget_ok hc.kn, ?_, hc.r0⟩
  cases hd : o.dst <;> simp [Act.put, hc.df]

theorem guard_ok {E : Env} {ops : List Oper} {st : RS} {a : Act} (hc : CnR C st a w U ρ) (hgl : GlOk E.gl w U) {j : Nat} {d : Nat} (hd : (ops[j]?).bind (·.dst) = some d) :
    (∀ b, evo E st.tmps st.known (.tmp d) = .kb b → yielded ops.toArray a.tmps j = some b ∧ a.tmps[d]? = some (.bool b)) ∧
    (∀ b, evo E st.tmps st.known (.tmp d) = .bool b → yielded ops.toArray a.tmps j = some b ∧ a.tmps[d]? = some (.bool b)) ∧
    (∀ vs, evo E st.tmps st.known (.tmp d) = .tup vs → yielded ops.toArray a.tmps j = none) := by
  have hev := evo_ok (E := E) hc.tm hc.kn hgl (.tmp d)
  have hd' : (ops.toArray[j]?).bind (·.dst) = some d := by simpa using hd
  have hbool : ∀ b, a.eval (.tmp d) = .bool b → yielded ops.toArray a.tmps j = some b ∧ a.tmps[d]? = some (.bool b) := by
    intro b hb
    simp only [Act.eval, Array.getD_eq_getD_getElem?] at hb
    have : a.tmps[d]? = some (.bool b) := by
      cases ht : a.tmps[d]? with
      | none => rw [ht] at hb; simp [undef] at hb
      | some v => rw [ht] at hb; simp at hb; rw [hb]
    exact ⟨by unfold yielded; rw [hd']; simp [this], this⟩
  refine ⟨fun b hb => ?_, fun b hb => ?_, fun vs hvs => ?_⟩
  · rw [hb] at hev
    generalize hx : a.eval (.tmp d) = x at hev
    cases hev
    exact hbool b hx
  · rw [hb] at hev
    generalize hx : a.eval (.tmp d) = x at hev
    cases hev
    exact hbool b hx
  · rw [hvs] at hev
    generalize hx : a.eval (.tmp d) = x at hev
    cases hev with
    | tup _ xs _ _ =>
    simp only [Act.eval, Array.getD_eq_getD_getElem?] at hx
    cases ht : a.tmps[d]? with
    | none => unfold yielded; rw [hd']; simp [ht]
    | some v => rw [ht] at hx; simp at hx; subst hx; unfold yielded; rw [hd']; simp [ht]

theorem known_cons {st : RS} {a : Act} {d : Nat} {b : Bool} (hc : CnR C st a w U ρ) (hb : a.tmps[d]? = some (.bool b)) : CnR C { st with known := (d, b) :: st.known } a w U ρ := by
  refine ⟨hc.tm, hc.hp, hc.new, fun d' b' h => ?_, hc.df, hc.r0⟩
  rw [List.lookup_cons] at h
  split at h
  · rename_i he
    cases h
    simp at he; rw [he]; exact hb
  · exact hc.kn d' b' h

theorem stepOp_ok {E : Env} (hE : EnvAll E) {ops : List Oper} {st st' : RS} {o : Oper} {a : Act} (h : (stepOp E ops st o).val = some st') (hc : CnR C st a w U ρ) (hW : Wd E.gl C w U)
    (K : Act → World → Prop) (Q : Exit → Act → World → Prop) (hK : ∀ a' w' U' ρ', CnR C st' a' w' U' ρ' → Wd E.gl C w' U' → K a' w') :
    if Region.wanted o (yielded ops.toArray a.tmps) then o.wp E.P a w K Q ∨ (o.asks E.P a w ∧ LetsOut Q) else K (a.put o.dst undef) w := by
  unfold stepOp at h
  split at h
  · rename_i hg
    simp only [Region.wanted, hg, if_true]
    exact .inl (goOp_ok hE h hc hW K Q hK)
  · rename_i j want hg
    split at h
    · rename_i hd
      simp at h; subst h
      have hy : yielded ops.toArray a.tmps j = none := by
        have hd' : (ops.toArray[j]?).bind (·.dst) = none := by simpa using hd
        unfold yielded; rw [hd']; rfl
      simp only [Region.wanted, hg, hy]
      rw [if_neg (by simp)]
      exact hK _ _ U ρ (skipOp_ok hc) hW
    · rename_i d hd
      obtain ⟨hkb, hbb, htt⟩ := guard_ok (E := E) hc hW.gl hd
      split at h
      · rename_i b hb
        obtain ⟨hy, _⟩ := hkb b hb
        simp only [Region.wanted, hg, hy]
        split at h
        · rename_i hbw
          simp at hbw; subst hbw
          rw [if_pos (by simp)]
          exact .inl (goOp_ok hE h hc hW K Q hK)
        · rename_i hbw
          simp at h; subst h
          rw [if_neg (by simpa using hbw)]
          exact hK _ _ U ρ (skipOp_ok hc) hW
      · rename_i vs hvs
        simp at h; subst h
        simp only [Region.wanted, hg, htt vs hvs]
        rw [if_neg (by simp)]
        exact hK _ _ U ρ (skipOp_ok hc) hW
      · rename_i b hb
        obtain ⟨hy, hslot⟩ := hbb b hb
        simp only [Region.wanted, hg, hy]
        cases b
        · simp only [Tr.val, Bool.false_eq_true, if_false] at h
          cases want
          · simp only [Bool.false_eq_true, if_false] at h
            rw [if_pos (by simp)]
            exact .inl (goOp_ok hE h (known_cons hc hslot) hW K Q hK)
          · simp at h; subst h
            rw [if_neg (by simp)]
            exact hK _ _ U ρ (skipOp_ok (known_cons hc hslot)) hW
        · simp only [Tr.val, if_true] at h
          cases want
          · simp at h; subst h
            rw [if_neg (by simp)]
            exact hK _ _ U ρ (skipOp_ok (known_cons hc hslot)) hW
          · simp only [if_true] at h
            rw [if_pos (by simp)]
            exact .inl (goOp_ok hE h (known_cons hc hslot) hW K Q hK)
      · simp at h

theorem evalOps_ok {E : Env} (hE : EnvAll E) {ops : List Oper} {Q : Exit → Act → World → Prop} {st' : RS} (hQ : ∀ a' w' U' ρ', CnR C st' a' w' U' ρ' → Wd E.gl C w' U' → Q .normal a' w') :
    ∀ (r : List Oper) (k : Nat) (st : RS) (a : Act) (w : World) (U : Nat → Prop) (ρ : Nat → Option Value), r = ops.drop k → (evalOps E ops r st).val = some st' → CnR C st a w U ρ → Wd E.gl C w U →
      wpOps E.P ops.toArray Q (List.range' k r.length) a w
  | [], k, st, a, w, U, ρ, _, h, hc, hW => by
    simp [evalOps] at h; subst h
    exact hQ a w U ρ hc hW
  | o :: r, k, st, a, w, U, ρ, hr, h, hc, hW => by
    simp only [evalOps, Tr.val_bind, Option.bind_eq_some_iff] at h
    obtain ⟨st1, h1, h2⟩ := h
    have hget : ops.toArray[k]? = some o := by
      have : ops[k]? = some o := by
        have := congrArg (·[0]?) hr
        simpa [List.getElem?_drop] using this.symm
      simpa using this
    have hdrop : r = ops.drop (k + 1) := by
      have := congrArg List.tail hr
      simpa using this
    simp only [List.length_cons, List.range'_succ, wpOps, hget]
    exact stepOp_ok hE h1 hc hW _ _ (fun a' w' U' ρ' hc' hW' => evalOps_ok hE hQ r (k + 1) st1 a' w' U' ρ' hdrop h2 hc' hW')

end
open Go

structure Did (E : Env) (ops : List Oper) (o : Oper) (s s' : RS) (r : Rec) : Prop where
  /-- what is known of slots is so -/
  tm : ∃ v, s'.tmps = putT s.tmps o.dst v
  len : s.heap.length ≤ s'.heap.length
  way : (∃ (kn : List (Nat × Bool)) (f : Eff), (∀ d b, kn.lookup d = some b → s.tmps.getD d .any = .bool b ∨ s.tmps.getD d .any = .kb b) ∧
      (∀ j want, o.guard = some (j, want) → ∃ d, (ops[j]?).bind (·.dst) = some d ∧ (s.tmps.getD d .any = .bool want ∨ s.tmps.getD d .any = .kb want)) ∧
      (evalOp E (evo E s.tmps kn) s.hp s.heap.length o).val = some f ∧ fpOkB s.hp (evo E s.tmps kn) o = true ∧ s'.tmps = putT s.tmps o.dst f.val ∧ s'.heap = wrAll s.heap f.wr ++ f.nw ∧
      (∀ p ∈ f.wr, p.1 < s.heap.length ∧ p.1 ∈ fpOp s.hp (evo E s.tmps kn) o) ∧ r = { fp := fpOp s.hp (evo E s.tmps kn) o, wr := f.wr.map (·.1), base := s.heap.length, nw := f.nw.length }) ∨
    ((∃ j want, o.guard = some (j, want) ∧ ((ops[j]?).bind (·.dst) = none ∨ ∃ d, (ops[j]?).bind (·.dst) = some d ∧ (s.tmps.getD d .any = .bool (!want) ∨ s.tmps.getD d .any = .kb (!want) ∨ ∃ vs, s.tmps.getD d .any = .tup vs))) ∧
      s'.tmps = putT s.tmps o.dst (.tup []) ∧ s'.heap = s.heap ∧ r = {})

def KnA (s : RS) : Prop := ∀ d b, s.known.lookup d = some b → s.tmps.getD d .any = .bool b ∨ s.tmps.getD d .any = .kb b

theorem forget_look {known : List (Nat × Bool)} {d : Option Tmp} {d' : Nat} {b : Bool} (h : (forget known d).lookup d' = some b) : known.lookup d' = some b ∧ d ≠ some d' := by
  cases d with
  | none => exact ⟨h, by simp⟩
  | some d =>
    simp only [forget] at h
    have key : ∀ (k : List (Nat × Bool)), (k.filter fun p => p.1 != d).lookup d' = some b → d' ≠ d ∧ k.lookup d' = some b := by
      intro k
      induction k with
      | nil => simp
      | cons p k ih =>
        intro hk
        rw [List.filter_cons] at hk
        split at hk
        · rename_i hp
          rw [List.lookup_cons] at hk ⊢
          split at hk
          · rename_i he
            cases hk
            simp at hp he
            exact ⟨by rw [he]; exact hp, by simp⟩
          · rename_i he
            obtain ⟨h1, h2⟩ := ih hk
            exact ⟨h1, h2⟩
        · rename_i hp
          obtain ⟨h1, h2⟩ := ih hk
          refine ⟨h1, ?_⟩
          rw [List.lookup_cons]
          have : (d' == p.1) = false := by
            simp at hp
            simp [hp, h1]
          rw [this]; exact h2
    obtain ⟨h1, h2⟩ := key known h
    exact ⟨h2, by simp; exact fun e => h1 e.symm⟩

theorem putT_getD {tmps : List AV} {d : Option Tmp} {v : AV} {s : Nat} (h : d ≠ some s) : (putT tmps d v).getD s .any = tmps.getD s .any := by
  cases d with
  | none => rfl
  | some d =>
    simp only [putT, List.getD_eq_getElem?_getD]
    rw [List.getElem?_set_ne (by simpa using h)]

theorem KnA.step {s : RS} {o : Oper} {tm : List AV} {v : AV} (h : KnA s) (htm : tm = putT s.tmps o.dst v) : ∀ d b, (forget s.known o.dst).lookup d = some b → tm.getD d .any = .bool b ∨ tm.getD d .any = .kb b := by
  intro d b hl
  obtain ⟨h1, h2⟩ := forget_look hl
  rw [htm, putT_getD h2]
  exact h d b h1

theorem goOp_did {E : Env} {ops : List Oper} {o : Oper} {s s' : RS} (kn : List (Nat × Bool)) (h : (goOp E o { s with known := kn }).val = some s') (hk : ∀ d b, kn.lookup d = some b → s.tmps.getD d .any = .bool b ∨ s.tmps.getD d .any = .kb b)
    (hg : ∀ j want, o.guard = some (j, want) → ∃ d, (ops[j]?).bind (·.dst) = some d ∧ (s.tmps.getD d .any = .bool want ∨ s.tmps.getD d .any = .kb want)) : ∃ r, Did E ops o s s' r ∧ s'.log = s.log ++ [r] ∧ KnA s' := by
  unfold goOp at h
  split at h
  · rename_i hfp
    simp only [Tr.val_bind, Option.bind_eq_some_iff] at h
    obtain ⟨f, hf, h⟩ := h
    split at h
    · rename_i hwl
      simp at h; subst h
      refine ⟨_, ⟨⟨f.val, rfl⟩, by simp [wrAll_length], .inl ⟨kn, f, hk, hg, hf, hfp, rfl, rfl, ?_, rfl⟩⟩, rfl, ?_⟩
      · intro p hp
        simp only [List.all_eq_true, Bool.and_eq_true, decide_eq_true_eq, List.contains_iff_mem] at hwl
        exact hwl p hp
      · intro d b hl
        obtain ⟨h1, h2⟩ := forget_look hl
        show (putT s.tmps o.dst f.val).getD d .any = .bool b ∨ (putT s.tmps o.dst f.val).getD d .any = .kb b
        rw [putT_getD h2]
        exact hk d b h1
    · simp at h
  · simp at h

theorem skipOp_did {E : Env} {ops : List Oper} {o : Oper} {s : RS} (kn : List (Nat × Bool)) (hk : ∀ d b, kn.lookup d = some b → s.tmps.getD d .any = .bool b ∨ s.tmps.getD d .any = .kb b)
    (hg : ∃ j want, o.guard = some (j, want) ∧ ((ops[j]?).bind (·.dst) = none ∨ ∃ d, (ops[j]?).bind (·.dst) = some d ∧ (s.tmps.getD d .any = .bool (!want) ∨ s.tmps.getD d .any = .kb (!want) ∨ ∃ vs, s.tmps.getD d .any = .tup vs))) :
    ∃ r, Did E ops o s (skipOp o { s with known := kn }) r ∧ (skipOp o { s with known := kn }).log = s.log ++ [r] ∧ KnA (skipOp o { s with known := kn }) := by
  refine ⟨{}, ⟨⟨_, rfl⟩, Nat.le_refl _, .inr ⟨hg, rfl, rfl, rfl⟩⟩, rfl, ?_⟩
  intro d b hl
  obtain ⟨h1, h2⟩ := forget_look hl
  show (putT s.tmps o.dst (.tup [])).getD d .any = .bool b ∨ (putT s.tmps o.dst (.tup [])).getD d .any = .kb b
  rw [putT_getD h2]
  exact hk d b h1

theorem stepOp_did {E : Env} {ops : List Oper} {o : Oper} {s s' : RS} (h : (stepOp E ops s o).val = some s') (hk : KnA s) : ∃ r, Did E ops o s s' r ∧ s'.log = s.log ++ [r] ∧ KnA s' := by
  have slot : ∀ d x, evo E s.tmps s.known (.tmp d) = x → (∀ b, x = .bool b → s.tmps.getD d .any = .bool b) ∧ (∀ b, x = .kb b → s.tmps.getD d .any = .bool b ∨ s.tmps.getD d .any = .kb b) ∧ (∀ vs, x = .tup vs → s.tmps.getD d .any = .tup vs) := by
    intro d x hx
    simp only [evo] at hx
    cases hl : s.known.lookup d with
    | some b =>
      rw [hl] at hx
      subst hx
      exact ⟨by simp, fun b' hb => by cases hb; exact hk d _ hl, by simp⟩
    | none =>
      rw [hl] at hx
      subst hx
      exact ⟨fun _ h => h, fun _ h => .inr h, fun _ h => h⟩
  unfold stepOp at h
  split at h
  · rename_i hg
    exact goOp_did s.known h hk (fun j want hh => by rw [hg] at hh; cases hh)
  · rename_i j want hg
    split at h
    · rename_i hd
      simp at h; subst h
      exact skipOp_did s.known hk ⟨j, want, hg, .inl hd⟩
    · rename_i d hd
      split at h
      · rename_i b hb
        have hs := (slot d _ hb).2.1 b rfl
        split at h
        · rename_i hbw
          simp at hbw; subst hbw
          exact goOp_did s.known h hk (fun j' want' hh => by rw [hg] at hh; cases hh; exact ⟨d, hd, hs⟩)
        · rename_i hbw
          simp at h; subst h
          have : b = !want := by revert hbw; cases b <;> cases want <;> simp
          subst this
          exact skipOp_did s.known hk ⟨j, want, hg, .inr ⟨d, hd, hs.elim .inl (fun h => .inr (.inl h))⟩⟩
      · rename_i vs hvs
        simp at h; subst h
        exact skipOp_did s.known hk ⟨j, want, hg, .inr ⟨d, hd, .inr (.inr ⟨vs, (slot d _ hvs).2.2 vs rfl⟩)⟩⟩
      · rename_i b hb
        have hs := (slot d _ hb).1 b rfl
        have hk' : ∀ x, x = b → ∀ d' b', ((d, x) :: s.known).lookup d' = some b' → s.tmps.getD d' .any = .bool b' ∨ s.tmps.getD d' .any = .kb b' := by
          intro x hx d' b' hl
          rw [List.lookup_cons] at hl
          split at hl
          · rename_i he
            cases hl
            simp at he; rw [he, hx]; exact .inl hs
          · exact hk d' b' hl
        cases b
        · simp only [Tr.val, Bool.false_eq_true, if_false] at h
          cases want
          · simp only [Bool.false_eq_true, if_false] at h
            exact goOp_did _ h (hk' false rfl) (fun j' want' hh => by rw [hg] at hh; cases hh; exact ⟨d, hd, .inl hs⟩)
          · simp at h; subst h
            exact skipOp_did _ (hk' false rfl) ⟨j, true, hg, .inr ⟨d, hd, .inl hs⟩⟩
        · simp only [Tr.val, if_true] at h
          cases want
          · simp at h; subst h
            exact skipOp_did _ (hk' true rfl) ⟨j, false, hg, .inr ⟨d, hd, .inl hs⟩⟩
          · simp only [if_true] at h
            exact goOp_did _ h (hk' true rfl) (fun j' want' hh => by rw [hg] at hh; cases hh; exact ⟨d, hd, .inl hs⟩)
      · simp at h

theorem evalOps_trace {E : Env} {ops : List Oper} : ∀ (r : List Oper) (s sN : RS), (evalOps E ops r s).val = some sN → KnA s → ∃ (S : Nat → RS) (R : Nat → Rec), S 0 = s ∧ S r.length = sN ∧
    (∀ i o, r[i]? = some o → Did E ops o (S i) (S (i + 1)) (R i)) ∧ sN.log = s.log ++ (List.range r.length).map R ∧ KnA sN
  | [], s, sN, h, hk => by
    simp [evalOps] at h; subst h
    exact ⟨fun _ => s, fun _ => {}, rfl, rfl, by simp, by simp, hk⟩
  | o :: r, s, sN, h, hk => by
    simp only [evalOps, Tr.val_bind, Option.bind_eq_some_iff] at h
    obtain ⟨s1, h1, h2⟩ := h
    obtain ⟨r0, hd, hlog, hk1⟩ := stepOp_did h1 hk
    obtain ⟨S, R, e0, eN, hS, hL, hkN⟩ := evalOps_trace r s1 sN h2 hk1
    refine ⟨fun i => match i with | 0 => s | i + 1 => S i, fun i => match i with | 0 => r0 | i + 1 => R i, rfl, eN, ?_, ?_, hkN⟩
    · intro i o' ho
      cases i with
      | zero => simp at ho; subst ho; simpa [e0] using hd
      | succ i => exact hS i o' (by simpa using ho)
    · rw [hL, hlog]
      simp [List.range_succ_eq_map, Function.comp_def]

open Go

inductive Anc (ops : List Oper) : Nat → Nat → Prop
  | edge {j : Nat} {o : Oper} {e : Edge} (ho : ops[j]? = some o) (he : e ∈ o.after.toList) (hb : Region.binds .any e = true) : Anc ops e.on j
  | step {i j : Nat} {o : Oper} {e : Edge} (ho : ops[j]? = some o) (he : e ∈ o.after.toList) (hb : Region.binds .any e = true) (h : Anc ops i e.on) : Anc ops i j

theorem ancs_ok {ops : List Oper} : ∀ (r : List Oper) (acc : List (List Nat)), r = ops.drop acc.length → (∀ j i, i ∈ acc.getD j [] → Anc ops i j) → ∀ j i, i ∈ (ancs r acc).getD j [] → Anc ops i j
  | [], acc, _, h => h
  | o :: r, acc, hr, h => by
    simp only [ancs]
    have hget : ops[acc.length]? = some o := by
      have := congrArg (·[0]?) hr
      simpa [List.getElem?_drop] using this.symm
    refine ancs_ok r _ (by
      have := congrArg List.tail hr
      simpa using this) ?_
    intro j i hi
    rw [List.getD_eq_getElem?_getD] at hi
    by_cases hj : j < acc.length
    · rw [List.getElem?_append_left hj, ← List.getD_eq_getElem?_getD] at hi
      exact h j i hi
    · by_cases hj' : j = acc.length
      · subst hj'
        rw [List.getElem?_append_right (Nat.le_refl _)] at hi
        simp only [Nat.sub_self, List.getElem?_cons_zero, Option.getD_some, List.mem_flatMap] at hi
        obtain ⟨e, he, hi⟩ := hi
        split at hi
        · rename_i hb
          rcases List.mem_cons.1 hi with rfl | hi
          · exact .edge hget he hb
          · exact .step hget he hb (h _ _ hi)
        · simp at hi
      · rw [List.getElem?_eq_none (by simp; omega)] at hi
        simp at hi

section
variable {E : Env} {C : Ctx} {ops : List Oper} {S : Nat → RS} {R : Nat → Rec}

structure InvD (E : Env) (C : Ctx) (ops : List Oper) (S : Nat → RS) (R : Nat → Rec) (L : Nat → Prop) (a : Act) (w : World) (U : Nat → Prop) (ρ : Nat → Option Value) (hpD : Nat → AO) : Prop where
  cl : ∀ (j : Nat) (o : Oper) (e : Edge), ops[j]? = some o → L j → e ∈ o.after.toList → Region.binds .any e = true → L e.on
  W : Wd E.gl C w U
  H : HpOk C w U ρ hpD
  tl : a.tmps.size = (S 0).tmps.length
  tm : ∀ (s k : Nat), k ≤ ops.length → (∀ (j : Nat) (o : Oper), ops[j]? = some o → o.dst = some s → (L j ↔ j < k)) → Rv w U ρ ((S k).tmps.getD s .any) (a.tmps.getD s undef)
  hp : ∀ (id k : Nat), k ≤ ops.length → (∀ j, j < ops.length → touchB (R j) id = true → (L j ↔ j < k)) → (S k).hp id = hpD id
  rn : ∀ id, (S 0).heap.length ≤ id → (∀ j, j < ops.length → L j → inNew (R j) id = false) → ρ id = none
  df : a.defers = []
  r0 : ∀ id v, C.ρ0 id = some v → ρ id = some v

theorem Did.slots {o : Oper} {s s' : RS} {r : Rec} (h : Did E ops o s s' r) {t : Nat} (ht : o.dst ≠ some t) : s'.tmps.getD t .any = s.tmps.getD t .any := by
  obtain ⟨v, hv⟩ := h.tm
  rw [hv, putT_getD ht]

theorem Did.tlen {o : Oper} {s s' : RS} {r : Rec} (h : Did E ops o s s' r) : s'.tmps.length = s.tmps.length := by
  obtain ⟨v, hv⟩ := h.tm
  rw [hv]
  cases o.dst <;> simp [putT]

theorem Did.wrfp {o : Oper} {s s' : RS} {r : Rec} (h : Did E ops o s s' r) : ∀ id ∈ r.wr, id ∈ r.fp := by
  rcases h.way with ⟨kn, f, _, _, _, _, _, _, hw, rfl⟩ | ⟨_, _, _, rfl⟩
  · intro id hid
    simp only [List.mem_map] at hid
    obtain ⟨p, hp, rfl⟩ := hid
    exact (hw p hp).2
  · simp

theorem Did.news {o : Oper} {s s' : RS} {r : Rec} (h : Did E ops o s s' r) {id : Nat} (hn : inNew r id = true) : s.heap.length ≤ id ∧ id < s'.heap.length := by
  rcases h.way with ⟨kn, f, _, _, _, _, _, hh, hw, rfl⟩ | ⟨_, _, _, rfl⟩
  · simp [inNew] at hn
    rw [hh]
    simp [wrAll_length]
    omega
  · simp [inNew] at hn

theorem Did.objs {o : Oper} {s s' : RS} {r : Rec} (h : Did E ops o s s' r) {id : Nat} (ht : touchB r id = false) : s'.hp id = s.hp id := by
  rcases h.way with ⟨kn, f, _, _, _, _, _, hh, hw, rfl⟩ | ⟨_, _, hh, rfl⟩
  · simp [touchB, inNew] at ht
    obtain ⟨h1, h2⟩ := ht
    simp only [RS.hp, hh]
    by_cases hid : id < s.heap.length
    · rw [List.getD_eq_getElem?_getD, List.getElem?_append_left (by rw [wrAll_length]; exact hid), ← List.getD_eq_getElem?_getD]
      exact wrAll_get f.wr s.heap id (fun ⟨o', ho'⟩ => h1 o' ho')
    · rw [List.getD_eq_getElem?_getD, List.getD_eq_getElem?_getD, List.getElem?_eq_none (by simp [wrAll_length]; have := h2 (by omega); omega), List.getElem?_eq_none (by omega)]
  · simp only [RS.hp, hh]

theorem slots_between (hS : ∀ (i : Nat) (o : Oper), ops[i]? = some o → Did E ops o (S i) (S (i + 1)) (R i)) {s : Nat} : ∀ (d i : Nat), i + d ≤ ops.length → (∀ (j : Nat) (o : Oper), ops[j]? = some o → o.dst = some s → i ≤ j → j < i + d → False) →
    (S (i + d)).tmps.getD s .any = (S i).tmps.getD s .any
  | 0, _, _, _ => rfl
  | d + 1, i, hle, h => by
    have hlt : i + d < ops.length := by omega
    have hget : ops[i + d]? = some ops[i + d] := List.getElem?_eq_getElem hlt
    rw [show i + (d + 1) = (i + d) + 1 by omega, (hS _ _ hget).slots (fun e => h _ _ hget e (by omega) (by omega))]
    exact slots_between hS d i (by omega) (fun j o ho hd h1 h2 => h j o ho hd h1 (by omega))

theorem objs_between (hS : ∀ (i : Nat) (o : Oper), ops[i]? = some o → Did E ops o (S i) (S (i + 1)) (R i)) {id : Nat} : ∀ (d i : Nat), i + d ≤ ops.length → (∀ j, i ≤ j → j < i + d → touchB (R j) id = false) →
    (S (i + d)).hp id = (S i).hp id
  | 0, _, _, _ => rfl
  | d + 1, i, hle, h => by
    have hlt : i + d < ops.length := by omega
    have hget : ops[i + d]? = some ops[i + d] := List.getElem?_eq_getElem hlt
    rw [show i + (d + 1) = (i + d) + 1 by omega, (hS _ _ hget).objs (h _ (by omega) (by omega))]
    exact objs_between hS d i (by omega) (fun j h1 h2 => h j h1 (by omega))

theorem heap_mono (hS : ∀ (i : Nat) (o : Oper), ops[i]? = some o → Did E ops o (S i) (S (i + 1)) (R i)) : ∀ (d i : Nat), i + d ≤ ops.length → (S i).heap.length ≤ (S (i + d)).heap.length
  | 0, _, _ => Nat.le_refl _
  | d + 1, i, hle => by
    have hlt : i + d < ops.length := by omega
    have hget : ops[i + d]? = some ops[i + d] := List.getElem?_eq_getElem hlt
    exact Nat.le_trans (heap_mono hS d i (by omega)) (hS _ _ hget).len

theorem tlen_all (hS : ∀ (i : Nat) (o : Oper), ops[i]? = some o → Did E ops o (S i) (S (i + 1)) (R i)) : ∀ i, i ≤ ops.length → (S i).tmps.length = (S 0).tmps.length
  | 0, _ => rfl
  | i + 1, h => by
    have hget : ops[i]? = some ops[i] := List.getElem?_eq_getElem h
    rw [(hS _ _ hget).tlen, tlen_all hS i (by omega)]

theorem news_apart (hS : ∀ (i : Nat) (o : Oper), ops[i]? = some o → Did E ops o (S i) (S (i + 1)) (R i)) {i j id : Nat} (hi : i < ops.length) (hj : j < ops.length) (h1 : inNew (R i) id = true) (h2 : inNew (R j) id = true) : i = j := by
  have gi := (hS i _ (List.getElem?_eq_getElem hi)).news h1
  have gj := (hS j _ (List.getElem?_eq_getElem hj)).news h2
  rcases Nat.lt_trichotomy i j with h | h | h
  · have := heap_mono hS (j - (i + 1)) (i + 1) (by omega)
    rw [show i + 1 + (j - (i + 1)) = j by omega] at this
    omega
  · exact h
  · have := heap_mono hS (i - (j + 1)) (j + 1) (by omega)
    rw [show j + 1 + (i - (j + 1)) = i by omega] at this
    omega

structure Soft (ops : List Oper) (R : Nat → Rec) (i j : Nat) (a : Nat) (oi oj : Oper) : Prop where
  hi : ops[i]? = some oi
  hj : ops[j]? = some oj
  opi : ∃ t x k, oi.op = .lookup t x k false
  opj : ∃ t m k, oj.op = .mapEntry t m k
  fpi : (R i).fp = [a]
  wri : (R i).wr = []
  nwi : (R i).nw = 0
  wrj : (R j).wr = [a]
  nwj : (R j).nw = 0
  sl : (meets oi.dst.toList (slotsOf ops oj) || meets oi.dst.toList oj.dst.toList || meets (slotsOf ops oi) oj.dst.toList) = false
  lt : i < j
  oth : ∀ l, l < ops.length → touchB (R l) a = true → l < i ∨ l = j ∨ (j < l ∧ Anc ops i l)

structure Ordered (ops : List Oper) (R : Nat → Rec) : Prop where
  back : ∀ (j : Nat) (o : Oper) (e : Edge), ops[j]? = some o → e ∈ o.after.toList → Region.binds .any e = true → e.on < j
  anc : ∀ (i j : Nat) (oi oj : Oper), i < j → ops[i]? = some oi → ops[j]? = some oj → clash ops oi oj (R i) (R j) = true → Anc ops i j ∨ ∃ a, Soft ops R i j a oi oj

theorem orderOk_ok {log : List Rec} (h : orderOk ops log = true) (hlog : log = (List.range ops.length).map R) : Ordered ops R := by
  unfold orderOk at h
  simp only [Bool.and_eq_true, List.all_eq_true] at h
  obtain ⟨h1, h2⟩ := h
  constructor
  · intro j o e ho he hb
    have hlt : j < ops.length := (List.getElem?_eq_some_iff.1 ho).1
    have hmem : (o, j) ∈ ops.zipIdx := by
      rw [List.mem_zipIdx_iff_getElem?]
      exact ho
    have := h1 _ hmem e he
    simpa [hb] using this
  · intro i j oi oj hij hi hj hc
    have hlt : j < ops.length := (List.getElem?_eq_some_iff.1 hj).1
    have := h2 j (List.mem_range.2 hlt) i (List.mem_range.2 hij)
    have lk : ∀ k, k < ops.length → log[k]? = some (R k) := by intro k hk; rw [hlog]; simp [List.getElem?_range hk]
    have li : log[i]? = some (R i) := lk i (by omega)
    have lj : log[j]? = some (R j) := lk j hlt
    simp only [hi, hj, li, lj, hc, Bool.not_true, Bool.false_or, Bool.or_eq_true, List.contains_iff_mem] at this
    rcases this with this | this
    · exact .inl (ancs_ok ops [] (by simp) (by simp) j i this)
    · unfold softOk at this
      split at this
      · rename_i t x k t' m k' a b e1 e2 e3 e4
        simp only [Bool.and_eq_true, Bool.not_eq_true', beq_iff_eq, List.all_eq_true, List.isEmpty_iff, List.mem_range] at this
        obtain ⟨⟨⟨⟨⟨t1, t2⟩, t3⟩, t4⟩, t5⟩, t6⟩ := this
        subst t1
        refine .inr ⟨b, hi, hj, ⟨t, x, k, e1⟩, ⟨t', m, k', e2⟩, e3, t2, t3, e4, t4, t5, hij, fun l hl ht => ?_⟩
        have := t6 l hl
        rw [lk l hl] at this
        simp only [ht, Bool.not_true, Bool.false_or, Bool.or_eq_true, decide_eq_true_eq, beq_iff_eq, Bool.and_eq_true, List.contains_iff_mem] at this
        rcases this with (this | this) | ⟨this, ha⟩
        · exact .inl this
        · exact .inr (.inl this)
        · exact .inr (.inr ⟨this, ancs_ok ops [] (by simp) (by simp) l i ha⟩)
      · cases this

theorem Soft.touch {i j a : Nat} {oi oj : Oper} (h : Soft ops R i j a oi oj) (id : Nat) : touchB (R i) id = false := by
  unfold touchB inNew
  rw [h.wri, h.nwi]
  simp

theorem meets_iff {a b : List Nat} : meets a b = true ↔ ∃ x, x ∈ a ∧ x ∈ b := by simp [meets]

variable {L : Nat → Prop} {a : Act} {w : World} {U : Nat → Prop} {ρ : Nat → Option Value} {hpD : Nat → AO}

theorem InvD.anc (h : InvD E C ops S R L a w U ρ hpD) {i j : Nat} (ha : Anc ops i j) (hj : L j) : L i := by
  induction ha with
  | edge ho he hb => exact h.cl _ _ _ ho hj he hb
  | step ho he hb _ ih => exact ih (h.cl _ _ _ ho hj he hb)

theorem InvD.ready (h : InvD E C ops S R L a w U ρ hpD) {i j : Nat} {o : Oper} (ho : ops[j]? = some o) (hr : ∀ e ∈ o.after.toList, Region.binds .any e = true → L e.on) (ha : Anc ops i j) : L i := by
  cases ha with
  | edge ho' he hb => rw [ho] at ho'; cases ho'; exact hr _ he hb
  | step ho' he hb hs => rw [ho] at ho'; cases ho'; exact h.anc hs (hr _ he hb)

theorem InvD.slotAt (hO : Ordered ops R) (h : InvD E C ops S R L a w U ρ hpD) {i : Nat} {o : Oper} (ho : ops[i]? = some o) (hn : ¬ L i) (hr : ∀ e ∈ o.after.toList, Region.binds .any e = true → L e.on) {s : Nat}
    (hs : s ∈ slotsOf ops o ∨ o.dst = some s) : ∀ (j : Nat) (oj : Oper), ops[j]? = some oj → oj.dst = some s → (L j ↔ j < i) := by
  intro j oj hoj hd
  constructor
  · intro hL
    rcases Nat.lt_trichotomy j i with hlt | rfl | hlt
    · exact hlt
    · exact (hn hL).elim
    · exfalso
      have hc : (meets o.dst.toList (slotsOf ops oj) || meets o.dst.toList oj.dst.toList || meets (slotsOf ops o) oj.dst.toList) = true := by
        simp only [Bool.or_eq_true, meets_iff]
        rcases hs with hs | hs
        · exact .inr ⟨s, hs, by simp [hd]⟩
        · exact .inl (.inr ⟨s, by simp [hs], by simp [hd]⟩)
      rcases hO.anc i j o oj hlt ho hoj (by unfold clash; simp only [hc, Bool.true_or]) with ha | ⟨b, hb⟩
      · exact hn (h.anc ha hL)
      · rw [hb.sl] at hc; cases hc
  · intro hlt
    have hc : (meets oj.dst.toList (slotsOf ops o) || meets oj.dst.toList o.dst.toList || meets (slotsOf ops oj) o.dst.toList) = true := by
      simp only [Bool.or_eq_true, meets_iff]
      rcases hs with hs | hs
      · exact .inl (.inl ⟨s, by simp [hd], hs⟩)
      · exact .inl (.inr ⟨s, by simp [hd], by simp [hs]⟩)
    rcases hO.anc j i oj o hlt hoj ho (by unfold clash; simp only [hc, Bool.true_or]) with ha | ⟨b, hb⟩
    · exact h.ready ho hr ha
    · rw [hb.sl] at hc; cases hc

theorem InvD.objAt (hS : ∀ (i : Nat) (o : Oper), ops[i]? = some o → Did E ops o (S i) (S (i + 1)) (R i)) (hO : Ordered ops R) (h : InvD E C ops S R L a w U ρ hpD) {i : Nat} {o : Oper} (ho : ops[i]? = some o) (hn : ¬ L i)
    (hr : ∀ e ∈ o.after.toList, Region.binds .any e = true → L e.on) {id : Nat} (hs : id ∈ (R i).fp ∨ touchB (R i) id = true) (hns : ∀ j a oj, ¬ (Soft ops R i j a o oj ∧ L j)) : ∀ j, j < ops.length → touchB (R j) id = true → (L j ↔ j < i) := by
  intro j hj ht
  have hi : i < ops.length := (List.getElem?_eq_some_iff.1 ho).1
  have hoj : ops[j]? = some ops[j] := List.getElem?_eq_getElem hj
  have hwi := (hS i o ho).wrfp
  have hwj := (hS j _ hoj).wrfp
  have tj : id ∈ (R j).wr ∨ inNew (R j) id = true := by simpa [touchB] using ht
  have ti : id ∈ (R i).fp ∨ inNew (R i) id = true := by
    rcases hs with hs | hs
    · exact .inl hs
    · have : id ∈ (R i).wr ∨ inNew (R i) id = true := by simpa [touchB] using hs
      exact this.imp (hwi id) (fun x => x)
  by_cases hij : i = j
  · subst hij
    exact ⟨fun h' => (hn h').elim, fun h' => absurd h' (Nat.lt_irrefl _)⟩
  have hclash : ∀ (oi oj : Oper), clash ops oi oj (R i) (R j) = true ∧ clash ops oj oi (R j) (R i) = true := by
    intro oi oj
    unfold clash
    simp only [Bool.or_eq_true, meets_iff, List.any_eq_true]
    rcases ti with ti | ti <;> rcases tj with tj | tj
    · exact ⟨.inl (.inl (.inr ⟨id, ti, tj⟩)), .inl (.inl (.inl (.inr ⟨id, tj, ti⟩)))⟩
    · exact ⟨.inr ⟨id, ti, tj⟩, .inl (.inr ⟨id, ti, tj⟩)⟩
    · exact ⟨.inl (.inr ⟨id, hwj id tj, ti⟩), .inr ⟨id, hwj id tj, ti⟩⟩
    · exact (hij (news_apart hS hi hj ti tj)).elim
  constructor
  · intro hL
    rcases Nat.lt_or_gt_of_ne hij with hlt | hlt
    · rcases hO.anc i j o _ hlt ho hoj (hclash o _).1 with ha | ⟨b, hb⟩
      · exact (hn (h.anc ha hL)).elim
      · exact (hns _ _ _ ⟨hb, hL⟩).elim
    · exact hlt
  · intro hlt
    rcases hO.anc j i _ o hlt hoj ho (hclash o _).2 with ha | ⟨b, hb⟩
    · exact h.ready ho hr ha
    · rw [hb.touch id] at ht; cases ht

theorem vget_vent (es : List ((Int × Int × Str) × Int)) (v k : Int × Int × Str) : vget (vent es v) k = vget es k := by
  unfold vent
  cases vhas es v with
  | true => rfl
  | false =>
    simp only [cond_false, vget, List.find?_append]
    cases es.find? (fun p => k == p.1) with
    | some p => rfl
    | none =>
      simp only [Option.none_or, List.find?_cons, List.find?_nil]
      split <;> rfl

theorem evLookup_soft {P : Program} {hp hp' : Nat → AO} {t : TypeId} {x i : AV} {f : Eff} {b : Nat} {es : List ((Int × Int × Str) × Int)} {v : Int × Int × Str} (h : (evLookup P hp t x i false).val = some f) (hx : ∀ id ∈ x.ids, id = b)
    (h1 : hp b = .vmap false es) (h2 : hp' b = .vmap false (vent es v)) : (evLookup P hp' t x i false).val = some f := by
  cases x with
  | mp id =>
    have : id = b := hx id (by simp [AV.ids])
    subst this
    unfold evLookup at h ⊢
    cases hu : P.underlying t with
    | none => simp [hu] at h
    | some u =>
      cases u with
      | map kt et =>
        simp only [hu] at h ⊢
        cases hk : P.underlying kt with
        | none => simp [hk] at h
        | some ku =>
          cases ku with
          | string => simp only [hk] at h; cases i <;> simp [h1] at h
          | struct fs =>
            simp only [hk] at h ⊢
            split at h
            · rename_i hv
              rw [if_pos hv]
              cases hvk : vkey i with
              | none => simp [hvk] at h
              | some v1 =>
                simp only [hvk, h1, Bool.false_eq_true, if_false] at h
                simp only [h2, Bool.false_eq_true, if_false, vget_vent]
                exact h
            · simp at h
          | _ => simp [hk] at h
      | _ => simp [hu] at h
  | _ =>
    exfalso
    unfold evLookup at h
    split at h
    · split at h
      · split at h <;> simp_all
      · split at h
        · split at h <;> simp_all
        · simp at h
      · simp at h
    · simp at h

end
open Go
section
variable {E : Env} {C : Ctx} {ops : List Oper} {S : Nat → RS} {R : Nat → Rec} {L : Nat → Prop} {a : Act} {w : World} {U : Nat → Prop} {ρ : Nat → Option Value} {hpD : Nat → AO}

theorem put_getD {a : Act} {d : Option Tmp} {v : Value} {s : Nat} (h : d ≠ some s) : (a.put d v).tmps.getD s undef = a.tmps.getD s undef := by
  cases d with
  | none => rfl
  | some d =>
    simp only [Act.put, Array.getD_eq_getD_getElem?]
    rw [Array.getElem?_setIfInBounds_ne (by simpa using h)]

theorem put_size {a : Act} {d : Option Tmp} {v : Value} : (a.put d v).tmps.size = a.tmps.size := by
  cases d <;> simp [Act.put]

theorem put_defers {a : Act} {d : Option Tmp} {v : Value} : (a.put d v).defers = a.defers := by
  cases d <;> rfl

theorem put_self {a : Act} {s : Nat} {v : Value} {c : AV} {tmps : List AV} (hl : tmps.length = a.tmps.size) (h : Rv w U ρ c v) : Rv w U ρ ((putT tmps (some s) c).getD s .any) ((a.put (some s) v).tmps.getD s undef) := by
  simp only [putT, Act.put, List.getD_eq_getElem?_getD, Array.getD_eq_getD_getElem?]
  by_cases hs : s < tmps.length
  · rw [List.getElem?_set_self hs, Array.getElem?_setIfInBounds_self_of_lt (by omega)]
    exact h
  · rw [List.getElem?_set, if_pos rfl, if_neg hs]
    exact .any _

theorem InvD.next (hS : ∀ (i : Nat) (o : Oper), ops[i]? = some o → Did E ops o (S i) (S (i + 1)) (R i)) (hO : Ordered ops R) (h : InvD E C ops S R L a w U ρ hpD) {i : Nat} {o : Oper} (ho : ops[i]? = some o) (hn : ¬ L i)
    (hr : ∀ e ∈ o.after.toList, Region.binds .any e = true → L e.on) {v : Value} {w' : World} {U' : Nat → Prop} {ρ' : Nat → Option Value} {hpD' : Nat → AO} (hW : Wd E.gl C w' U') (hH : HpOk C w' U' ρ' hpD')
    (mono : ∀ {c : AV} {x : Value}, Rv w U ρ c x → Rv w' U' ρ' c x) (hv : ∀ s, o.dst = some s → Rv w' U' ρ' ((S (i + 1)).tmps.getD s .any) ((a.put o.dst v).tmps.getD s undef))
    (hobj : ∀ id, hpD' id = if touchB (R i) id then (S (i + 1)).hp id else hpD id) (hrho : ∀ id, inNew (R i) id = false → ρ' id = ρ id) (hrhon : ∀ id v, ρ id = some v → ρ' id = some v) :
    InvD E C ops S R (fun j => L j ∨ j = i) (a.put o.dst v) w' U' ρ' hpD' := by
  have hi : i < ops.length := (List.getElem?_eq_some_iff.1 ho).1
  refine ⟨?_, hW, hH, by rw [put_size]; exact h.tl, ?_, ?_, ?_, by rw [put_defers]; exact h.df, fun id v h' => hrhon id v (h.r0 id v h')⟩
  · intro j oj e hoj hL he hb
    rcases hL with hL | rfl
    · exact .inl (h.cl j oj e hoj hL he hb)
    · rw [ho] at hoj; cases hoj
      exact .inl (hr e he hb)
  · intro s k hk hcons
    by_cases hd : o.dst = some s
    · have hik : i < k := (hcons i o ho hd).1 (.inr rfl)
      have hno : ∀ (j : Nat) (oj : Oper), ops[j]? = some oj → oj.dst = some s → i + 1 ≤ j → j < k → False := by
        intro j oj hoj hdj h1 h2
        have hLj := (hcons j oj hoj hdj).2 h2
        rcases hLj with hLj | rfl
        · have := (h.slotAt hO ho hn hr (.inr hd) j oj hoj hdj).1 hLj
          omega
        · omega
      have hb := slots_between hS (s := s) (k - (i + 1)) (i + 1) (by omega) (fun j oj hoj hdj h1 h2 => hno j oj hoj hdj h1 (by omega))
      rw [show i + 1 + (k - (i + 1)) = k by omega] at hb
      rw [hb]
      exact hv s hd
    · rw [put_getD hd]
      refine mono (h.tm s k hk (fun j oj hoj hdj => ?_))
      have := hcons j oj hoj hdj
      have hne : j ≠ i := by rintro rfl; rw [ho] at hoj; cases hoj; exact hd hdj
      exact ⟨fun hL => this.1 (.inl hL), fun hlt => (this.2 hlt).resolve_right hne⟩
  · intro id k hk hcons
    rw [hobj id]
    by_cases ht : touchB (R i) id = true
    · rw [if_pos ht]
      have hik : i < k := (hcons i hi ht).1 (.inr rfl)
      have hb := objs_between hS (id := id) (k - (i + 1)) (i + 1) (by omega) (fun j h1 h2 => by
        by_cases htj : touchB (R j) id = true
        · exfalso
          have hLj := (hcons j (by omega) htj).2 (by omega)
          rcases hLj with hLj | rfl
          · have := (h.objAt hS hO ho hn hr (.inr ht) (fun _ _ _ hh => by rw [hh.1.touch id] at ht; cases ht) j (by omega) htj).1 hLj
            omega
          · omega
        · simpa using htj)
      rw [show i + 1 + (k - (i + 1)) = k by omega] at hb
      exact hb
    · rw [if_neg ht]
      refine h.hp id k hk (fun j hj htj => ?_)
      have := hcons j hj htj
      have hne : j ≠ i := by rintro rfl; exact ht htj
      exact ⟨fun hL => this.1 (.inl hL), fun hlt => (this.2 hlt).resolve_right hne⟩
  · intro id h0 hnew
    have hi' := hnew i hi (.inr rfl)
    rw [hrho id hi']
    exact h.rn id h0 (fun j hj hL => hnew j hj (.inl hL))

theorem evEntry_soft {P : Program} {hp : Nat → AO} {t : TypeId} {m k : AV} {f : Eff} {b : Nat} (h : (evEntry P hp t m k).val = some f) (hw : f.wr.map (·.1) = [b]) :
    ∃ es v, hp b = .vmap false es ∧ f.wr = [(b, .vmap false (vent es v))] ∧ f.nw = [] := by
  unfold evEntry at h
  split at h
  · split at h
    · split at h
      · rename_i id v _
        split at h
        · rename_i es hid
          split at h
          · split at h
            · simp only [Tr.val] at h
              split at h
              · simp only [Option.some.injEq] at h
                subst h
                simp at hw
                subst hw
                exact ⟨es, v, hid, rfl, rfl⟩
              · cases h
            · simp at h
          · simp at h
        · simp at h
      · simp at h
    · simp at h
  · simp at h

theorem InvD.objX (hS : ∀ (i : Nat) (o : Oper), ops[i]? = some o → Did E ops o (S i) (S (i + 1)) (R i)) (hO : Ordered ops R) (h : InvD E C ops S R L a w U ρ hpD) {i : Nat} {o : Oper} (ho : ops[i]? = some o) (hn : ¬ L i)
    (hr : ∀ e ∈ o.after.toList, Region.binds .any e = true → L e.on) {kn : List (Nat × Bool)} {f : Eff} {n : Nat} (hf : (evalOp E (evo E (S i).tmps kn) (S i).hp n o).val = some f) (hRfp : (R i).fp = fpOp (S i).hp (evo E (S i).tmps kn) o)
    (hfp : fpOkB (S i).hp (evo E (S i).tmps kn) o = true) : ∃ hpX : Nat → AO, (evalOp E (evo E (S i).tmps kn) hpX n o).val = some f ∧ (∀ id, id ∈ (R i).fp ∨ touchB (R i) id = true → hpX id = hpD id) ∧
      (deepOp o.op = true → ∀ id ∈ (R i).fp, ∀ j ∈ (hpX id).ids, j ∈ (R i).fp) := by
  have hi : i < ops.length := (List.getElem?_eq_some_iff.1 ho).1
  obtain ⟨hin, hcl⟩ := fpOkB_ok hfp
  by_cases hs : ∃ j b oj, Soft ops R i j b o oj ∧ L j
  · obtain ⟨j, b, oj, hs, hLj⟩ := hs
    have hjl : j < ops.length := (List.getElem?_eq_some_iff.1 hs.hj).1
    have hlt := hs.lt
    have hcons : ∀ l, l < ops.length → touchB (R l) b = true → (L l ↔ l < j + 1) := by
      intro l hl ht
      rcases hs.oth l hl ht with h1 | rfl | ⟨h1, h2⟩
      · refine ⟨fun _ => by omega, fun _ => ?_⟩
        have hc : clash ops ops[l] o (R l) (R i) = true := by
          unfold clash
          simp only [Bool.or_eq_true, meets_iff, List.any_eq_true]
          have tl : b ∈ (R l).wr ∨ inNew (R l) b = true := by simpa [touchB] using ht
          have bi : b ∈ (R i).fp := by rw [hs.fpi]; simp
          rcases tl with tl | tl
          · exact .inl (.inl (.inl (.inr ⟨b, tl, bi⟩)))
          · exact .inl (.inr ⟨b, bi, tl⟩)
        rcases hO.anc l i _ o h1 (List.getElem?_eq_getElem hl) ho hc with ha | ⟨b', hb'⟩
        · exact h.ready ho hr ha
        · rw [hb'.touch b] at ht; cases ht
      · exact ⟨fun _ => by omega, fun _ => hLj⟩
      · exact ⟨fun hL => (hn (h.anc h2 hL)).elim, fun hlt => by omega⟩
    have e1 : (S (j + 1)).hp b = hpD b := h.hp b (j + 1) (by omega) hcons
    have e2 : (S j).hp b = (S i).hp b := by
      have := objs_between hS (id := b) (j - i) i (by omega) (fun l h1 h2 => by
        by_cases ht : touchB (R l) b = true
        · rcases hs.oth l (by omega) ht with h3 | h3 | ⟨h3, _⟩ <;> omega
        · simpa using ht)
      rwa [show i + (j - i) = j by omega] at this
    obtain ⟨t, m, k, hop⟩ := hs.opj
    rcases (hS j oj hs.hj).way with ⟨kn', f', _, _, hf', _, _, hhp, hwr, hR'⟩ | ⟨_, _, _, hR'⟩
    · have hw : f'.wr.map (·.1) = [b] := by rw [← hs.wrj, hR']
      unfold evalOp at hf'
      rw [hop] at hf'
      simp only at hf'
      obtain ⟨es, v, h3, h4, h5⟩ := evEntry_soft hf' hw
      have hb := (hwr (b, .vmap false (vent es v)) (by rw [h4]; simp)).1
      have e3 : (S (j + 1)).hp b = .vmap false (vent es v) := by
        simp only [RS.hp, hhp, h4, h5, wrAll, List.append_nil]
        rw [List.getD_eq_getElem?_getD, List.getElem?_set_self hb]
        rfl
      obtain ⟨t2, x2, k2, hop2⟩ := hs.opi
      refine ⟨(S (j + 1)).hp, ?_, ?_, ?_⟩
      · unfold evalOp at hf ⊢
        rw [hop2] at hf ⊢
        simp only at hf ⊢
        refine evLookup_soft hf (fun id hid => ?_) (by rw [← e2]; exact h3) e3
        have := hin (by rw [hop2]; rfl) x2 (by rw [hop2]; simp [Op.operands]) id hid
        rw [← hRfp, hs.fpi] at this
        simpa using this
      · intro id hid
        rcases hid with hid | hid
        · rw [hs.fpi] at hid
          simp at hid
          subst hid
          exact e1
        · rw [hs.touch] at hid; cases hid
      · intro _ id hid
        rw [hs.fpi] at hid
        simp at hid
        subst hid
        rw [e3]
        simp [AO.ids]
    · have := hs.wrj
      rw [hR'] at this
      cases this
  · refine ⟨(S i).hp, hf, fun id hid => h.hp id i (by omega) (h.objAt hS hO ho hn hr hid (fun j a oj hh => hs ⟨j, a, oj, hh⟩)), ?_⟩
    rw [hRfp]; exact hcl

theorem exec_ok (hE : EnvAll E) (hS : ∀ (i : Nat) (o : Oper), ops[i]? = some o → Did E ops o (S i) (S (i + 1)) (R i)) (hO : Ordered ops R) (h : InvD E C ops S R L a w U ρ hpD) {i : Nat} {o : Oper} (ho : ops[i]? = some o) (hn : ¬ L i)
    (hr : ∀ e ∈ o.after.toList, Region.binds .any e = true → L e.on) (K : Act → World → Prop) (Q : Exit → Act → World → Prop)
    (hK : ∀ a' w' U' ρ' hpD', InvD E C ops S R (fun j => L j ∨ j = i) a' w' U' ρ' hpD' → K a' w') : wpOp E.P ops.toArray Q i K a w := by
  have hi : i < ops.length := (List.getElem?_eq_some_iff.1 ho).1
  have hget : ops.toArray[i]? = some o := by simpa using ho
  have hdid := hS i o ho
  have hslot : ∀ s, s ∈ slotsOf ops o → Rv w U ρ ((S i).tmps.getD s .any) (a.tmps.getD s undef) := fun s hs => h.tm s i (by omega) (h.slotAt hO ho hn hr (.inl hs))
  have hlen : (S i).tmps.length = a.tmps.size := by rw [tlen_all hS i (by omega), h.tl]
  have hguard : ∀ (j : Nat) (want : Bool) d, o.guard = some (j, want) → (ops[j]?).bind (·.dst) = some d → Rv w U ρ ((S i).tmps.getD d .any) (a.tmps.getD d undef) := by
    intro j want d hg hd
    refine hslot d ?_
    simp only [slotsOf, hg, List.mem_append]
    exact .inr (by simp [hd])
  have yieldOf : ∀ (j : Nat) (d : Nat) (b : Bool), (ops[j]?).bind (·.dst) = some d → a.tmps.getD d undef = .bool b → yielded ops.toArray a.tmps j = some b := by
    intro j d b hd hb
    have hd' : (ops.toArray[j]?).bind (·.dst) = some d := by simpa using hd
    rw [Array.getD_eq_getD_getElem?] at hb
    have : a.tmps[d]? = some (.bool b) := by
      cases ht : a.tmps[d]? with
      | none => rw [ht] at hb; simp [undef] at hb
      | some v => rw [ht] at hb; simp at hb; rw [hb]
    unfold yielded; rw [hd']; simp [this]
  have boolOf : ∀ (c : AV) (x : Value) (b : Bool), Rv w U ρ c x → (c = .bool b ∨ c = .kb b) → x = .bool b := by
    rintro c x b hr (rfl | rfl) <;> cases hr <;> rfl
  unfold wpOp
  rw [hget]
  show (if Region.wanted o (yielded ops.toArray a.tmps) then _ else _)
  rcases hdid.way with ⟨kn, f, hkn, hg, hf, hfp, htm, hhp, hwr, hR⟩ | ⟨⟨j, want, hg, hcase⟩, htm, hhp, hR⟩
  · -- it is done
    have hw : Region.wanted o (yielded ops.toArray a.tmps) = true := by
      unfold Region.wanted
      split
      · rfl
      · rename_i j want hgd
        obtain ⟨d, hd, hv⟩ := hg j want hgd
        rw [yieldOf j d want hd (boolOf _ _ _ (hguard j want d hgd hd) hv)]
        simp
    rw [if_pos hw]
    refine .inl ?_
    obtain ⟨hin, _⟩ := fpOkB_ok hfp
    have hRfp : (R i).fp = fpOp (S i).hp (evo E (S i).tmps kn) o := by rw [hR]
    obtain ⟨hpX, hfX, hobjs, hcl⟩ := h.objX hS hO ho hn hr hf hRfp hfp
    rw [hRfp] at hcl
    have hRn : ∀ id, inNew (R i) id = true ↔ (S i).heap.length ≤ id ∧ id < (S i).heap.length + f.nw.length := by intro id; rw [hR]; simp [inNew]
    have hRt : ∀ id, touchB (R i) id = true ↔ (∃ o', (id, o') ∈ f.wr) ∨ ((S i).heap.length ≤ id ∧ id < (S i).heap.length + f.nw.length) := by
      intro id; rw [hR]; simp [touchB, inNew]
    have hnone : ∀ j, j < f.nw.length → ρ ((S i).heap.length + j) = none := by
      intro j hj
      have hm := heap_mono hS i 0 (by omega)
      rw [Nat.zero_add] at hm
      refine h.rn _ (by omega) (fun j' hj' hL => ?_)
      by_cases hin' : inNew (R j') ((S i).heap.length + j) = true
      · have := news_apart hS hi hj' ((hRn _).2 ⟨by omega, by omega⟩) hin'
        subst this
        exact (hn hL).elim
      · simpa using hin'
    obtain ⟨hwp, _⟩ := evalOp_ok hE (w := w) (U := U) (ρ := ρ) (a := a) (fp := fpOp (S i).hp (evo E (S i).tmps kn) o) hfX (fun x hx => by
        cases x with
        | tmp t =>
          have hst : t ∈ slotsOf ops o := by
            simp only [slotsOf, List.mem_append, List.mem_filterMap]
            exact .inl ⟨.tmp t, hx, rfl⟩
          have := hslot t hst
          simp only [evo, Act.eval]
          cases hk : kn.lookup t with
          | some b =>
            rw [boolOf _ _ b this (hkn t b hk)]
            exact .kb b
          | none => exact this
        | const v => exact absV_ok v
        | global g => exact (h.W.gl g).mono (Nat.le_refl _) (fun _ _ _ => rfl) (fun _ _ h => h) (fun _ _ h => by cases h)
        | func f => simp only [evo, Act.eval]; exact .clo (.func f) [] [] [] [] rfl rfl (by simp) (by simp))
      h.W.ub h.W.gl
      ⟨fun id hid => by rw [hobjs id (.inl (by rw [hRfp]; exact hid))]; exact h.H.ob id, fun id1 h1 id2 h2 b => by
        rw [hobjs id1 (.inl (by rw [hRfp]; exact h1)), hobjs id2 (.inl (by rw [hRfp]; exact h2))]; exact h.H.inj id1 id2 b⟩ hin hcl hnone
    refine hwp K Q (fun v w' U' ρ' hef => ?_)
    have hwl : ∀ p ∈ f.wr, p.1 < (S i).heap.length := fun p hp => (hwr p hp).1
    have hnext : ∀ id, touchB (R i) id = true → (S (i + 1)).hp id = (wrAll (S i).heap f.wr ++ f.nw).getD id .dead := by
      intro id _; simp only [RS.hp, hhp]
    obtain ⟨hW', hH', mono⟩ := apply_ef (hp' := fun id => if touchB (R i) id then (S (i + 1)).hp id else hpD id) h.W h.H hef (fun id o' hid => hobjs id (.inr ((hRt id).2 (.inl ⟨o', hid⟩))))
      (fun id hex => by
        obtain ⟨o', h1, h2⟩ := wrAll_set f.wr (S i).heap id hwl hex
        have ht := (hRt id).2 (.inl hex)
        refine ⟨o', h1, ?_⟩
        show (if touchB (R i) id then (S (i + 1)).hp id else hpD id) = o'
        rw [if_pos ht, hnext id ht]
        have : id < (S i).heap.length := hwl _ h1
        rw [List.getD_eq_getElem?_getD, List.getElem?_append_left (by rw [wrAll_length]; exact this), ← List.getD_eq_getElem?_getD]
        exact h2)
      (fun j o' hj => by
        have hlt := (List.getElem?_eq_some_iff.1 hj).1
        have ht := (hRt ((S i).heap.length + j)).2 (.inr ⟨by omega, by omega⟩)
        show (if touchB (R i) _ then (S (i + 1)).hp _ else hpD _) = o'
        rw [if_pos ht, hnext _ ht]
        rw [List.getD_eq_getElem?_getD, List.getElem?_append_right (by rw [wrAll_length]; omega), wrAll_length, show (S i).heap.length + j - (S i).heap.length = j by omega, hj]
        rfl)
      (fun id hno hid => by
        have ht : ¬ touchB (R i) id = true := by
          rw [hRt id]
          rintro (h1 | ⟨h1, h2⟩)
          · exact hno h1
          · omega
        show (if touchB (R i) id then (S (i + 1)).hp id else hpD id) = hpD id
        rw [if_neg ht])
    refine hK _ _ U' ρ' _ (h.next hS hO ho hn hr hW' hH' mono ?_ (fun id => rfl) (fun id hid => hef.rho id ?_) hef.rhon)
    · intro s hs
      rw [htm, hs]
      exact put_self hlen hef.val
    · have : ¬ inNew (R i) id = true := by rw [hid]; simp
      rw [hRn id] at this
      omega
  · -- it is left out
    have hw : ¬ Region.wanted o (yielded ops.toArray a.tmps) = true := by
      unfold Region.wanted
      rw [hg]
      simp only [beq_iff_eq]
      rcases hcase with hd | ⟨d, hd, hv⟩
      · have hd' : (ops.toArray[j]?).bind (·.dst) = none := by simpa using hd
        unfold yielded; rw [hd']; simp
      · have hrv := hguard j want d hg hd
        rcases hv with hv | hv | ⟨vs, hv⟩
        · rw [yieldOf j d _ hd (boolOf _ _ _ hrv (.inl hv))]
          cases want <;> simp
        · rw [yieldOf j d _ hd (boolOf _ _ _ hrv (.inr hv))]
          cases want <;> simp
        · rw [hv] at hrv
          have hd' : (ops.toArray[j]?).bind (·.dst) = some d := by simpa using hd
          generalize hx : a.tmps.getD d undef = x at hrv
          cases hrv with
          | tup _ xs _ _ =>
          rw [Array.getD_eq_getD_getElem?] at hx
          unfold yielded; rw [hd']
          cases ht : a.tmps[d]? with
          | none => simp [ht]
          | some v => rw [ht] at hx; simp at hx; subst hx; simp [ht]
    rw [if_neg hw]
    have hRt : ∀ id, touchB (R i) id = false := by intro id; rw [hR]; simp [touchB, inNew]
    refine hK _ _ U ρ hpD (h.next hS hO ho hn hr h.W h.H (fun h => h) ?_ (fun id => by rw [hRt id]; rfl) (fun _ _ => rfl) (fun _ _ h => h))
    intro s hs
    rw [htm, hs]
    exact put_self hlen (.tup [] [] rfl (by simp))

def isListed (listed : Array Bool) (j : Nat) : Prop := listed.getD j false = true

theorem listed_set {listed : Array Bool} {i : Nat} (hi : i < listed.size) : isListed (listed.setIfInBounds i true) = fun j => isListed listed j ∨ j = i := by
  funext j
  unfold isListed
  simp only [Array.getD_eq_getD_getElem?]
  by_cases h : i = j
  · subst h
    rw [Array.getElem?_setIfInBounds_self_of_lt hi]
    simp
  · rw [Array.getElem?_setIfInBounds_ne h]
    simp [Ne.symm h]

theorem ready_mem {listed : Array Bool} {i : Nat} (hsz : listed.size = ops.length) (h : i ∈ Region.ready .any ops.toArray listed) :
    ∃ o, ops[i]? = some o ∧ ¬ isListed listed i ∧ ∀ e ∈ o.after.toList, Region.binds .any e = true → isListed listed e.on := by
  unfold Region.ready at h
  simp only [List.mem_filter, List.mem_range, Bool.and_eq_true] at h
  obtain ⟨hi, h1, h2⟩ := h
  simp at hi
  have hget : ops[i]? = some ops[i] := List.getElem?_eq_getElem hi
  refine ⟨ops[i], hget, ?_, fun e he hb => ?_⟩
  · unfold isListed
    intro hL
    rw [Array.getD_eq_getD_getElem?] at hL h1
    rw [Array.getElem?_eq_getElem (by omega)] at hL h1
    simp at hL h1
    rw [hL] at h1; cases h1
  · have h2' : (ops[i].after.all fun e => !Region.binds .any e || listed.getD e.on false) = true := by
      have : ops.toArray[i]? = some ops[i] := by simp
      rw [this] at h2
      simpa using h2
    rw [← Array.all_toList] at h2'
    have := List.all_eq_true.1 h2' e he
    simp [hb] at this
    unfold isListed
    rw [Array.getD_eq_getD_getElem?]
    exact this

theorem ready_nil {listed : Array Bool} (hsz : listed.size = ops.length) (hback : ∀ (j : Nat) (o : Oper) (e : Edge), ops[j]? = some o → e ∈ o.after.toList → Region.binds .any e = true → e.on < j)
    (h : Region.ready .any ops.toArray listed = []) : ∀ j, j < ops.length → isListed listed j := by
  intro j
  induction j using Nat.strongRecOn with
  | _ j ih =>
    intro hj
    apply Classical.byContradiction
    intro hn
    have hget : ops[j]? = some ops[j] := List.getElem?_eq_getElem hj
    have : j ∈ Region.ready .any ops.toArray listed := by
      unfold Region.ready
      simp only [List.mem_filter, List.mem_range, Bool.and_eq_true]
      refine ⟨by simpa using hj, ?_, ?_⟩
      · unfold isListed at hn
        rw [Array.getD_eq_getD_getElem?] at hn ⊢
        rw [Array.getElem?_eq_getElem (by omega)] at hn ⊢
        simp at hn ⊢
        exact hn
      · have h1 : ops.toArray[j]? = some ops[j] := by simp
        rw [h1]
        simp only [Option.map_some, Option.getD_some]
        rw [← Array.all_toList, List.all_eq_true]
        intro e he
        by_cases hb : Region.binds .any e = true
        · have hlt := hback j _ e hget he hb
          have := ih e.on hlt (by omega)
          simp only [hb, Bool.not_true, Bool.false_or]
          exact this
        · simp [hb]
    rw [h] at this
    simp at this

theorem wpAny_ok (hE : EnvAll E) (hS : ∀ (i : Nat) (o : Oper), ops[i]? = some o → Did E ops o (S i) (S (i + 1)) (R i)) (hO : Ordered ops R) {Q : Exit → Act → World → Prop}
    (hQ : ∀ a w U ρ hpD (L : Nat → Prop), (∀ j, j < ops.length → L j) → InvD E C ops S R L a w U ρ hpD → Q .normal a w) :
    ∀ (fuel : Nat) (listed : Array Bool) (a : Act) (w : World) (U : Nat → Prop) (ρ : Nat → Option Value) (hpD : Nat → AO), listed.size = ops.length → (listed.toList.filter (! ·)).length ≤ fuel →
      InvD E C ops S R (isListed listed) a w U ρ hpD → wpAny E.P .any ops.toArray Q fuel listed a w
  | 0, listed, a, w, U, ρ, hpD, hsz, hf, h => by
    have hall : ∀ b ∈ listed.toList, b = true := by
      have : listed.toList.filter (! ·) = [] := List.eq_nil_of_length_eq_zero (by omega)
      intro b hb
      have := List.filter_eq_nil_iff.1 this b hb
      simpa using this
    have hL : ∀ j, j < ops.length → isListed listed j := by
      intro j hj
      unfold isListed
      rw [Array.getD_eq_getD_getElem?, Array.getElem?_eq_getElem (by omega)]
      exact hall _ (by simp)
    refine ⟨?_, hQ a w U ρ hpD _ hL h⟩
    apply List.eq_nil_iff_forall_not_mem.2
    intro i hi
    obtain ⟨o, ho, hn, _⟩ := ready_mem hsz hi
    exact hn (hL i (List.getElem?_eq_some_iff.1 ho).1)
  | fuel + 1, listed, a, w, U, ρ, hpD, hsz, hf, h => by
    refine ⟨fun hnil => hQ a w U ρ hpD _ (ready_nil hsz hO.back hnil) h, fun i hi => ?_⟩
    obtain ⟨o, ho, hn, hr⟩ := ready_mem hsz hi
    have hilt : i < listed.size := by rw [hsz]; exact (List.getElem?_eq_some_iff.1 ho).1
    refine exec_ok hE hS hO h ho hn hr _ Q (fun a' w' U' ρ' hpD' h' => ?_)
    refine wpAny_ok hE hS hO hQ fuel _ a' w' U' ρ' hpD' (by simpa using hsz) ?_ (by rw [listed_set hilt]; exact h')
    have hfalse : listed.toList[i]'(by simpa using hilt) = false := by
      unfold isListed at hn
      rw [Array.getD_eq_getD_getElem?, Array.getElem?_eq_getElem hilt] at hn
      simpa using hn
    have key : ∀ (l : List Bool) (i : Nat) (hi : i < l.length), l[i] = false → (l.filter (! ·)).length = ((l.set i true).filter (! ·)).length + 1 := by
      intro l
      induction l with
      | nil => intro i hi; simp at hi
      | cons b l ih =>
        intro i hi hb
        cases i with
        | zero => simp at hb; subst hb; simp
        | succ i =>
          have := ih i (by simpa using hi) (by simpa using hb)
          cases b <;> simp [this]
    have := key listed.toList i (by simpa using hilt) hfalse
    simp only [Array.toList_setIfInBounds]
    omega

theorem region_draw (hE : EnvAll E) (hm : E.P.follows .mixedOrders = true) {id : Nat} {s0 sN : RS} (h : (evalOps E ops ops s0).val = some sN) (h0 : s0.log = []) (hk0 : s0.known = []) (hord : orderOk ops sN.log = true) (hc : CnR C s0 a w U ρ) (hW : Wd E.gl C w U) :
    (Code.region id ops.toArray true).wp E.P (fun e a' w' => e = .normal ∧ ∃ U' ρ', CnR C sN a' w' U' ρ' ∧ Wd E.gl C w' U') a w := by
  obtain ⟨S, R, e0, eN, hS, hL, hkN⟩ := evalOps_trace ops s0 sN h (by intro d b hl; rw [hk0] at hl; simp at hl)
  have hO : Ordered ops R := orderOk_ok hord (by rw [hL, h0]; simp)
  have hd : Ext w { w with drawn := w.drawn + 1 } := ⟨Nat.le_refl _, rfl, rfl, rfl, fun _ _ => rfl⟩
  refine wp_region_any hm (wpAny_ok (C := C) hE hS hO ?_ ops.toArray.size (Array.replicate ops.toArray.size false) a { w with drawn := w.drawn + 1 } U ρ s0.hp (by simp) (by simp) ?_)
  · intro a' w' U' ρ' hpD L hall hI
    refine ⟨rfl, U', ρ', ⟨⟨?_, fun j c v hc hv => ?_⟩, ?_, ?_, ?_, hI.df, hI.r0⟩, hI.W⟩
    · rw [← eN, tlen_all hS _ (Nat.le_refl _), ← hI.tl]; simp
    · have := hI.tm j ops.length (Nat.le_refl _) (fun j' o' ho' _ => ⟨fun _ => (List.getElem?_eq_some_iff.1 ho').1, fun hlt => hall j' hlt⟩)
      rw [eN] at this
      rw [List.getD_eq_getElem?_getD, hc, Array.getD_eq_getD_getElem?] at this
      have hv' : a'.tmps[j]? = some v := by simpa using hv
      rw [hv'] at this
      exact this
    · have : sN.hp = hpD := by
        funext id
        have := hI.hp id ops.length (Nat.le_refl _) (fun j hj _ => ⟨fun _ => hj, fun hlt => hall j hlt⟩)
        rw [eN] at this
        exact this
      rw [this]
      exact hI.H
    · intro id hid
      rw [← eN] at hid
      have hm0 := heap_mono hS ops.length 0 (by omega)
      rw [Nat.zero_add] at hm0
      refine hI.rn id (by omega) (fun j hj _ => ?_)
      by_cases hin : inNew (R j) id = true
      · have := ((hS j _ (List.getElem?_eq_getElem hj)).news hin).2
        have hm1 := heap_mono hS (ops.length - (j + 1)) (j + 1) (by omega)
        rw [show j + 1 + (ops.length - (j + 1)) = ops.length by omega] at hm1
        omega
      · simpa using hin
    · intro d b hl
      have hsl := hI.tm d ops.length (Nat.le_refl _) (fun j' o' ho' _ => ⟨fun _ => (List.getElem?_eq_some_iff.1 ho').1, fun hlt => hall j' hlt⟩)
      rw [eN] at hsl
      have hb : a'.tmps.getD d undef = .bool b := by
        rcases hkN d b hl with h1 | h1 <;> rw [h1] at hsl <;> generalize a'.tmps.getD d undef = x at hsl <;> cases hsl <;> rfl
      rw [Array.getD_eq_getD_getElem?] at hb
      cases ht : a'.tmps[d]? with
      | none => rw [ht] at hb; simp [undef] at hb
      | some v => rw [ht] at hb; simp at hb; rw [hb]
  · have hnone : ∀ j, ¬ isListed (Array.replicate ops.toArray.size false) j := by
      intro j
      unfold isListed
      rw [Array.getD_eq_getD_getElem?, Array.getElem?_replicate]
      split <;> simp
    have hmono : ∀ {c : AV} {x : Value}, Rv w U ρ c x → Rv { w with drawn := w.drawn + 1 } U ρ c x := fun h => h.mono (w := w) (w' := { w with drawn := w.drawn + 1 }) (Nat.le_refl _) (fun _ _ _ => rfl) (fun _ _ h => h) (fun _ _ h => h)
    refine ⟨fun j o e ho hL => (hnone j hL).elim, ⟨hW.ext.trans hd, hW.same, hW.ub, hW.u1, hW.u2, fun g => (hW.gl g).mono (w := w) (w' := { w with drawn := w.drawn + 1 }) (Nat.le_refl _) (fun _ _ _ => rfl) (fun _ _ h => h) (fun _ _ h => h)⟩,
      ⟨fun id => (hc.hp.ob id).mono (w := w) (w' := { w with drawn := w.drawn + 1 }) (Nat.le_refl _) (fun _ _ _ => rfl) (fun _ _ h => h) (fun _ _ h => h) (fun b ho => ⟨rfl, ((hc.hp.ob id).inU ho).1⟩), hc.hp.inj, hc.hp.blk⟩, ?_, ?_, ?_, ?_, hc.df, hc.r0⟩
    · rw [e0]; have := hc.tm.len; simp at this; exact this.symm
    · intro s k hk hcons
      have hsame : (S k).tmps.getD s .any = (S 0).tmps.getD s .any := by
        have := slots_between hS (s := s) k 0 (by omega) (fun j o ho hd h1 h2 => hnone j ((hcons j o ho hd).2 (by omega)))
        rwa [Nat.zero_add] at this
      rw [hsame, e0]
      by_cases hs : s < s0.tmps.length
      · have hs' : s < a.tmps.toList.length := by rw [← hc.tm.len]; exact hs
        refine hmono (hc.tm.rv s _ _ (by rw [List.getD_eq_getElem?_getD, List.getElem?_eq_getElem hs]; rfl) ?_)
        rw [Array.getD_eq_getD_getElem?]
        have : s < a.tmps.size := by simpa using hs'
        simp [Array.getElem?_eq_getElem this]
      · rw [List.getD_eq_getElem?_getD, List.getElem?_eq_none (by omega)]
        exact .any _
    · intro id k hk hcons
      have := objs_between hS (id := id) k 0 (by omega) (fun j h1 h2 => by
        by_cases ht : touchB (R j) id = true
        · exact (hnone j ((hcons j (by omega) ht).2 (by omega))).elim
        · simpa using ht)
      rw [Nat.zero_add] at this
      rw [this, e0]
    · intro id hid _
      rw [e0] at hid
      exact hc.new id hid

end
open Go

structure Cn (C : Ctx) (st : St) (a : Act) (w : World) (U : Nat → Prop) (ρ : Nat → Option Value) : Prop where
  tm : RvL w U ρ st.tmps a.tmps.toList
  hp : HpOk C w U ρ st.hp
  new : ∀ id, st.heap.length ≤ id → ρ id = none
  df : a.defers = []
  r0 : ∀ id v, C.ρ0 id = some v → ρ id = some v

section
variable {E : Env} {C : Ctx} {a : Act} {w : World} {U : Nat → Prop} {ρ : Nat → Option Value}

theorem Cn.toR {st : St} (h : Cn C st a w U ρ) : CnR C { tmps := st.tmps, heap := st.heap } a w U ρ := ⟨h.tm, h.hp, h.new, by simp, h.df, h.r0⟩
theorem CnR.out {st : RS} (h : CnR C st a w U ρ) : Cn C st.out a w U ρ := ⟨h.tm, h.hp, h.new, h.df, h.r0⟩

theorem checked_val {ops : List Oper} : ∀ {t : Tr RS} {s : RS}, (checked ops t).val = some s → t.val = some s ∧ orderOk ops s.log = true
  | .err, s, h => by simp [checked] at h
  | .chk c t, s, h => by
    cases c
    · simp [checked, Tr.val] at h
    · simp only [checked, Tr.val, if_true] at h ⊢
      exact checked_val h
  | .br c t f, s, h => by
    cases c
    · simp only [checked, Tr.val, Bool.false_eq_true, if_false] at h ⊢
      exact checked_val h
    · simp only [checked, Tr.val, if_true] at h ⊢
      exact checked_val h
  | .ok st, s, h => by
    simp only [checked] at h
    split at h
    · rename_i ho
      simp at h; subst h
      exact ⟨rfl, ho⟩
    · simp at h

theorem region_ok (hE : EnvAll E) (hm : E.P.follows .mixedOrders = true) {id : Nat} {ops : List Oper} {draw : Bool} {s0 sN : RS} (h0 : s0.log = []) (hk0 : s0.known = [])
    (h : (if draw then checked ops (evalOps E ops ops s0) else evalOps E ops ops s0).val = some sN) (hc : CnR C s0 a w U ρ) (hW : Wd E.gl C w U) :
    (Code.region id ops.toArray draw).wp E.P (fun e a' w' => e = .normal ∧ ∃ U' ρ', CnR C sN a' w' U' ρ' ∧ Wd E.gl C w' U') a w := by
  cases draw
  · simp only [Bool.false_eq_true, if_false] at h
    refine wp_region ?_
    have := evalOps_ok (C := C) hE (Q := fun e a' w' => e = .normal ∧ ∃ U' ρ', CnR C sN a' w' U' ρ' ∧ Wd E.gl C w' U') (fun a' w' U' ρ' h1 h2 => ⟨rfl, U', ρ', h1, h2⟩) ops 0 s0 a w U ρ (by simp) h hc hW
    rw [← List.range_eq_range'] at this
    simpa using this
  · simp only [if_true] at h
    obtain ⟨h1, h2⟩ := checked_val h
    exact region_draw hE hm h1 h0 hk0 h2 hc hW

theorem stepOp_touched {ops : List Oper} {o : Oper} {s s' : RS} (h : (stepOp E ops s o).val = some s') (ht : s'.touched = false) : s.touched = false ∧ s'.heap = s.heap := by
  have go : ∀ kn, (goOp E o { s with known := kn }).val = some s' → s.touched = false ∧ s'.heap = s.heap := by
    intro kn h
    unfold goOp at h
    split at h
    · simp only [Tr.val_bind, Option.bind_eq_some_iff] at h
      obtain ⟨f, _, h⟩ := h
      split at h
      · simp at h; subst h
        simp at ht
        obtain ⟨h1, h2, h3⟩ := ht
        refine ⟨h1, ?_⟩
        simp [h2, h3, wrAll]
      · simp at h
    · simp at h
  have skip : ∀ kn, skipOp o { s with known := kn } = s' → s.touched = false ∧ s'.heap = s.heap := by
    rintro kn rfl
    exact ⟨ht, rfl⟩
  unfold stepOp at h
  split at h
  · exact go s.known h
  · split at h
    · simp at h; exact skip s.known h
    · split at h
      · split at h
        · exact go s.known h
        · simp at h; exact skip s.known h
      · simp at h; exact skip s.known h
      · rename_i b _
        rename_i want _ _ _ _ _ _
        cases b
        · simp only [Tr.val, Bool.false_eq_true, if_false] at h
          split at h
          · simp at h; exact skip _ h
          · exact go _ h
        · simp only [Tr.val, if_true] at h
          split at h
          · exact go _ h
          · simp at h; exact skip _ h
      · simp at h

theorem evalOps_touched {ops : List Oper} : ∀ (r : List Oper) (s sN : RS), (evalOps E ops r s).val = some sN → sN.touched = false → sN.heap = s.heap
  | [], s, sN, h, _ => by simp [evalOps] at h; rw [h]
  | o :: r, s, sN, h, ht => by
    simp only [evalOps, Tr.val_bind, Option.bind_eq_some_iff] at h
    obtain ⟨s1, h1, h2⟩ := h
    have e2 := evalOps_touched r s1 sN h2 ht
    have t1 : s1.touched = false := by
      have key : ∀ (r : List Oper) (s sN : RS), (evalOps E ops r s).val = some sN → sN.touched = false → s.touched = false := by
        intro r
        induction r with
        | nil => intro s sN h ht; simp [evalOps] at h; rw [h]; exact ht
        | cons o r ih =>
          intro s sN h ht
          simp only [evalOps, Tr.val_bind, Option.bind_eq_some_iff] at h
          obtain ⟨s1, h1, h2⟩ := h
          exact (stepOp_touched h1 (ih s1 sN h2 ht)).1
      exact key r s1 sN h2 ht
    rw [e2, (stepOp_touched h1 t1).2]

theorem evalOps_slots {ops : List Oper} : ∀ (r : List Oper) (s sN : RS), (evalOps E ops r s).val = some sN → KnA s → sN.tmps.length = s.tmps.length ∧ ∀ d, d ∉ dsts r → sN.tmps.getD d .any = s.tmps.getD d .any
  | [], s, sN, h, _ => by simp [evalOps] at h; rw [h]; exact ⟨rfl, fun _ _ => rfl⟩
  | o :: r, s, sN, h, hk => by
    simp only [evalOps, Tr.val_bind, Option.bind_eq_some_iff] at h
    obtain ⟨s1, h1, h2⟩ := h
    obtain ⟨r0, hd, _, hk1⟩ := stepOp_did h1 hk
    obtain ⟨e1, e2⟩ := evalOps_slots r s1 sN h2 hk1
    refine ⟨by rw [e1, hd.tlen], fun d hd' => ?_⟩
    rw [e2 d (fun hin => hd' (by simp only [dsts, List.filterMap_cons]; split <;> simp_all [dsts])), hd.slots (fun e => hd' (by simp [dsts, e]))]

theorem mergeSlots_length (c : Bool) : ∀ (ds : List Nat) (pre t f : List AV), (mergeSlots c ds pre t f).length = pre.length
  | [], _, _, _ => rfl
  | d :: r, pre, t, f => by rw [mergeSlots, mergeSlots_length c r]; simp

theorem mergeSlots_getD (c : Bool) : ∀ (ds : List Nat) (pre t f : List AV) (s : Nat), (mergeSlots c ds pre t f).getD s .any = if s ∈ ds ∧ s < pre.length then (mergeAV c (t.getD s .any) (f.getD s .any)).getD .any else pre.getD s .any
  | [], pre, t, f, s => by simp [mergeSlots]
  | d :: r, pre, t, f, s => by
    rw [mergeSlots, mergeSlots_getD c r]
    simp only [List.length_set, List.mem_cons]
    by_cases hr : s ∈ r ∧ s < pre.length
    · rw [if_pos hr, if_pos ⟨.inr hr.1, hr.2⟩]
    · rw [if_neg hr]
      simp only [List.getD_eq_getElem?_getD, List.getElem?_set]
      by_cases hd : d = s
      · subst hd
        by_cases hl : d < pre.length
        · simp [hl]
        · simp [hl]
      · have : ¬ ((s = d ∨ s ∈ r) ∧ s < pre.length) := by
          rintro ⟨h1 | h1, h2⟩
          · exact hd h1.symm
          · exact hr ⟨h1, h2⟩
        rw [if_neg hd, if_neg this]

theorem flat_ok {ds : List Nat} {pre : List AV} : ∀ {t : Tr RS} {c : Option Bool} {l : List AV}, flat ds pre t = some (c, l) → (c = none ∨ c = some true) → ∃ sR, t.val = some sR ∧ sR.touched = false ∧
    (sR.tmps.length = pre.length → l.length = pre.length) ∧ ∀ s v, (s ∉ ds → sR.tmps.getD s .any = pre.getD s .any) → Rv w U ρ (sR.tmps.getD s .any) v → Rv w U ρ (l.getD s .any) v
  | .err, c, l, h, _ => by simp [flat] at h
  | .ok st, c, l, h, _ => by
    simp only [flat] at h
    split at h
    · cases h
    · rename_i ht
      cases h
      exact ⟨st, rfl, by simpa using ht, fun h => h, fun _ _ _ h => h⟩
  | .chk c0 t, c, l, h, hc => by
    simp only [flat] at h
    split at h
    · rename_i l' hl
      cases h
      have : c0 = true := by simpa using hc
      subst this
      simp only [Tr.val, if_true]
      exact flat_ok hl (.inl rfl)
    · rename_i c' l' hl
      cases h
      have : c0 = true ∧ c' = true := by simpa using hc
      obtain ⟨rfl, rfl⟩ := this
      simp only [Tr.val, if_true]
      exact flat_ok hl (.inr rfl)
    · cases h
  | .br b t f, c, l, h, hc => by
    have key : ∀ (ct cf : Option Bool) (lt lf : List AV), flat ds pre t = some (ct, lt) → flat ds pre f = some (cf, lf) → l = mergeSlots b ds pre lt lf → (b = true → ct = none ∨ ct = some true) → (b = false → cf = none ∨ cf = some true) →
        ∃ sR, (Tr.br b t f).val = some sR ∧ sR.touched = false ∧ (sR.tmps.length = pre.length → l.length = pre.length) ∧ ∀ s v, (s ∉ ds → sR.tmps.getD s .any = pre.getD s .any) → Rv w U ρ (sR.tmps.getD s .any) v → Rv w U ρ (l.getD s .any) v := by
      rintro ct cf lt lf ht hf rfl hb1 hb2
      have fin : ∀ (sR : RS), (∀ s v, (s ∉ ds → sR.tmps.getD s .any = pre.getD s .any) → Rv w U ρ (sR.tmps.getD s .any) v → Rv w U ρ ((if b then lt else lf).getD s .any) v) →
          ∀ s v, (s ∉ ds → sR.tmps.getD s .any = pre.getD s .any) → Rv w U ρ (sR.tmps.getD s .any) v → Rv w U ρ ((mergeSlots b ds pre lt lf).getD s .any) v := by
        intro sR hs s v hpre hv
        rw [mergeSlots_getD]
        split
        · rename_i hin
          have h1 := hs s v hpre hv
          cases hmm : mergeAV b (lt.getD s .any) (lf.getD s .any) with
          | none => exact .any _
          | some z =>
            refine mergeAV_ok hmm ?_
            cases b <;> simpa using h1
        · rename_i hin
          by_cases hds : s ∈ ds
          · have : ¬ s < pre.length := fun h => hin ⟨hds, h⟩
            rw [List.getD_eq_getElem?_getD, List.getElem?_eq_none (by omega)]
            exact .any _
          · rw [← hpre hds]; exact hv
      cases b
      · obtain ⟨sR, e1, e2, _, e4⟩ := flat_ok hf (hb2 rfl)
        exact ⟨sR, by simpa [Tr.val] using e1, e2, fun _ => mergeSlots_length _ _ _ _ _, fin sR (fun s v hp hv => by simpa using e4 s v hp hv)⟩
      · obtain ⟨sR, e1, e2, _, e4⟩ := flat_ok ht (hb1 rfl)
        exact ⟨sR, by simpa [Tr.val] using e1, e2, fun _ => mergeSlots_length _ _ _ _ _, fin sR (fun s v hp hv => by simpa using e4 s v hp hv)⟩
    simp only [flat] at h
    split at h
    · rename_i l1 l2 h1 h2
      split at h
      · cases h
      cases h
      exact key _ _ _ _ h1 h2 rfl (fun _ => .inl rfl) (fun _ => .inl rfl)
    · rename_i a1 l1 l2 h1 h2
      split at h
      · cases h
      cases h
      refine key _ _ _ _ h1 h2 rfl (fun hb => .inr ?_) (fun _ => .inl rfl)
      subst hb; simpa using hc
    · rename_i l1 b1 l2 h1 h2
      split at h
      · cases h
      cases h
      refine key _ _ _ _ h1 h2 rfl (fun _ => .inl rfl) (fun hb => .inr ?_)
      subst hb; simpa using hc
    · rename_i a1 l1 b1 l2 h1 h2
      split at h
      · cases h
      cases h
      refine key _ _ _ _ h1 h2 rfl (fun hb => .inr ?_) (fun hb => .inr ?_) <;> (subst hb; simpa using hc)
    · cases h

theorem evalRegion_ok (hE : EnvAll E) (hm : E.P.follows .mixedOrders = true) {id : Nat} {ops : Array Oper} {draw : Bool} {st st' : St} (h : (evalRegion E ops.toList draw st).val = some st') (hc : Cn C st a w U ρ) (hW : Wd E.gl C w U) :
    (Code.region id ops draw).wp E.P (fun e a' w' => e = .normal ∧ ∃ U' ρ', Cn C st' a' w' U' ρ' ∧ Wd E.gl C w' U') a w := by
  unfold evalRegion at h
  simp only at h
  generalize hs0 : ({ tmps := st.tmps, heap := st.heap } : RS) = s0 at h
  have hlog : s0.log = [] := by rw [← hs0]
  have hkn : s0.known = [] := by rw [← hs0]
  have hcR : CnR C s0 a w U ρ := by rw [← hs0]; exact hc.toR
  have hkA : KnA s0 := by intro d b hl; rw [hkn] at hl; simp at hl
  generalize htree : (if draw then checked ops.toList (evalOps E ops.toList ops.toList s0) else evalOps E ops.toList ops.toList s0) = t at h
  have plain : ∀ sN, t.val = some sN → (Code.region id ops draw).wp E.P (fun e a' w' => e = .normal ∧ ∃ U' ρ', CnR C sN a' w' U' ρ' ∧ Wd E.gl C w' U') a w := by
    intro sN hv
    have := region_ok (id := id) hE hm hlog hkn (by rw [htree]; exact hv) hcR hW
    simpa using this
  have raw : ∀ sN, t.val = some sN → (evalOps E ops.toList ops.toList s0).val = some sN := by
    intro sN hv
    rw [← htree] at hv
    cases draw
    · simpa using hv
    · simp only [if_true] at hv
      exact (checked_val hv).1
  have bare : (t.bind fun s => Tr.ok s.out).val = some st' → (Code.region id ops draw).wp E.P (fun e a' w' => e = .normal ∧ ∃ U' ρ', Cn C st' a' w' U' ρ' ∧ Wd E.gl C w' U') a w := by
    intro h
    simp only [Tr.val_bind, Option.bind_eq_some_iff] at h
    obtain ⟨sN, hv, h⟩ := h
    simp at h; subst h
    exact wp_mono (plain sN hv) (fun e a' w' ⟨h1, U', ρ', h2, h3⟩ => ⟨h1, U', ρ', h2.out, h3⟩)
  have merged : ∀ c l, flat (dsts ops.toList) st.tmps t = some (c, l) → (c = none ∨ c = some true) → st' = { st with tmps := l } →
      (Code.region id ops draw).wp E.P (fun e a' w' => e = .normal ∧ ∃ U' ρ', Cn C st' a' w' U' ρ' ∧ Wd E.gl C w' U') a w := by
    rintro c l hfl hcc rfl
    obtain ⟨sR, hv, ht, hl, _⟩ := flat_ok (w := w) (U := U) (ρ := ρ) hfl hcc
    obtain ⟨hlen, hsl⟩ := evalOps_slots ops.toList s0 sR (raw sR hv) hkA
    have hheap := evalOps_touched ops.toList s0 sR (raw sR hv) ht
    refine wp_mono (plain sR hv) (fun e a' w' ⟨h1, U', ρ', h2, h3⟩ => ⟨h1, U', ρ', ⟨⟨?_, fun j c v hc' hv' => ?_⟩, ?_, ?_, h2.df, h2.r0⟩, h3⟩)
    · have := h2.tm.len
      have e0 : s0.tmps = st.tmps := by rw [← hs0]
      rw [hl (by rw [hlen, e0]), ← e0, ← hlen]; exact this
    · obtain ⟨sR', hv2, _, _, hr⟩ := flat_ok (w := w') (U := U') (ρ := ρ') hfl hcc
      rw [hv] at hv2; cases hv2
      have hj : j < sR.tmps.length := by rw [h2.tm.len]; exact (List.getElem?_eq_some_iff.1 hv').1
      have e0 : s0.tmps = st.tmps := by rw [← hs0]
      have := hr j v (fun hd => by rw [hsl j hd, e0]) (h2.tm.rv j _ v (by rw [List.getD_eq_getElem?_getD, List.getElem?_eq_getElem hj]; rfl) hv')
      rw [List.getD_eq_getElem?_getD, hc'] at this
      exact this
    · have : sR.hp = ({ st with tmps := l } : St).hp := by
        funext i
        simp only [RS.hp, St.hp, hheap, ← hs0]
      rw [← this]; exact h2.hp
    · have : sR.heap.length = st.heap.length := by rw [hheap, ← hs0]
      intro i hi
      exact h2.new i (by rw [this]; exact hi)
  split at h
  · split at h
    · rename_i l hfl
      simp at h
      exact merged none l hfl (.inl rfl) h.symm
    · rename_i c l hfl
      simp at h
      exact merged (some c) l hfl (.inr (by rw [h.1])) h.2.symm
    · exact bare h
  · exact bare h

end
end Cad
