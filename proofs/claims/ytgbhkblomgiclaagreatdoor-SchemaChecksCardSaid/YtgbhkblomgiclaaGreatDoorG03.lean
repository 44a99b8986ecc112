/- What each operation says: append. What each operation says: maps with texts as keys. What each operation says: all of them. Regions: one operation behind the other. -/
import Derived.Test.YtgbhkblomgiclaaGreatDoorG02
import Derived.MapKept
namespace Cad
open Go
section
variable {P : Program} {w : World} {U : Nat → Prop} {ρ : Nat → Option Value}

/-- A slice that can be read. -/
def SlR (w : World) (U : Nat → Prop) (ρ : Nat → Option Value) (e : Sh) (l : List (Sem e)) (v : Value) : Prop :=
  ∃ a cap, v = .slice a l.length cap ∧ l.length ≤ cap ∧ l.length ≤ maxStr ∧ (l = [] ∨ ∃ b o, a = some ⟨b, o, none⟩ ∧
    ∀ i (hi : i < l.length) (j : Nat) (c : AV), (explode e l[i])[j]? = some c → ∃ x, w.cell? ⟨b, o + i * e.size + j, none⟩ = some x ∧ Rv w U ρ c x)

theorem sl_read {e : Sh} {l : List (Sem e)} {v : Value} (h : Rv w U ρ (.sl e l) v) : SlR w U ρ e l v := by
  cases h with
  | sl0 _ a c => exact ⟨a, c, rfl, by simp, by simp, .inl rfl⟩
  | sl _ _ b o c vals hc hm hb hU hcell hr =>
    refine ⟨_, c, rfl, hc, hm, .inr ⟨b, o, rfl, fun i hi j cc hcc => ⟨vals i j, hcell i j hi ?_, hr i hi j cc hcc⟩⟩⟩
    have := (List.getElem?_eq_some_iff.1 hcc).1; rwa [explode_length] at this

theorem vec_read {id : Nat} {e : Sh} {l : List (Sem e)} {v : Value} (h : objOk w U ρ id (.vec e l)) (hv : ρ id = some v) : SlR w U ρ e l v := by
  obtain ⟨a, c, h1, hm, h3⟩ := h
  rw [hv] at h1; cases h1
  rcases h3 with ⟨rfl, rfl⟩ | ⟨b, T, arr, rfl, hc, hU, hb, hsz, hle, hr⟩
  · exact ⟨a, 0, rfl, by simp, by simp, .inl rfl⟩
  · refine ⟨_, c, rfl, hle, hm, .inr ⟨b, 0, rfl, fun i hi j cc hcc => ?_⟩⟩
    obtain ⟨x, h1, h2⟩ := hr i hi j cc hcc
    exact ⟨x, by simp [World.cell?, hb, h1], h2⟩

theorem asSl_read {hp : Nat → AO} {e : Sh} {c : AV} {l : List (Sem e)} {v : Value} (h : asSl hp e c = some l) (hr : Rv w U ρ c v)
    (hob : ∀ id ∈ c.ids, objOk w U ρ id (hp id)) : SlR w U ρ e l v := by
  cases c <;> simp [asSl] at h
  case nils =>
    subst h
    cases hr
    exact ⟨_, 0, rfl, by simp, by simp, .inl rfl⟩
  case sl e' l' =>
    obtain ⟨rfl, h⟩ := h
    subst h
    exact sl_read hr
  case vec id =>
    cases hr with
    | vec _ _ hv _ =>
    have h1 := hob id (by simp [AV.ids])
    cases ho : hp id with
    | dead => simp [ho] at h
    | box cs => simp [ho] at h
    | fmap es => simp [ho] at h
    | frz e' l' =>
      simp [ho] at h
      obtain ⟨rfl, h⟩ := h
      subst h
      rw [ho] at h1
      obtain ⟨v', hv', hrv⟩ := h1
      rw [hv] at hv'; cases hv'
      exact sl_read hrv
    | vec e' l' =>
      simp [ho] at h
      obtain ⟨rfl, h⟩ := h
      subst h
      rw [ho] at h1
      exact vec_read h1 hv

/-- The cells of rows of one size, one behind the other. -/
def rowsV (size n : Nat) (vals : Nat → Nat → Value) : List Value := (List.range (n * size)).map fun q => vals (q / size) (q % size)

theorem rowsV_get {size n : Nat} {vals : Nat → Nat → Value} {i j : Nat} (hi : i < n) (hj : j < size) : (rowsV size n vals)[i * size + j]? = some (vals i j) := by
  have hlt : i * size + j < n * size := by
    have := Nat.mul_le_mul_right size (Nat.succ_le_of_lt hi)
    rw [Nat.succ_mul] at this
    omega
  have h1 : (i * size + j) / size = i := by
    rw [Nat.add_comm, Nat.add_mul_div_right _ _ (by omega), Nat.div_eq_of_lt hj]; omega
  have h2 : (i * size + j) % size = j := by
    rw [Nat.add_comm, Nat.add_mul_mod_self_right, Nat.mod_eq_of_lt hj]
  simp [rowsV, List.getElem?_range hlt, h1, h2]

theorem rowsV_length {size n : Nat} {vals : Nat → Nat → Value} : (rowsV size n vals).length = n * size := by simp [rowsV]

/-- A slice that can be read, as cells. -/
theorem SlR.cells {e : Sh} {l : List (Sem e)} {v : Value} (h : SlR w U ρ e l v) (hpos : 0 < e.size) : ∃ (a : Option Addr) (cap : Nat) (vals : Nat → Nat → Value), v = .slice a l.length cap ∧ l.length ≤ cap ∧
    (∀ i (hi : i < l.length) (j : Nat) (c : AV), (explode e l[i])[j]? = some c → Rv w U ρ c (vals i j)) ∧ (∀ x ∈ rowsV e.size l.length vals, x.oneCell' = true) ∧
    (a = none → l = []) ∧ ∀ ad, a = some ad → ∀ (q : Nat) x, (rowsV e.size l.length vals)[q]? = some x → w.cell? (ad.add q) = some x := by
  obtain ⟨a, cap, rfl, hc, hm, h⟩ := h
  rcases h with rfl | ⟨b, o, rfl, hr⟩
  · exact ⟨a, cap, fun _ _ => undef, rfl, hc, by simp, by simp [rowsV], fun _ => rfl, by simp [rowsV]⟩
  · have hex : ∀ i j, i < l.length → j < e.size → ∃ x, w.cell? ⟨b, o + i * e.size + j, none⟩ = some x ∧ x.oneCell' = true ∧ ∀ (hi : i < l.length) c, (explode e l[i])[j]? = some c → Rv w U ρ c x := by
      intro i j hi hj
      have hget : (explode e l[i])[j]? = some ((explode e l[i])[j]'(by rw [explode_length]; exact hj)) := List.getElem?_eq_getElem _
      obtain ⟨x, h1, h2⟩ := hr i hi j _ hget
      exact ⟨x, h1, explode_one e l[i] j _ x hget h2, fun hi c hc => by rw [hget] at hc; cases hc; exact h2⟩
    let vals : Nat → Nat → Value := fun i j => (w.cell? ⟨b, o + i * e.size + j, none⟩).getD undef
    refine ⟨_, cap, vals, rfl, hc, fun i hi j c hc => ?_, fun x hx => ?_, (fun h => by cases h), fun ad had q x hq => ?_⟩
    · have hj : j < e.size := by have := (List.getElem?_eq_some_iff.1 hc).1; rwa [explode_length] at this
      obtain ⟨x, h1, _, h3⟩ := hex i j hi hj
      simp only [vals, h1, Option.getD_some]
      exact h3 hi c hc
    · simp only [rowsV, List.mem_map, List.mem_range] at hx
      obtain ⟨q, hq, rfl⟩ := hx
      obtain ⟨x, h1, h2, _⟩ := hex (q / e.size) (q % e.size) ((Nat.div_lt_iff_lt_mul hpos).2 hq) (Nat.mod_lt _ hpos)
      simp only [vals, h1, Option.getD_some]
      exact h2
    · cases had
      simp only [rowsV, List.getElem?_map, Option.map_eq_some_iff] at hq
      obtain ⟨q', hq', rfl⟩ := hq
      obtain ⟨hlt, hqq⟩ := range_get hq'
      subst hqq
      obtain ⟨x, h1, h2, _⟩ := hex (q' / e.size) (q' % e.size) ((Nat.div_lt_iff_lt_mul hpos).2 hlt) (Nat.mod_lt _ hpos)
      rw [Addr.add_none]
      have : o + q' = o + q' / e.size * e.size + q' % e.size := by have := Nat.div_add_mod q' e.size; rw [Nat.mul_comm] at this; omega
      rw [this]
      simp only [vals, h1, Option.getD_some]

/-- A new own slice. -/
theorem Ef.newVec {n : Nat} {hp : Nat → AO} {wr : List (Nat × AO)} (hwr : ∀ id o, (id, o) ∈ wr → o = .dead) {e : Sh} {l : List (Sem e)} {v : Value} {w' : World} {U' : Nat → Prop} (hn : ρ n = none) (hone : v.oneCell' = true) (hext : Ext w w')
    (hsame : ∀ b, b < w.heap.size → (∀ id o, (id, o) ∈ wr → ¬ ownsB ρ id (hp id) b) → w'.heap[b]? = w.heap[b]?) (hub : ∀ b, U' b → b < w'.heap.size) (hU : ∀ b, b < w.heap.size → (U' b ↔ U b))
    (hobj : objOk w' U' (upd ρ n v) n (.vec e l)) (hown : ∀ b, blkOf v = some b → w.heap.size ≤ b ∨ ∃ id o, (id, o) ∈ wr ∧ ownsB ρ id (hp id) b) :
    Ef n hp { val := .vec n, wr := wr, nw := [.vec e l] } w U ρ v w' U' (upd ρ n v) := by
  have hidx : ∀ id o, (n ≤ id ∧ ([AO.vec e l] : List AO)[id - n]? = some o) → id = n := by
    rintro id o ⟨h1, h2⟩
    have := (List.getElem?_eq_some_iff.1 h2).1
    simp at this
    omega
  refine ⟨hext, .vec n v (by simp [upd]) hone, ?_, ?_, ?_, upd_old hn, hsame, hub, fun b hb h => (hU b hb).1 h, fun b hb h _ => (hU b hb).2 h, ?_, ?_⟩
  · intro id o h
    rw [hwr id o h]; trivial
  · intro j o hj
    cases j with
    | succ j => simp at hj
    | zero => simp at hj; subst hj; exact hobj
  · intro id h
    unfold upd
    rw [if_neg (by simp at h; omega)]
  · rintro id o b (h | h) ho
    · rw [hwr id o h] at ho
      simp [ownsB, AO.owns] at ho
    · have := hidx id o h
      subst this
      obtain ⟨_, x, hx, hb⟩ := ho
      simp [upd] at hx; subst hx
      exact hown b hb
  · rintro id1 o1 id2 o2 b (h | h) h' ho ho'
    · rw [hwr id1 o1 h] at ho
      simp [ownsB, AO.owns] at ho
    · rcases h' with h' | h'
      · rw [hwr id2 o2 h'] at ho'
        simp [ownsB, AO.owns] at ho'
      · rw [hidx id1 o1 h, hidx id2 o2 h']


theorem rowsV_app {size n m : Nat} {f g : Nat → Nat → Value} {i j : Nat} (hj : j < size) (hi : i < n + m) :
    (rowsV size n f ++ rowsV size m g)[i * size + j]? = some (if i < n then f i j else g (i - n) j) := by
  by_cases h : i < n
  · rw [if_pos h, List.getElem?_append_left]
    · exact rowsV_get h hj
    · rw [rowsV_length]
      have := Nat.mul_le_mul_right size (Nat.succ_le_of_lt h)
      rw [Nat.succ_mul] at this
      omega
  · rw [if_neg h]
    have hge : n * size ≤ i * size := Nat.mul_le_mul_right _ (by omega)
    rw [List.getElem?_append_right (by rw [rowsV_length]; omega), rowsV_length]
    rw [show i * size + j - n * size = (i - n) * size + j by rw [Nat.sub_mul]; omega]
    exact rowsV_get (by omega) hj

theorem Src.ofSlR {e : Sh} {l : List (Sem e)} {a : Option Addr} {cap : Nat} {vals : Nat → Nat → Value} {t : TypeId} {el : TypeId} (hu : P.underlying t = some (.slice el))
    (h1 : ∀ x ∈ rowsV e.size l.length vals, x.oneCell' = true) (hn : a = none → l = []) (hc : ∀ ad, a = some ad → ∀ (q : Nat) x, (rowsV e.size l.length vals)[q]? = some x → w.cell? (ad.add q) = some x) :
    Src P e.size t (.slice a l.length cap) l.length (rowsV e.size l.length vals) w := by
  cases a with
  | none =>
    have := hn rfl
    subst this
    simpa [rowsV] using Src.ofNil (P := P) w (size := e.size) hu cap
  | some ad => exact Src.ofSlice w hu ad l.length cap _ rowsV_length (hc ad rfl) h1

theorem zeroCells_size (z : Array Value) (n : Nat) : (Builtin.zeroCells z n).size = n * z.size := by simp [Builtin.zeroCells]

/-- The own slice behind an append that grew. -/
theorem grown_vec {n : Nat} {e : Sh} {l0 l' : List (Sem e)} {elem : TypeId} {z : Value} {newCap : Nat} {f g : Nat → Nat → Value} (hn : ρ n = none)
    (hzc : z.cells.size = e.size) (hcap : l0.length + l'.length ≤ newCap) (hpos : 0 < newCap) (hmax : l0.length + l'.length ≤ 1073741824)
    (hf : ∀ i (hi : i < l0.length) (j : Nat) (c : AV), (explode e l0[i])[j]? = some c → Rv w U ρ c (f i j)) (hg : ∀ i (hi : i < l'.length) (j : Nat) (c : AV), (explode e l'[i])[j]? = some c → Rv w U ρ c (g i j)) :
    objOk (w.drew.alloc (.cells ((rowsV e.size l0.length f ++ rowsV e.size l'.length g).toArray ++ Builtin.zeroCells z.cells (newCap - (l0.length + l'.length))) elem))
      (fun b => U b ∨ b = w.heap.size) (upd ρ n (.slice (some ⟨w.heap.size, 0, none⟩) (l0.length + l'.length) newCap)) n (.vec e (l0 ++ l')) := by
  generalize hobj : Obj.cells ((rowsV e.size l0.length f ++ rowsV e.size l'.length g).toArray ++ Builtin.zeroCells z.cells (newCap - (l0.length + l'.length))) elem = ob
  have hk : ∀ b, b < w.heap.size → ¬ U b → (w.drew.alloc ob).heap[b]? = w.heap[b]? := fun b hb _ => heap_push_old w.drew _ b hb
  have hu : ∀ b, b < w.heap.size → (U b ∨ b = w.heap.size) → U b := fun b hb h => h.elim id (fun e => by omega)
  have hs : w.heap.size ≤ (w.drew.alloc ob).heap.size := by rw [heap_push_size]; exact Nat.le_succ _
  have hnew : (w.drew.alloc ob).heap[w.heap.size]? = some ob := heap_push_new w.drew ob
  refine ⟨_, newCap, by simp [upd], by simp; unfold maxStr; omega, .inr ⟨w.heap.size, elem, _, rfl, hpos, .inr rfl, by rw [hnew, ← hobj], ?_, by simpa using hcap, ?_⟩⟩
  · simp only [Array.size_append, List.size_toArray, List.length_append, rowsV_length, zeroCells_size, hzc]
    rw [← Nat.add_mul, ← Nat.add_mul]
    congr 1
    omega
  · intro i hi j c hc
    simp only [List.length_append] at hi
    have hj : j < e.size := by have := (List.getElem?_eq_some_iff.1 hc).1; rwa [explode_length] at this
    refine ⟨if i < l0.length then f i j else g (i - l0.length) j, ?_, ?_⟩
    · rw [Array.getElem?_append_left]
      · simpa using rowsV_app hj hi
      · simp only [List.size_toArray, List.length_append, rowsV_length]
        rw [← Nat.add_mul]
        have := Nat.mul_le_mul_right e.size (Nat.succ_le_of_lt hi)
        rw [Nat.succ_mul] at this
        omega
    · by_cases hlt : i < l0.length
      · rw [if_pos hlt]
        rw [List.getElem_append_left hlt] at hc
        exact (hf i hlt j c hc).mono hs hk hu (upd_old hn)
      · rw [if_neg hlt]
        rw [List.getElem_append_right (by omega)] at hc
        exact (hg _ _ j c hc).mono hs hk hu (upd_old hn)

theorem Ext.drew (w : World) : Ext w w.drew := ⟨Nat.le_refl _, rfl, rfl, rfl, fun _ _ => rfl⟩

theorem evAppend_ok {E : Env} (hE : EnvOk E) {n : Nat} {hp : Nat → AO} {elem t t' el' ty : TypeId} {ab ax : AV} {vb vx : Value} {f : Eff} {fp : List Nat}
    (h : (evAppend E hp n elem ab ax).val = some f) (hu : E.P.underlying t = some (.slice elem)) (hu' : E.P.underlying t' = some (.slice el'))
    (hb : Rv w U ρ ab vb) (hx : Rv w U ρ ax vx) (hub : ∀ b, U b → b < w.heap.size) (hfp : FpOk w U ρ hp fp) (hin1 : ∀ id ∈ ab.ids, id ∈ fp) (hin2 : ∀ id ∈ ax.ids, id ∈ fp) (hn : ρ n = none) :
    ∃ v w' U' ρ', (Builtin.append_ #[t, t'] ty #[vb, vx]).run E.P w = .ok v w' ∧ Ef n hp f w U ρ v w' U' ρ' ∧ ∀ id o, (id, o) ∈ f.wr → id ∈ fp := by
  -- nothing to append to a slice without room
  have none0 : ∀ (a : Option Addr) (i : TypeInfo), E.P.info? elem = some i → ∀ x, (Builtin.lenOf x).run E.P w = .ok 0 w → (Builtin.firstCells i.size 0 x).run E.P w = .ok #[] w →
      (Builtin.append_ #[t, t'] ty #[.slice a 0 0, x]).run E.P w = .ok (.slice a 0 0) w := by
    intro a i hi x hl hf
    cases a <;> simp [Builtin.append_, run_underlying hu, run_underlying hu', Go.sizeOf, typeInfo, hi, hl, hf, storeCells]
  unfold evAppend at h
  split at h
  · -- onto nil
    rename_i e he
    obtain ⟨i, z, hinfo, hisz, hpos, hbytes, hz, hzc⟩ := hE.sh elem e he
    split at h
    · rename_i l hl
      simp at h
      obtain ⟨hmax, rfl⟩ := h
      cases hb with
      | nils a =>
      obtain ⟨a', cap', g, rfl, hle, hg, hone, hnone, hcell⟩ := (asSl_read hl hx (fun id hid => hfp.ob id (hin2 id hid))).cells hpos
      have hsrc := Src.ofSlR (P := E.P) (w := w) (e := e) (cap := cap') hu' hone hnone hcell
      rw [← hisz] at hsrc
      by_cases h0 : l = []
      · subst h0
        refine ⟨.slice a 0 0, w, U, _, none0 a i hinfo _ (hsrc.len w) (by simpa [rowsV] using hsrc.cells), Ef.newVec (by simp) hn rfl (Ext.refl w) (fun _ _ _ => rfl) hub (fun _ _ => Iff.rfl) ?_ ?_, by simp⟩
        · exact ⟨a, 0, by simp [upd], by simp, .inl ⟨rfl, rfl⟩⟩
        · intro b hb; cases a <;> simp [blkOf] at hb
      · have hlpos : 0 < l.length := List.length_pos_iff.2 h0
        have hold : (Builtin.firstCells i.size 0 (.slice a 0 0)).run E.P w.drew = .ok ([] : List Value).toArray w.drew := by
          cases a <;> simp [Builtin.firstCells, loadCells, loadCellsFrom]
        have hrun := run_append_grow_src (P := E.P) w t t' ty elem i z hu hinfo hz a 0 0 [] hold (.slice a' l.length cap') l.length _ hsrc (by omega) (by omega)
          (growslice_fits (by omega) (by have : (0 + l.length) * i.bytes ≤ 1073741824 * 131072 := Nat.mul_le_mul (by omega) hbytes; omega))
        have hge := grownCap_ge w (0 + l.length) 0 elem
        have hvec := grown_vec (w := w) (U := U) (ρ := ρ) (n := n) (e := e) (l0 := []) (l' := l) (elem := elem) (z := z) (newCap := grownCap w (0 + l.length) 0 elem) (f := fun _ _ => undef) (g := g) hn
          (by rw [hzc, hisz]) (by simpa using hge) (by omega) (by simpa using hmax) (by simp) hg
        have e0 : rowsV e.size ([] : List (Sem e)).length (fun _ _ => undef) = [] := by simp [rowsV]
        rw [e0] at hvec
        simp only [List.length_nil] at hvec
        rw [hisz] at hrun
        refine ⟨_, _, _, _, hrun, Ef.newVec (by simp) hn rfl ((Ext.drew w).trans (Ext.alloc w.drew _ _)) (fun b hb _ => heap_push_old w.drew _ b hb) ?_ ?_ hvec ?_, by simp⟩
        · intro b hb
          rw [heap_push_size]
          rcases hb with hb | hb
          · have := hub b hb; exact Nat.lt_succ_of_lt this
          · rw [hb]; exact Nat.lt_succ_self _
        · intro b hb
          exact ⟨fun h => h.elim (fun x => x) (fun e => by omega), .inl⟩
        · intro b hb
          simp [blkOf] at hb
          exact .inl (by omega)
    · simp at h
  · -- onto an own slice
    rename_i e id he
    obtain ⟨i, z, hinfo, hisz, hpos, hbytes, hz, hzc⟩ := hE.sh elem e he
    split at h
    · rename_i e' l0 hid
      split at h
      · rename_i hee
        subst hee
        split at h
        · rename_i l' hl
          simp at h
          obtain ⟨hmax, rfl⟩ := h
          have hidfp := hin1 id (by simp [AV.ids])
          cases hb with
          | vec _ _ hv hv1 =>
          have hob := hfp.ob id hidfp
          rw [hid] at hob
          obtain ⟨a', cap', g, rfl, hle, hg, hone, hnone, hcell⟩ := (asSl_read hl hx (fun id hid => hfp.ob id (hin2 id hid))).cells hpos
          have hsrc := Src.ofSlR (P := E.P) (w := w) (e := e') (cap := cap') hu' hone hnone hcell
          obtain ⟨a0, cap0, f0, rfl, hle0, hf0, hone0, hnone0, hcell0⟩ := (vec_read hob hv).cells hpos
          have hwr : ∀ id' o, (id', o) ∈ [(id, AO.dead)] → o = .dead := by intro id' o h; simp at h; exact h.2
          have hfpw : ∀ id' o, (id', o) ∈ [(id, AO.dead)] → id' ∈ fp := by intro id' o h; simp at h; rw [h.1]; exact hidfp
          by_cases hroom : l0.length + l'.length ≤ cap0
          · -- there is room
            obtain ⟨a1, c1, hv1', hm1, h3⟩ := hob
            rw [hv] at hv1'; cases hv1'
            rcases h3 with ⟨rfl, rfl⟩ | ⟨b, T, arr, rfl, hc, hUb, hbb, hsz, hle1, hrr⟩
            · have hl0 : l' = [] := by simpa using hroom
              subst hl0
              rw [← hisz] at hsrc
              refine ⟨.slice a0 0 0, w, U, _, none0 a0 i hinfo _ (hsrc.len w) (by simpa [rowsV] using hsrc.cells), Ef.newVec hwr hn rfl (Ext.refl w) (fun _ _ _ => rfl) hub (fun _ _ => Iff.rfl) ?_ ?_, hfpw⟩
              · exact ⟨a0, 0, by simp [upd], by simp, .inl ⟨by simp, rfl⟩⟩
              · intro b hb; cases a0 <;> simp [blkOf] at hb
            · have hnl := rowsV_length (size := e'.size) (n := l'.length) (vals := g)
              have hmul : (l0.length + l'.length) * e'.size ≤ cap0 * e'.size := Nat.mul_le_mul_right _ hroom
              rw [Nat.add_mul] at hmul
              have hrun := run_append_room_src (P := E.P) w t t' ty elem i hu hinfo b 0 l0.length cap0 (.slice a' l'.length cap') l'.length _ (by rw [hisz]; exact hsrc) hroom
                (fun j hj => by
                  have : 0 + l0.length * i.size + j < arr.size := by rw [hisz]; omega
                  simp only [World.cell?, hbb, Option.isSome_none, Bool.false_eq_true, if_false, Array.getElem?_eq_getElem this, Option.isSome_some])
                (fun j hj => by simp [World.frozen?, hbb])
              rw [hisz, Nat.zero_add] at hrun
              have hown : ownsB ρ id (hp id) b := ⟨by rw [hid]; rfl, _, hv, by simp [blkOf]; omega⟩
              have hk : ∀ b', b' < w.heap.size → ¬ U b' → (w.setCells b (l0.length * e'.size) (rowsV e'.size l'.length g)).heap[b']? = w.heap[b']? := fun b' _ hb' => heap_setCells_other _ _ _ _ _ (fun e => hb' (e ▸ hUb))
              have hs : w.heap.size ≤ (w.setCells b (l0.length * e'.size) (rowsV e'.size l'.length g)).heap.size := by rw [setCells_size]; exact Nat.le_refl _
              refine ⟨_, _, U, _, hrun, Ef.newVec hwr hn rfl (Ext.setCells _ w b _) ?_ ?_ (fun _ _ => Iff.rfl) ?_ ?_, hfpw⟩
              · intro b' _ hno
                exact heap_setCells_other _ _ _ _ _ (fun e => hno id _ (by simp; rfl) (e ▸ hown))
              · intro b' h'; rw [setCells_size]; exact hub b' h'
              · refine ⟨some ⟨b, 0, none⟩, cap0, by simp [upd], by simp; unfold maxStr; omega, .inr ⟨b, T, _, rfl, hc, hUb, heap_setCells _ w b _ hbb, by simp [setV_length, hsz], by simpa using hroom, ?_⟩⟩
                intro i' hi' j c hc'
                simp only [List.length_append] at hi'
                have hj : j < e'.size := by have := (List.getElem?_eq_some_iff.1 hc').1; rwa [explode_length] at this
                have hq : i' * e'.size + j < (l0.length + l'.length) * e'.size := by
                  have := Nat.mul_le_mul_right e'.size (Nat.succ_le_of_lt hi')
                  rw [Nat.succ_mul] at this
                  omega
                rw [Nat.add_mul] at hq
                simp only [List.getElem?_toArray]
                rw [setV_get]
                by_cases hlt : i' < l0.length
                · have hq2 : i' * e'.size + j < l0.length * e'.size := by
                    have := Nat.mul_le_mul_right e'.size (Nat.succ_le_of_lt hlt)
                    rw [Nat.succ_mul] at this
                    omega
                  rw [if_neg (by omega)]
                  rw [List.getElem_append_left hlt] at hc'
                  obtain ⟨x, h1, h2⟩ := hrr i' hlt j c hc'
                  exact ⟨x, by simpa using h1, h2.mono hs hk (fun _ _ h => h) (upd_old hn)⟩
                · have hge : l0.length * e'.size ≤ i' * e'.size := Nat.mul_le_mul_right _ (by omega)
                  rw [if_pos (by simp only [hnl, Array.length_toList]; omega)]
                  rw [List.getElem_append_right (by omega)] at hc'
                  refine ⟨g (i' - l0.length) j, ?_, (hg _ _ j c hc').mono hs hk (fun _ _ h => h) (upd_old hn)⟩
                  rw [show i' * e'.size + j - l0.length * e'.size = (i' - l0.length) * e'.size + j by rw [Nat.sub_mul]; omega]
                  exact rowsV_get (by omega) hj
              · intro b' hb'
                simp [blkOf] at hb'
                exact .inr ⟨id, _, by simp; rfl, by rw [← hb'.2]; exact hown⟩
          · -- it grows
            have hold : (Builtin.firstCells i.size l0.length (.slice a0 l0.length cap0)).run E.P w.drew = .ok (rowsV e'.size l0.length f0).toArray w.drew := by
              cases a0 with
              | none =>
                have := hnone0 rfl
                subst this
                simp [Builtin.firstCells, rowsV]
              | some ad =>
                exact run_firstCells_some w.drew i.size l0.length ad l0.length cap0 _ (by rw [rowsV_length, hisz]) (fun q x hq => by simpa using hcell0 ad rfl q x hq)
            have hrun := run_append_grow_src (P := E.P) w t t' ty elem i z hu hinfo hz a0 l0.length cap0 _ hold (.slice a' l'.length cap') l'.length _ (by rw [hisz]; exact hsrc) (by omega) (by omega)
              (growslice_fits (by omega) (by have : (l0.length + l'.length) * i.bytes ≤ 1073741824 * 131072 := Nat.mul_le_mul (by omega) hbytes; omega))
            have hge := grownCap_ge w (l0.length + l'.length) cap0 elem
            have hvec := grown_vec (w := w) (U := U) (ρ := ρ) (n := n) (e := e') (l0 := l0) (l' := l') (elem := elem) (z := z) (newCap := grownCap w (l0.length + l'.length) cap0 elem) (f := f0) (g := g) hn
              (by rw [hzc, hisz]) hge (by omega) hmax hf0 hg
            refine ⟨_, _, _, _, hrun, Ef.newVec hwr hn rfl ((Ext.drew w).trans (Ext.alloc w.drew _ _)) (fun b hb _ => heap_push_old w.drew _ b hb) ?_ ?_ hvec ?_, hfpw⟩
            · intro b hb
              rw [heap_push_size]
              rcases hb with hb | hb
              · have := hub b hb; exact Nat.lt_succ_of_lt this
              · rw [hb]; exact Nat.lt_succ_self _
            · intro b hb
              exact ⟨fun h => h.elim (fun x => x) (fun e => by omega), .inl⟩
            · intro b hb
              simp [blkOf] at hb
              exact .inl (by omega)
        · simp at h
      · simp at h
    · simp at h
  · simp at h

end
end Cad

namespace Cad
open Go
section
variable {P : Program} {w : World} {U : Nat → Prop} {ρ : Nat → Option Value}

theorem str_beq (a b : Str) : ((⟨a.toArray⟩ : ByteArray) == ⟨b.toArray⟩) = (a == b) := by
  show (a.toArray == b.toArray) = (a == b)
  simp

abbrev keysOf (es : List (Str × AV)) : List Value := es.map fun p => Value.string ⟨p.1.toArray⟩

theorem find_none : ∀ (es : List (Str × AV)) (ents : List MapEntry) (s : Str) (i : Nat), ents.map (·.key) = keysOf es → es.any (fun p => p.1 == s) = false →
    Instr.findNow .string (.string ⟨s.toArray⟩) ents i = some none
  | [], [], _, _, _, _ => rfl
  | [], _ :: _, _, _, h, _ => by simp at h
  | _ :: _, [], _, _, h, _ => by simp at h
  | p :: es, e :: ents, s, i, h, hn => by
    simp only [keysOf, List.map_cons, List.cons.injEq] at h
    simp only [List.any_cons, Bool.or_eq_false_iff] at hn
    have hne : (s == p.1) = false := by
      have := hn.1
      simp only [beq_eq_false_iff_ne, ne_eq] at this ⊢
      exact fun e => this e.symm
    simp only [Instr.findNow, h.1, Instr.sameNow, str_beq, hne]
    exact find_none es ents s (i + 1) h.2 hn.2

theorem find_look : ∀ (es : List (Str × AV)) (ents : List MapEntry) (s : Str) (i : Nat) (z : Tr Eff) (f : Eff), ents.map (·.key) = keysOf es → RvL w U ρ (es.map (·.2)) (ents.map (·.val)) → (lookT es s z).val = some f →
    (∃ j v av, Instr.findNow .string (.string ⟨s.toArray⟩) ents i = some (some (j, v)) ∧ Rv w U ρ av v ∧ f = { val := av }) ∨ (Instr.findNow .string (.string ⟨s.toArray⟩) ents i = some none ∧ z.val = some f)
  | [], [], _, _, _, _, _, _, hv => .inr ⟨rfl, hv⟩
  | [], _ :: _, _, _, _, _, h, _, _ => by simp at h
  | _ :: _, [], _, _, _, _, h, _, _ => by simp at h
  | p :: es, e :: ents, s, i, z, f, h, hr, hv => by
    simp only [keysOf, List.map_cons, List.cons.injEq] at h
    obtain ⟨k, av⟩ := p
    simp only [lookT, Tr.val] at hv
    simp only [Instr.findNow, h.1, Instr.sameNow, str_beq]
    cases hk : s == k with
    | true =>
      rw [hk] at hv
      simp [ret] at hv
      subst hv
      exact .inl ⟨i, e.val, av, rfl, hr.rv 0 av e.val rfl rfl, rfl⟩
    | false =>
      rw [hk] at hv
      simp at hv
      refine find_look es ents s (i + 1) z f h.2 ⟨by have := hr.len; simpa using this, fun j c v hc hv' => hr.rv (j + 1) c v (by simpa using hc) (by simpa using hv')⟩ hv

theorem Ext.allocO (w : World) (o : Obj) : Ext w (w.alloc o) where
  sz := by rw [heap_push_size]; omega
  os := rfl
  out := rfl
  tape := rfl
  fr := fun a h => World.frozen?_of_block (heap_push_old w _ _ h)

theorem Ef.mkMap {n : Nat} {hp : Nat → AO} (hub : ∀ b, U b → b < w.heap.size) (hn : ρ n = none) :
    Ef n hp { val := .mp n, nw := [.fmap []] } w U ρ (.map (some w.heap.size)) (w.alloc (.map #[] 0)) (fun b => U b ∨ b = w.heap.size) (upd ρ n (.map (some w.heap.size))) := by
  have hu : ∀ b, b < w.heap.size → (U b ∨ b = w.heap.size) → U b := fun b hb h => h.elim id (fun e => by omega)
  refine ⟨Ext.allocO w _, .mp n _ (by simp [upd]) rfl, by simp, ?_, ?_, upd_old hn, fun b hb _ => heap_push_old w _ b hb, ?_, fun b hb h => hu b hb h, fun b _ h _ => .inl h, ?_, ?_⟩
  · intro j o hj
    cases j with
    | succ j => simp at hj
    | zero =>
      simp at hj; subst hj
      exact ⟨w.heap.size, #[], 0, by simp [upd], .inr rfl, heap_push_new w _, ⟨rfl, by simp⟩, rfl⟩
  · intro id h
    unfold upd
    rw [if_neg (by simp at h; omega)]
  · intro b h
    rw [heap_push_size]
    rcases h with h | h
    · have := hub b h; omega
    · omega
  · rintro id o b (h | ⟨h1, h2⟩) ho
    · simp at h
    · have e1 : id - n < 1 := by have := (List.getElem?_eq_some_iff.1 h2).1; simpa using this
      have hid : id = n := by omega
      subst hid
      obtain ⟨_, v, hv, hb⟩ := ho
      simp [upd] at hv; subst hv
      simp [blkOf] at hb
      exact .inl (by omega)
  · rintro id1 o1 id2 o2 b (h | ⟨h1, h2⟩) (h' | ⟨h1', h2'⟩) _ _
    · simp at h
    · simp at h
    · simp at h'
    · have e1 : id1 - n < 1 := by have := (List.getElem?_eq_some_iff.1 h2).1; simpa using this
      have e2 : id2 - n < 1 := by have := (List.getElem?_eq_some_iff.1 h2').1; simpa using this
      omega

theorem evInsert_ok {n : Nat} {hp : Nat → AO} {t : TypeId} {am ak ax : AV} {vm vk vx : Value} {f : Eff} {fp : List Nat} (h : (evInsert P hp t am ak ax).val = some f)
    (hm : Rv w U ρ am vm) (hk : Rv w U ρ ak vk) (hx : Rv w U ρ ax vx) (hub : ∀ b, U b → b < w.heap.size) (hfp : FpOk w U ρ hp fp) (hin : ∀ id ∈ am.ids, id ∈ fp) :
    ∃ w', (Instr.mapUpdate t vm vk vx).run P w = .ok () w' ∧ Ef n hp f w U ρ undef w' U ρ ∧ ∀ id o, (id, o) ∈ f.wr → id ∈ fp := by
  unfold evInsert at h
  split at h
  · rename_i kt et ht
    split at h
    · rename_i hkt
      split at h
      · rename_i id s
        have hid := hin id (by simp [AV.ids])
        have ho := hfp.ob id hid
        split at h
        · rename_i es hes
          simp only [Tr.val] at h
          split at h
          · rename_i hnone
            simp only [Bool.not_eq_true'] at hnone
            simp only [Option.some.injEq] at h
            subst h
            rw [hes] at ho
            obtain ⟨r, ents, clock, h1, h2, h3, h4, h5⟩ := ho
            cases hm with
            | mp _ _ hv _ =>
            rw [h1] at hv; cases hv
            cases hk with
            | str _ hs =>
            have hf := find_none es ents.toList s 0 h5 hnone
            obtain ⟨e1, e2⟩ := MapKept.heap_set (o' := Obj.map (ents.push { key := .string ⟨s.toArray⟩, val := vx, born := clock }) (clock + 1)) h3
            have hrlt : r < w.heap.size := (Array.getElem?_eq_some_iff.1 h3).1
            have hown : ownsB ρ id (hp id) r := ⟨by rw [hes]; rfl, _, h1, rfl⟩
            have hkk : ∀ b', b' < w.heap.size → ¬ U b' → (w.heap.setIfInBounds r (Obj.map (ents.push { key := .string ⟨s.toArray⟩, val := vx, born := clock }) (clock + 1)))[b']? = w.heap[b']? := fun b' _ hb' => e2 b' (fun e => hb' (e ▸ h2))
            refine ⟨{ w with heap := w.heap.setIfInBounds r (.map (ents.push { key := .string ⟨s.toArray⟩, val := vx, born := clock }) (clock + 1)) }, ?_, ?_, ?_⟩
            · simp [Instr.mapUpdate, run_underlying ht, MapKept.run_getObj_map h3, MapKept.run_checkKey hkt (k := .string ⟨s.toArray⟩) trivial, MapKept.run_findKey hkt hf, MapKept.run_setObj_map _ h3, Result.andThen]
            · refine ⟨⟨by simp, rfl, rfl, rfl, ?_⟩, .tup [] [] rfl (by simp), ?_, by simp, fun _ _ => rfl, fun _ _ h => h, ?_, ?_, fun _ _ h => h, fun _ _ h _ => h, ?_, ?_⟩
              · intro a _
                by_cases hab : a.block = r
                · unfold World.frozen?
                  simp only [hab, e1, h3]
                · exact World.frozen?_of_block (e2 a.block hab)
              · intro id' o' h'
                simp only [List.mem_singleton, Prod.mk.injEq] at h'
                obtain ⟨rfl, rfl⟩ := h'
                refine ⟨r, _, _, h1, h2, e1, ?_, ?_⟩
                · have hm1 : RvL { w with heap := w.heap.setIfInBounds r (.map (ents.push { key := .string ⟨s.toArray⟩, val := vx, born := clock }) (clock + 1)) } U ρ (es.map (·.2)) (ents.toList.map (·.val)) :=
                    h4.mono (by simp) hkk (fun _ _ h => h) (fun _ _ h => h)
                  have hx1 : Rv { w with heap := w.heap.setIfInBounds r (.map (ents.push { key := .string ⟨s.toArray⟩, val := vx, born := clock }) (clock + 1)) } U ρ ax vx :=
                    hx.mono (by simp) hkk (fun _ _ h => h) (fun _ _ h => h)
                  refine ⟨by have := hm1.len; simp at this ⊢; exact this, fun j c v hc hv => ?_⟩
                  simp only [List.map_append, List.map_cons, List.map_nil, Array.toList_push] at hc hv
                  by_cases hj : j < (es.map (·.2)).length
                  · rw [List.getElem?_append_left hj] at hc
                    rw [List.getElem?_append_left (by rw [← hm1.len]; exact hj)] at hv
                    exact hm1.rv j c v hc hv
                  · rw [List.getElem?_append_right (by omega)] at hc
                    rw [List.getElem?_append_right (by rw [← hm1.len]; omega), ← hm1.len] at hv
                    cases hj0 : j - (es.map (·.2)).length with
                    | zero =>
                      rw [hj0] at hc hv
                      simp at hc hv
                      subst hc; subst hv
                      exact hx1
                    | succ q => rw [hj0] at hc; simp at hc
                · simp only [Array.toList_push, List.map_append, h5, List.map_cons, List.map_nil]
              · intro b _ hno
                exact e2 b (fun e => hno id (.fmap (es ++ [(s, ax)])) (List.mem_singleton.2 rfl) (e ▸ hown))
              · intro b hb
                have := hub b hb
                simpa using this
              · rintro id' o' b (h' | ⟨_, h'⟩) ho'
                · simp only [List.mem_singleton, Prod.mk.injEq] at h'
                  obtain ⟨rfl, rfl⟩ := h'
                  refine .inr ⟨id', _, List.mem_singleton.2 rfl, ?_⟩
                  obtain ⟨_, v, hv, hb⟩ := ho'
                  exact ⟨by rw [hes]; rfl, v, hv, hb⟩
                · simp at h'
              · rintro id1 o1 id2 o2 b (h' | ⟨_, h'⟩) (h'' | ⟨_, h''⟩) _ _
                · simp only [List.mem_singleton, Prod.mk.injEq] at h' h''
                  rw [h'.1, h''.1]
                · simp at h''
                · simp at h'
                · simp at h'
            · intro id' o' h'
              simp only [List.mem_singleton, Prod.mk.injEq] at h'
              rw [h'.1]; exact hid
          · cases h
        · simp at h
      · simp at h
    · simp at h
  · simp at h

theorem evLookup_ok {hp : Nat → AO} {t : TypeId} {ax ai : AV} {vx vi : Value} {f : Eff} (h : (evLookup P hp t ax ai).val = some f) (hx : Rv w U ρ ax vx) (hi : Rv w U ρ ai vi) (hob : ∀ id ∈ ax.ids, objOk w U ρ id (hp id)) :
    ∃ r v, f = { val := r } ∧ (Instr.lookup t vx vi false).run P w = .ok v w ∧ Rv w U ρ r v := by
  unfold evLookup at h
  split at h
  · rename_i kt et ht
    split at h
    · rename_i hkt
      split at h
      · rename_i id s
        have ho := hob id (by simp [AV.ids])
        split at h
        · rename_i es hes
          rw [hes] at ho
          obtain ⟨r, ents, clock, h1, h2, h3, h4, h5⟩ := ho
          cases hx with
          | mp _ _ hv _ =>
          rw [h1] at hv; cases hv
          cases hi with
          | str _ hs =>
          rcases find_look es ents.toList s 0 _ f h5 h4 h with ⟨j, v, av, hf, hr, rfl⟩ | ⟨hf, hz⟩
          · refine ⟨av, v, rfl, ?_, hr⟩
            simp [Instr.lookup, run_underlying ht, MapKept.run_getObj_map h3, MapKept.run_checkKey hkt (k := .string ⟨s.toArray⟩) trivial, MapKept.run_findKey hkt hf, Result.andThen]
          · simp at hz
            obtain ⟨z, hz, rfl⟩ := hz
            unfold tzero at hz
            split at hz
            · rename_i i hinfo
              simp only [Option.map_eq_some_iff] at hz
              obtain ⟨zv, hz1, rfl⟩ := hz
              refine ⟨_, zv, rfl, ?_, absV_ok zv⟩
              simp [Instr.lookup, run_underlying ht, MapKept.run_getObj_map h3, MapKept.run_checkKey hkt (k := .string ⟨s.toArray⟩) trivial, MapKept.run_findKey hkt hf, Result.andThen, zeroValue, typeInfo, hinfo, hz1]
            · cases hz
        · simp at h
      · simp at h
    · simp at h
  · simp at h

end
end Cad

namespace Cad
open Go
section
variable {w : World} {U : Nat → Prop} {ρ : Nat → Option Value}

/-- The package variables hold what the environment says. -/
def GlOk (gl : Nat → AV) (w : World) (U : Nat → Prop) : Prop := ∀ g, Rv w U (fun _ => none) (gl g) (.pointer (some ⟨g, 0, none⟩))

/-- A function does what its meaning says. -/
structure FOk (P : Program) (gl : Nat → AV) (k : FuncId) (F : FSem) : Prop where
  fn : ∃ fn, P.funcs[k]? = some fn ∧ (fn.name == "runtime.NumGoroutine") = false ∧ fn.body.isNone = false
  calls : ∀ (w : World) (U : Nat → Prop) (ρ : Nat → Option Value) (hp : Nat → AO) (n : Nat) (args : List AV) (vals : List Value) (f : Eff) (fp : List Nat), (F args hp n).val = some f →
    RvL w U ρ args vals → (∀ b, U b → b < w.heap.size) → GlOk gl w U → FpOk w U ρ hp fp → (∀ id ∈ AV.idsL args, id ∈ fp) → (∀ id ∈ fp, ∀ j ∈ (hp id).ids, j ∈ fp) → (∀ j, j < f.nw.length → ρ (n + j) = none) →
    Calls P k vals.toArray w (fun e w' => ∃ v U' ρ', e = .returned v ∧ Ef n hp f w U ρ v w' U' ρ') ∧ ∀ id o, (id, o) ∈ f.wr → id ∈ fp

/-- All that the environment names is so. -/
structure EnvAll (E : Env) : Prop extends EnvOk E where
  fs : ∀ k F, E.F k = some F → FOk E.P E.gl k F

theorem partIds_ids {v : AV} {id : Nat} (h : id ∈ partIds v) : id ∈ v.ids := by
  have hl : ∀ cs : List AV, id ∈ cs.flatMap vecIds → id ∈ AV.idsL cs := by
    intro cs
    induction cs with
    | nil => simp
    | cons c cs ih =>
      intro h
      simp only [List.flatMap_cons, List.mem_append] at h
      simp only [AV.idsL, List.mem_append]
      rcases h with h | h
      · left
        cases c <;> simp [vecIds] at h
        subst h; simp [AV.ids]
      · exact .inr (ih h)
  unfold partIds at h
  split at h
  · rename_i cs hcs
    cases v <;> simp only [cellsOf, Option.some.injEq, reduceCtorEq] at hcs <;> (try subst hcs)
    case agg cs => simp only [AV.ids]; exact hl _ h
    case vec id' => simp [vecIds] at h; subst h; simp [AV.ids]
    all_goals simp [vecIds] at h
  · simp at h

theorem idsL_mem {cs : List AV} {c : AV} {id : Nat} (hc : c ∈ cs) (h : id ∈ c.ids) : id ∈ AV.idsL cs := by
  induction cs with
  | nil => simp at hc
  | cons x cs ih =>
    simp only [AV.idsL, List.mem_append]
    rcases List.mem_cons.1 hc with rfl | hc
    · exact .inl h
    · exact .inr (ih hc)

theorem idsL_of {cs : List AV} {id : Nat} (h : id ∈ AV.idsL cs) : ∃ c ∈ cs, id ∈ c.ids := by
  induction cs with
  | nil => simp [AV.idsL] at h
  | cons x cs ih =>
    simp only [AV.idsL, List.mem_append] at h
    rcases h with h | h
    · exact ⟨x, by simp, h⟩
    · obtain ⟨c, hc, hi⟩ := ih h
      exact ⟨c, by simp [hc], hi⟩

theorem wp_value {P : Program} {o : Oper} {a : Act} {K : Act → World → Prop} {Q : Exit → Act → World → Prop} {v : Value} {w' : World} (h : (execOp a.eval o).run P w = .ok (.value v) w') (hk : K (a.put o.dst v) w') : o.wp P a w K Q := by
  rw [Oper.wp, h]; exact hk

theorem wp_skip' {P : Program} {o : Oper} {a : Act} {K : Act → World → Prop} {Q : Exit → Act → World → Prop} {w' : World} (h : (execOp a.eval o).run P w = .ok .skip w') (hk : K (a.put o.dst undef) w') : o.wp P a w K Q := by
  rw [Oper.wp, h]; exact hk

theorem rvL_map {ev : Operand → AV} {g : Operand → Value} : ∀ (xs : List Operand), (∀ x ∈ xs, Rv w U ρ (ev x) (g x)) → RvL w U ρ (xs.map ev) (xs.map g)
  | [], _ => ⟨rfl, by simp⟩
  | x :: xs, h => by
    have ih := rvL_map xs (fun y hy => h y (by simp [hy]))
    refine ⟨by simp, fun j c v hc hv => ?_⟩
    cases j with
    | zero => simp at hc hv; subst hc; subst hv; exact h x (by simp)
    | succ j => exact ih.rv j c v (by simpa using hc) (by simpa using hv)

theorem RvL.append {a b : List AV} {x y : List Value} (h : RvL w U ρ a x) (h' : RvL w U ρ b y) : RvL w U ρ (a ++ b) (x ++ y) := by
  refine ⟨by simp [h.len, h'.len], fun j c v hc hv => ?_⟩
  by_cases hj : j < a.length
  · rw [List.getElem?_append_left hj] at hc
    rw [List.getElem?_append_left (by rw [← h.len]; exact hj)] at hv
    exact h.rv j c v hc hv
  · rw [List.getElem?_append_right (by omega)] at hc
    rw [List.getElem?_append_right (by rw [← h.len]; omega), ← h.len] at hv
    exact h'.rv _ c v hc hv

theorem evalOp_ok {E : Env} (hE : EnvAll E) {ev : Operand → AV} {hp : Nat → AO} {n : Nat} {o : Oper} {f : Eff} {a : Act} {fp : List Nat} (h : (evalOp E ev hp n o).val = some f)
    (hev : ∀ x ∈ o.op.operands.toList, Rv w U ρ (ev x) (a.eval x)) (hub : ∀ b, U b → b < w.heap.size) (hgl : GlOk E.gl w U) (hfp : FpOk w U ρ hp fp)
    (hin : memOp o.op = true → ∀ x ∈ o.op.operands.toList, ∀ id ∈ (ev x).ids, id ∈ fp) (hcl : memOp o.op = true → ∀ id ∈ fp, ∀ j ∈ (hp id).ids, j ∈ fp) (hn : ∀ j, j < f.nw.length → ρ (n + j) = none) :
    (∀ (K : Act → World → Prop) (Q : Exit → Act → World → Prop), (∀ v w' U' ρ', Ef n hp f w U ρ v w' U' ρ' → K (a.put o.dst v) w') → o.wp E.P a w K Q) ∧ ∀ id o', (id, o') ∈ f.wr → id ∈ fp := by
  -- what only computes
  have pureCase : ∀ (r : AV) (x : Value), f = { val := r } → (execOp a.eval o).run E.P w = .ok (.value x) w → Rv w U ρ r x →
      (∀ (K : Act → World → Prop) (Q : Exit → Act → World → Prop), (∀ v w' U' ρ', Ef n hp f w U ρ v w' U' ρ' → K (a.put o.dst v) w') → o.wp E.P a w K Q) ∧ ∀ id o', (id, o') ∈ f.wr → id ∈ fp := by
    rintro r x rfl hrun hr
    exact ⟨fun K Q hK => wp_value hrun (hK _ _ _ _ (Ef.pure hub hr)), by simp⟩
  unfold evalOp at h
  split at h
  case h_1 x ho =>
    simp at h; subst h
    exact pureCase _ (a.eval x) rfl (by simp [execOp, ho]) (hev x (by simp [ho, Op.operands]))
  case h_2 x ho =>
    simp at h; subst h
    exact pureCase _ (a.eval x) rfl (by simp [execOp, ho]) (hev x (by simp [ho, Op.operands]))
  case h_3 c x y ho =>
    have hc := hev c (by simp [ho, Op.operands])
    have hx := hev x (by simp [ho, Op.operands])
    have hy := hev y (by simp [ho, Op.operands])
    generalize hvc : a.eval c = vc at hc
    split at h
    · rename_i hcc
      rw [hcc] at hc; cases hc
      simp at h; subst h
      exact pureCase _ (a.eval x) rfl (by simp [execOp, ho, hvc, asBool]) hx
    · rename_i hcc
      rw [hcc] at hc; cases hc
      simp at h; subst h
      exact pureCase _ (a.eval y) rfl (by simp [execOp, ho, hvc, asBool]) hy
    · rename_i b hcc
      rw [hcc] at hc; cases hc
      simp at h
      obtain ⟨z, hz, rfl⟩ := h
      refine pureCase _ (if b then a.eval x else a.eval y) rfl (by simp [execOp, ho, hvc, asBool]) (mergeAV_ok hz ?_)
      cases b <;> simp [hx, hy]
    · simp at h
  case h_4 t x ho =>
    have hx := hev x (by simp [ho, Op.operands])
    split at h
    · rename_i cs hcs
      simp at h; subst h
      obtain ⟨h1, h2⟩ := cellsOf_ok hcs hx
      refine ⟨fun K Q hK => wp_value (v := .pointer (some ⟨w.heap.size, 0, none⟩)) (w' := w.alloc (.cells (a.eval x).cells t)) ?_ (hK _ _ _ _ (Ef.box hub (by simpa using hn 0 (by simp)) h1 h2)), by simp⟩
      simp [execOp, ho, Instr.box, newVar, newRow]
    · simp at h
  case h_5 t ho =>
    split at h
    · rename_i z hz
      split at h
      · rename_i cs hcs
        simp at h; subst h
        unfold tzero at hz
        split at hz
        · rename_i i hinfo
          simp only [Option.map_eq_some_iff] at hz
          obtain ⟨zv, hz1, rfl⟩ := hz
          obtain ⟨h1, h2⟩ := cellsOf_ok hcs (absV_ok (w := w) (U := U) (ρ := ρ) zv)
          refine ⟨fun K Q hK => wp_value (v := .pointer (some ⟨w.heap.size, 0, none⟩)) (w' := w.alloc (.cells zv.cells t)) ?_ (hK _ _ _ _ (Ef.box hub (by simpa using hn 0 (by simp)) h1 h2)), by simp⟩
          simp [execOp, ho, Instr.alloc, zeroValue, typeInfo, hinfo, hz1, newVar, newRow]
        · cases hz
      · simp at h
    · simp at h
  case h_6 t x ho =>
    have hx := hev x (by simp [ho, Op.operands])
    obtain ⟨r, v, rfl, hrun, hr⟩ := evLoad_ok h hx (fun id hid => hfp.ob id (hin (by simp [ho, memOp]) x (by simp [ho, Op.operands]) id hid))
    exact pureCase r v rfl (by simp [execOp, ho, hrun]) hr
  case h_7 t x y ho =>
    have hx := hev x (by simp [ho, Op.operands])
    have hy := hev y (by simp [ho, Op.operands])
    obtain ⟨w', U', hrun, hef, hwr⟩ := evStore_ok (n := n) h hx hy hub hfp (fun id hid => hin (by simp [ho, memOp]) x (by simp [ho, Op.operands]) id hid)
      (fun id hid => hin (by simp [ho, memOp]) y (by simp [ho, Op.operands]) id (partIds_ids hid))
    exact ⟨fun K Q hK => wp_skip' (by simp [execOp, ho, hrun]) (hK _ _ _ _ hef), hwr⟩
  case h_8 t x fl ho =>
    have hx := hev x (by simp [ho, Op.operands])
    obtain ⟨r, v, rfl, hrun, hr⟩ := evField_ok h hx
    exact pureCase r v rfl (by simp [execOp, ho, hrun]) hr
  case h_9 t x fl ho =>
    have hx := hev x (by simp [ho, Op.operands])
    split at h
    · rename_i fd cs hfd hcs
      simp at h
      obtain ⟨r, hr, rfl⟩ := h
      rw [hcs] at hx
      generalize hvx : a.eval x = vx at hx
      cases hx with
      | agg _ vs hl h1 hrr =>
      obtain ⟨v, hrun, hrv⟩ := partA_part hr hl h1 hrr
      unfold fieldOf at hfd
      split at hfd
      · rename_i fs hu
        exact pureCase r v rfl (by simp [execOp, ho, hvx, Instr.field, run_underlying hu, hfd, asAgg, hrun]) hrv
      · cases hfd
    · simp at h
  case h_10 t x i ho =>
    have hx := hev x (by simp [ho, Op.operands])
    have hi := hev i (by simp [ho, Op.operands])
    obtain ⟨r, v, rfl, hrun, hr⟩ := evIndexAddr_ok h hx hi (fun id hid => hfp.ob id (hin (by simp [ho, memOp]) x (by simp [ho, Op.operands]) id hid))
    exact pureCase r v rfl (by simp [execOp, ho, hrun]) hr
  case h_11 t x i ho =>
    have hx := hev x (by simp [ho, Op.operands])
    have hi := hev i (by simp [ho, Op.operands])
    obtain ⟨r, v, rfl, hrun, hr⟩ := evIndex_ok h hx hi
    exact pureCase r v rfl (by simp [execOp, ho, hrun]) hr
  case h_12 t parts ho =>
    simp at h
    obtain ⟨r, hr, rfl⟩ := h
    have hops : ∀ p ∈ parts.toList, Rv w U ρ (ev p.2) (a.eval p.2) := fun p hp => hev p.2 (by simp only [ho, Op.operands]; simp; exact ⟨p.1, by simpa using hp⟩)
    obtain ⟨v, hrun, hrv⟩ := buildA_ok (w := w) (U := U) (ρ := ρ) (vparts := parts.toList.map fun p => (p.1, a.eval p.2)) hr (by simp) (by
      have := rvL_map (w := w) (U := U) (ρ := ρ) (ev := ev) (g := a.eval) (parts.toList.map (·.2)) (fun x hx => by
        simp only [List.mem_map] at hx
        obtain ⟨p, hp, rfl⟩ := hx
        exact hops p hp)
      simpa [List.map_map, Function.comp_def] using this)
    refine pureCase r v rfl ?_ hrv
    have e1 : (parts.toList.map fun p => (p.1, a.eval p.2)).toArray = parts.map fun p => (p.1, a.eval p.2) := by
      apply Array.ext'; simp
    rw [e1] at hrun
    simp [execOp, ho, hrun]
  case h_13 t len parts ho =>
    have hops : ∀ p ∈ parts.toList, Rv w U ρ (ev p.2) (a.eval p.2) := fun p hp => hev p.2 (by simp only [ho, Op.operands]; simp; exact ⟨p.1, by simpa using hp⟩)
    obtain ⟨v, w', U', hrun, hef, hwr⟩ := evBuildSlice_ok hE.toEnvOk (n := n) (w := w) (U := U) (ρ := ρ) (vps := parts.toList.map fun p => (p.1, a.eval p.2)) h (by simp) (by
      have := rvL_map (w := w) (U := U) (ρ := ρ) (ev := ev) (g := a.eval) (parts.toList.map (·.2)) (fun x hx => by
        simp only [List.mem_map] at hx
        obtain ⟨p, hp, rfl⟩ := hx
        exact hops p hp)
      simpa [List.map_map, Function.comp_def] using this) hub hfp (fun id hid => by
        simp only [List.mem_flatMap, List.mem_map] at hid
        obtain ⟨q, ⟨p, hp, rfl⟩, hid⟩ := hid
        exact hin (by simp [ho, memOp]) p.2 (by simp only [ho, Op.operands]; simp; exact ⟨p.1, by simpa using hp⟩) id (partIds_ids hid))
    refine ⟨fun K Q hK => wp_value ?_ (hK _ _ _ _ hef), hwr⟩
    have e1 : (parts.toList.map fun p => (p.1, a.eval p.2)).toArray = parts.map fun p => (p.1, a.eval p.2) := by
      apply Array.ext'; simp
    rw [e1] at hrun
    simp [execOp, ho, hrun]
  case h_14 op t x y yt ho =>
    have hx := hev x (by simp [ho, Op.operands])
    have hy := hev y (by simp [ho, Op.operands])
    obtain ⟨r, v, rfl, hrun, hr⟩ := binA_ok x y h hx hy
    refine pureCase r v rfl ?_ hr
    simp only [execOp, ho]
    rw [Sem.run_bind, hrun]
    rfl
  case h_15 t x ho =>
    have hx := hev x (by simp [ho, Op.operands])
    generalize hvx : a.eval x = vx at hx
    split at h
    · rename_i b hb
      rw [hb] at hx; cases hx
      simp at h; subst h
      exact pureCase _ (.bool (!b)) rfl (by simp [execOp, ho, hvx, Op.unary]) (.bool _)
    · rename_i b hb
      rw [hb] at hx; cases hx
      simp at h; subst h
      exact pureCase _ (.bool (!b)) rfl (by simp [execOp, ho, hvx, Op.unary]) (.kb _)
    · simp at h
  case h_16 t x ho =>
    have hx := hev x (by simp [ho, Op.operands])
    generalize hvx : a.eval x = vx at hx
    split at h
    · rename_i k b hb
      rw [hb] at hx; cases hx
      simp at h; subst h
      exact pureCase _ (.int k (k.wrap (-b))) rfl (by simp [execOp, ho, hvx, Op.unary, Op.intArith]) (.int _ _ (wrap_ok _ _))
    · simp at h
  case h_17 src dst x ho =>
    have hx := hev x (by simp [ho, Op.operands])
    generalize hvx : a.eval x = vx at hx
    split at h
    · rename_i d k k' b hs hu hb
      rw [hb] at hx; cases hx
      simp at h; subst h
      exact pureCase _ (.int k (k.wrap b)) rfl (by simp [execOp, ho, hvx, convert, run_underlying hs, run_underlying hu, Conv.intToInt]) (.int _ _ (wrap_ok _ _))
    · rename_i d s hs hu hb
      rw [hb] at hx
      have hh := hx
      cases hx
      simp at h; subst h
      exact pureCase _ _ rfl (by simp [execOp, ho, hvx, convert, run_underlying hs, run_underlying hu]) hh
    · simp at h
  case h_18 t x lo hi mx ho =>
    have hx := hev x (by simp [ho, Op.operands])
    obtain ⟨r, v, rfl, hrun, hr⟩ := evSlice_ok (w := w) (U := U) (ρ := ρ) (vlo := lo.map a.eval) (vhi := hi.map a.eval) (vmx := mx.map a.eval) h hx
      (fun b v hb hv => by cases lo <;> simp at hb hv; subst hb; subst hv; exact hev _ (by simp [ho, Op.operands]))
      (fun b v hb hv => by cases hi <;> simp at hb hv; subst hb; subst hv; exact hev _ (by simp [ho, Op.operands]))
      (fun b v hb hv => by cases mx <;> simp at hb hv; subst hb; subst hv; exact hev _ (by simp [ho, Op.operands])) (by cases lo <;> rfl) (by cases hi <;> rfl) (by cases mx <;> rfl)
    exact pureCase r v rfl (by simp [execOp, ho, hrun]) hr
  case h_19 x i ho =>
    have hx := hev x (by simp [ho, Op.operands])
    generalize hvx : a.eval x = vx at hx
    split at h
    · rename_i vs hvs
      rw [hvs] at hx
      simp at h
      obtain ⟨r, hr, rfl⟩ := h
      cases hx with
      | tup _ xs hl hrr =>
      have hlt : i < xs.length := by rw [← hl]; exact (List.getElem?_eq_some_iff.1 hr).1
      exact pureCase r xs[i] rfl (by simp [execOp, ho, hvx, Instr.extract, List.getElem?_eq_getElem hlt]) (hrr i r _ hr (List.getElem?_eq_getElem hlt))
    · simp at h
  case h_20 fn first caps ho =>
    simp at h; subst h
    refine pureCase _ (.func fn (first.toList.map a.eval).toArray (caps.toList.map a.eval).toArray) rfl (by simp [execOp, ho, Instr.makeFunc]; constructor <;> (apply Array.ext'; simp)) ?_
    have h1 := rvL_map (w := w) (U := U) (ρ := ρ) (ev := ev) (g := a.eval) first.toList (fun x hx => hev x (by simp [ho, Op.operands]; exact .inl (by simpa using hx)))
    have h2 := rvL_map (w := w) (U := U) (ρ := ρ) (ev := ev) (g := a.eval) caps.toList (fun x hx => hev x (by simp [ho, Op.operands]; exact .inr (by simpa using hx)))
    exact .clo fn _ _ _ _ h1.len h2.len h1.rv h2.rv
  case h_21 x ho =>
    have hx := hev x (by simp [ho, Op.operands])
    have hx' := hx
    generalize hvx : a.eval x = vx at hx
    split at h
    · rename_i i j hav
      rw [hav] at hx
      simp at h; subst h
      have hh := hx
      cases hx
      exact pureCase _ _ rfl (by simp [execOp, ho, hvx]) hh
    · rename_i cs j hav
      rw [hav] at hx
      simp at h; subst h
      have hh := hx
      cases hx
      exact pureCase _ _ rfl (by simp [execOp, ho, hvx]) hh
    · rename_i i j k l hav
      rw [hav] at hx
      simp at h; subst h
      have hh := hx
      cases hx
      exact pureCase _ _ rfl (by simp [execOp, ho, hvx]) hh
    · rename_i g as bs hav
      rw [hav] at hx
      simp at h; subst h
      have hh := hx
      cases hx
      exact pureCase _ _ rfl (by simp [execOp, ho, hvx]) hh
    · simp at h
  case h_22 c ho =>
    have hm : memOp o.op = true := by simp [ho, memOp]
    have hargs : ∀ x ∈ c.args.toList, x ∈ o.op.operands.toList := by
      intro x hx
      simp only [ho, Op.operands, Call.operands, Array.toList_append, List.mem_append]
      exact .inr hx
    have hrv := rvL_map (w := w) (U := U) (ρ := ρ) (ev := ev) (g := a.eval) c.args.toList (fun x hx => hev x (hargs x hx))
    unfold evCall at h
    split at h
    · rename_i fo hcal
      have hfo : fo ∈ o.op.operands.toList := by simp [ho, Op.operands, Call.operands, hcal]
      have hf := hev fo hfo
      generalize hvf : a.eval fo = vf at hf
      split at h
      · rename_i k first caps hcl0
        split at h
        · rename_i F hF
          have hFok := hE.fs k F hF
          rw [hcl0] at hf
          cases hf with
          | clo _ _ _ vfi vca h1 h2 h3 h4 =>
          have hall : RvL w U ρ (first ++ c.args.toList.map ev ++ caps) (vfi ++ c.args.toList.map a.eval ++ vca) := (RvL.append ⟨h1, h3⟩ hrv).append ⟨h2, h4⟩
          obtain ⟨hcalls, hwr⟩ := hFok.calls w U ρ hp n _ _ f fp h hall hub hgl hfp (fun id hid => by
            obtain ⟨cc, hcc, hid⟩ := idsL_of hid
            simp only [List.mem_append, List.mem_map] at hcc
            rcases hcc with (hcc | ⟨x, hx, rfl⟩) | hcc
            · exact hin hm fo hfo id (by rw [hcl0]; simp only [AV.ids, List.mem_append]; exact .inl (idsL_mem hcc hid))
            · exact hin hm x (hargs x hx) id hid
            · exact hin hm fo hfo id (by rw [hcl0]; simp only [AV.ids, List.mem_append]; exact .inr (idsL_mem hcc hid))) (hcl hm) hn
          refine ⟨fun K Q hK => ?_, hwr⟩
          obtain ⟨fn, hfn, hname, hbody⟩ := hFok.fn
          have hrun : (execOp a.eval o).run E.P w = .ok (.enter k (vfi ++ c.args.toList.map a.eval ++ vca).toArray) w := by
            simp only [execOp, ho, resolve, hcal, hvf, Deferred.ofValue, Sem.run_bind, Sem.run_pure, Result.andThen_ok, invoke, callFunc, run_program, hfn, hname, hbody, Bool.false_eq_true, if_false]
            congr 2
            apply Array.ext'
            simp
          rw [Oper.wp, hrun]
          refine hcalls.mono fun e w' ⟨v, U', ρ', he, hef⟩ => ?_
          subst he
          exact hK v w' U' ρ' hef
        · simp at h
      · simp at h
    · rename_i hcal
      split at h
      · rename_i x t hax hat
        have hc : c.args.toList.length = 1 := by have := congrArg List.length hax; simpa using this
        obtain ⟨xo, hxo⟩ : ∃ xo, c.args.toList = [xo] := List.length_eq_one_iff.1 hc
        rw [hxo] at hax
        simp at hax
        subst hax
        obtain ⟨r, v, rfl, hrun, hr⟩ := evLen_ok (P := E.P) (w := w) (U := U) (ρ := ρ) (ty := o.type) h (hev xo (hargs xo (by simp [hxo]))) (fun id hid => hfp.ob id (hin hm xo (hargs xo (by simp [hxo])) id hid))
        refine pureCase r v rfl ?_ hr
        have e1 : c.args = #[xo] := by apply Array.ext'; simpa using hxo
        have e2 : c.argTypes = #[t] := by apply Array.ext'; simpa using hat
        simp [execOp, ho, resolve, hcal, invoke, builtin, e1, e2, hrun]
      · simp at h
    · rename_i hcal
      split at h
      · rename_i b x t t' hax hat
        split at h
        · rename_i elem el' hu hu'
          have hc : c.args.toList.length = 2 := by have := congrArg List.length hax; simpa using this
          obtain ⟨bo, xo, hbx⟩ : ∃ bo xo, c.args.toList = [bo, xo] := by
            match hl : c.args.toList, hc with
            | [p, q], _ => exact ⟨p, q, rfl⟩
          rw [hbx] at hax
          simp at hax
          obtain ⟨rfl, rfl⟩ := hax
          have hnn : ρ n = none := by
            have h1 : f.nw.length = 1 := by
              clear hn
              unfold evAppend at h
              repeat' split at h
              all_goals first
                | (simp at h; done)
                | (simp at h; obtain ⟨_, rfl⟩ := h; rfl)
            simpa using hn 0 (by omega)
          obtain ⟨v, w', U', ρ', hrun, hef, hwr⟩ := evAppend_ok hE.toEnvOk (w := w) (U := U) (ρ := ρ) (t := t) (t' := t') (ty := o.type) h hu hu' (hev bo (hargs bo (by simp [hbx]))) (hev xo (hargs xo (by simp [hbx]))) hub hfp
            (fun id hid => hin hm bo (hargs bo (by simp [hbx])) id hid) (fun id hid => hin hm xo (hargs xo (by simp [hbx])) id hid) hnn
          refine ⟨fun K Q hK => wp_value ?_ (hK _ _ _ _ hef), hwr⟩
          have e1 : c.args = #[bo, xo] := by apply Array.ext'; simpa using hbx
          have e2 : c.argTypes = #[t, t'] := by apply Array.ext'; simpa using hat
          simp [execOp, ho, resolve, hcal, invoke, builtin, e1, e2, hrun]
        · simp at h
      · simp at h
    · simp at h
  case h_23 t ho =>
    simp at h; subst h
    refine ⟨fun K Q hK => wp_value (v := .map (some w.heap.size)) (w' := w.alloc (.map #[] 0)) ?_ (hK _ _ _ _ (Ef.mkMap hub (by simpa using hn 0 (by simp)))), by simp⟩
    simp [execOp, ho, Instr.makeMap, newObj]
    rfl
  case h_24 t m k x ho =>
    obtain ⟨w', hrun, hef, hwr⟩ := evInsert_ok (n := n) h (hev m (by simp [ho, Op.operands])) (hev k (by simp [ho, Op.operands])) (hev x (by simp [ho, Op.operands])) hub hfp (fun id hid => hin (by simp [ho, memOp]) m (by simp [ho, Op.operands]) id hid)
    exact ⟨fun K Q hK => wp_skip' (by simp [execOp, ho, hrun]) (hK _ _ _ _ hef), hwr⟩
  case h_25 t m k x ho =>
    obtain ⟨w', hrun, hef, hwr⟩ := evInsert_ok (n := n) h (hev m (by simp [ho, Op.operands])) (hev k (by simp [ho, Op.operands])) (hev x (by simp [ho, Op.operands])) hub hfp (fun id hid => hin (by simp [ho, memOp]) m (by simp [ho, Op.operands]) id hid)
    exact ⟨fun K Q hK => wp_skip' (by simp [execOp, ho, hrun]) (hK _ _ _ _ hef), hwr⟩
  case h_26 t x i ho =>
    obtain ⟨r, v, rfl, hrun, hr⟩ := evLookup_ok h (hev x (by simp [ho, Op.operands])) (hev i (by simp [ho, Op.operands])) (fun id hid => hfp.ob id (hin (by simp [ho, memOp]) x (by simp [ho, Op.operands]) id hid))
    exact pureCase r v rfl (by simp [execOp, ho, hrun]) hr
  case h_27 => simp at h

end
end Cad

namespace Cad
open Go

/-- What was there when a call began: the world, what was not its own, and the blocks that were handed to it. -/
structure Ctx where
  w0 : World
  U0 : Nat → Prop
  B0 : Nat → Prop
  ρ0 : Nat → Option Value

/-- The world inside a call. -/
structure Wd (gl : Nat → AV) (C : Ctx) (w : World) (U : Nat → Prop) : Prop where
  ext : Ext C.w0 w
  same : ∀ b, b < C.w0.heap.size → ¬ C.B0 b → w.heap[b]? = C.w0.heap[b]?
  ub : ∀ b, U b → b < w.heap.size
  u1 : ∀ b, b < C.w0.heap.size → U b → C.U0 b
  u2 : ∀ b, b < C.w0.heap.size → C.U0 b → ¬ C.B0 b → U b
  gl : GlOk gl w U

/-- Own objects inside a call. -/
structure HpOk (C : Ctx) (w : World) (U : Nat → Prop) (ρ : Nat → Option Value) (hp : Nat → AO) : Prop where
  ob : ∀ id, objOk w U ρ id (hp id)
  inj : ∀ id1 id2 b, ownsB ρ id1 (hp id1) b → ownsB ρ id2 (hp id2) b → id1 = id2
  blk : ∀ id b, ownsB ρ id (hp id) b → C.B0 b ∨ C.w0.heap.size ≤ b

section
variable {gl : Nat → AV} {C : Ctx} {w : World} {U : Nat → Prop} {ρ : Nat → Option Value}

/-- Behind an operation's effect. -/
theorem apply_ef {n : Nat} {hpl hp hp' : Nat → AO} {f : Eff} {v : Value} {w' : World} {U' : Nat → Prop} {ρ' : Nat → Option Value} (hW : Wd gl C w U) (hH : HpOk C w U ρ hp) (hef : Ef n hpl f w U ρ v w' U' ρ')
    (hloc : ∀ id o, (id, o) ∈ f.wr → hpl id = hp id)
    (h1 : ∀ id, (∃ o, (id, o) ∈ f.wr) → ∃ o, (id, o) ∈ f.wr ∧ hp' id = o) (h2 : ∀ (j : Nat) o, f.nw[j]? = some o → hp' (n + j) = o)
    (h3 : ∀ id, (¬ ∃ o, (id, o) ∈ f.wr) → (id < n ∨ n + f.nw.length ≤ id) → hp' id = hp id) :
    Wd gl C w' U' ∧ HpOk C w' U' ρ' hp' ∧ ∀ {c : AV} {x : Value}, Rv w U ρ c x → Rv w' U' ρ' c x := by
  have hownU : ∀ id o b, (id, o) ∈ f.wr → ownsB ρ id (hpl id) b → U b ∧ b < w.heap.size := by
    intro id o b hid ho
    rw [hloc id o hid] at ho
    exact (hH.ob id).inU ho
  have hk : ∀ b, b < w.heap.size → ¬ U b → w'.heap[b]? = w.heap[b]? := fun b hb hU => hef.same b hb (fun id o hid ho => hU (hownU id o b hid ho).1)
  have mono : ∀ {c : AV} {x : Value}, Rv w U ρ c x → Rv w' U' ρ' c x := fun h => h.mono hef.ext.sz hk hef.u1 hef.rhon
  -- which kind an object is
  have kind : ∀ id, (∃ o, (id, o) ∈ f.wr ∧ hp' id = o) ∨ (n ≤ id ∧ ∃ o, f.nw[id - n]? = some o ∧ hp' id = o) ∨ ((¬ ∃ o, (id, o) ∈ f.wr) ∧ (id < n ∨ n + f.nw.length ≤ id) ∧ hp' id = hp id) := by
    intro id
    by_cases hw : ∃ o, (id, o) ∈ f.wr
    · exact .inl (h1 id hw)
    · by_cases hn : n ≤ id ∧ id < n + f.nw.length
      · refine .inr (.inl ⟨hn.1, f.nw[id - n]'(by omega), List.getElem?_eq_getElem (by omega), ?_⟩)
        have := h2 (id - n) _ (List.getElem?_eq_getElem (by omega))
        rwa [show n + (id - n) = id by omega] at this
      · exact .inr (.inr ⟨hw, by omega, h3 id hw (by omega)⟩)
  -- an untouched object keeps its block
  have other : ∀ id, (¬ ∃ o, (id, o) ∈ f.wr) → ∀ b, ownsB ρ id (hp id) b → b < w.heap.size ∧ ∀ id' o', (id', o') ∈ f.wr → ¬ ownsB ρ id' (hpl id') b := by
    intro id hw b ho
    refine ⟨((hH.ob id).inU ho).2, fun id' o' hid' ho' => ?_⟩
    rw [hloc id' o' hid'] at ho'
    have := hH.inj id id' b ho ho'
    subst this
    exact hw ⟨o', hid'⟩
  have ownsBack : ∀ id, (id < n ∨ n + f.nw.length ≤ id) → ∀ o b, ownsB ρ' id o b → ownsB ρ id o b := by
    rintro id hid o b ⟨h, v, hv, hb⟩
    rw [hef.rho id hid] at hv
    exact ⟨h, v, hv, hb⟩
  have ownKnown : ∀ id b, ((∃ o, (id, o) ∈ f.wr ∧ hp' id = o) ∨ (n ≤ id ∧ ∃ o, f.nw[id - n]? = some o ∧ hp' id = o)) → ownsB ρ' id (hp' id) b →
      w.heap.size ≤ b ∨ ∃ id' o', (id', o') ∈ f.wr ∧ ownsB ρ id' (hp id') b := by
    intro id b hid ho
    have hin : ((id, hp' id) ∈ f.wr ∨ (n ≤ id ∧ f.nw[id - n]? = some (hp' id))) := by
      rcases hid with ⟨o, h, rfl⟩ | ⟨h, o, h', rfl⟩
      · exact .inl h
      · exact .inr ⟨h, h'⟩
    rcases hef.own id _ b hin ho with h | ⟨id', o', hid', ho'⟩
    · exact .inl h
    · exact .inr ⟨id', o', hid', by rw [← hloc id' o' hid']; exact ho'⟩
  refine ⟨⟨hW.ext.trans hef.ext, ?_, hef.ub, ?_, ?_, ?_⟩, ⟨?_, ?_, ?_⟩, mono⟩
  · intro b hb hB
    rw [hef.same b (Nat.lt_of_lt_of_le hb hW.ext.sz) (fun id o hid ho => ?_)]
    · exact hW.same b hb hB
    · rw [hloc id o hid] at ho
      rcases hH.blk id b ho with h | h
      · exact hB h
      · omega
  · intro b hb hU
    exact hW.u1 b hb (hef.u1 b (Nat.lt_of_lt_of_le hb hW.ext.sz) hU)
  · intro b hb hU hB
    refine hef.u2 b (Nat.lt_of_lt_of_le hb hW.ext.sz) (hW.u2 b hb hU hB) (fun id o hid ho => ?_)
    rw [hloc id o hid] at ho
    rcases hH.blk id b ho with h | h
    · exact hB h
    · omega
  · intro g
    exact (hW.gl g).mono hef.ext.sz hk hef.u1 (fun _ _ h => by cases h)
  · intro id
    rcases kind id with ⟨o, h, e⟩ | ⟨h, o, h', e⟩ | ⟨hw, hid, e⟩
    · rw [e]; exact hef.wr id o h
    · rw [e]
      have := hef.nw (id - n) o h'
      rwa [show n + (id - n) = id by omega] at this
    · rw [e]
      refine (hH.ob id).mono hef.ext.sz hk hef.u1 hef.rhon (fun b ho => ?_)
      obtain ⟨hb, hno⟩ := other id hw b ho
      exact ⟨hef.same b hb hno, hef.u2 b hb ((hH.ob id).inU ho).1 hno⟩
  · intro id1 id2 b ho1 ho2
    have k1 := kind id1
    have k2 := kind id2
    have cross : ∀ id1 id2, ((∃ o, (id1, o) ∈ f.wr ∧ hp' id1 = o) ∨ (n ≤ id1 ∧ ∃ o, f.nw[id1 - n]? = some o ∧ hp' id1 = o)) →
        ((¬ ∃ o, (id2, o) ∈ f.wr) ∧ (id2 < n ∨ n + f.nw.length ≤ id2) ∧ hp' id2 = hp id2) → ownsB ρ' id1 (hp' id1) b → ownsB ρ' id2 (hp' id2) b → False := by
      intro id1 id2 k1 ⟨hw, hid, e⟩ ho1 ho2
      rw [e] at ho2
      have ho2' := ownsBack id2 hid _ b ho2
      obtain ⟨hb, hno⟩ := other id2 hw b ho2'
      rcases ownKnown id1 b k1 ho1 with h | ⟨id', o', hid', ho'⟩
      · omega
      · exact hno id' o' hid' (by rw [hloc id' o' hid']; exact ho')
    rcases k1 with k1 | k1 | k1 <;> rcases k2 with k2 | k2 | k2
    · obtain ⟨o1, h1', e1⟩ := k1; obtain ⟨o2, h2', e2⟩ := k2
      rw [e1] at ho1; rw [e2] at ho2
      exact hef.inj id1 o1 id2 o2 b (.inl h1') (.inl h2') ho1 ho2
    · obtain ⟨o1, h1', e1⟩ := k1; obtain ⟨hn2, o2, h2', e2⟩ := k2
      rw [e1] at ho1; rw [e2] at ho2
      exact hef.inj id1 o1 id2 o2 b (.inl h1') (.inr ⟨hn2, h2'⟩) ho1 ho2
    · exact (cross id1 id2 (.inl k1) k2 ho1 ho2).elim
    · obtain ⟨hn1, o1, h1', e1⟩ := k1; obtain ⟨o2, h2', e2⟩ := k2
      rw [e1] at ho1; rw [e2] at ho2
      exact hef.inj id1 o1 id2 o2 b (.inr ⟨hn1, h1'⟩) (.inl h2') ho1 ho2
    · obtain ⟨hn1, o1, h1', e1⟩ := k1; obtain ⟨hn2, o2, h2', e2⟩ := k2
      rw [e1] at ho1; rw [e2] at ho2
      exact hef.inj id1 o1 id2 o2 b (.inr ⟨hn1, h1'⟩) (.inr ⟨hn2, h2'⟩) ho1 ho2
    · exact (cross id1 id2 (.inr k1) k2 ho1 ho2).elim
    · exact (cross id2 id1 (.inl k2) k1 ho2 ho1).elim
    · exact (cross id2 id1 (.inr k2) k1 ho2 ho1).elim
    · obtain ⟨_, hid1, e1⟩ := k1; obtain ⟨_, hid2, e2⟩ := k2
      rw [e1] at ho1; rw [e2] at ho2
      exact hH.inj id1 id2 b (ownsBack id1 hid1 _ b ho1) (ownsBack id2 hid2 _ b ho2)
  · intro id b ho
    rcases kind id with k | k | ⟨_, hid, e⟩
    · rcases ownKnown id b (.inl k) ho with h | ⟨id', o', hid', ho'⟩
      · exact .inr (Nat.le_trans hW.ext.sz h)
      · exact hH.blk id' b ho'
    · rcases ownKnown id b (.inr k) ho with h | ⟨id', o', hid', ho'⟩
      · exact .inr (Nat.le_trans hW.ext.sz h)
      · exact hH.blk id' b ho'
    · rw [e] at ho
      exact hH.blk id b (ownsBack id hid _ b ho)


/-- A state inside a region, of the model's frame and world. -/
structure CnR (C : Ctx) (st : RS) (a : Act) (w : World) (U : Nat → Prop) (ρ : Nat → Option Value) : Prop where
  tm : RvL w U ρ st.tmps a.tmps.toList
  hp : HpOk C w U ρ st.hp
  new : ∀ id, st.heap.length ≤ id → ρ id = none
  kn : ∀ d b, st.known.lookup d = some b → a.tmps[d]? = some (.bool b)
  df : a.defers = []
  r0 : ∀ id v, C.ρ0 id = some v → ρ id = some v

theorem evo_ok {E : Env} {tmps : List AV} {known : List (Nat × Bool)} {a : Act} (htm : RvL w U ρ tmps a.tmps.toList) (hkn : ∀ d b, known.lookup d = some b → a.tmps[d]? = some (.bool b)) (hgl : GlOk E.gl w U) (x : Operand) :
    Rv w U ρ (evo E tmps known x) (a.eval x) := by
  cases x with
  | tmp t =>
    simp only [evo, Act.eval]
    cases hk : known.lookup t with
    | some b =>
      have := hkn t b hk
      simp only [Array.getD_eq_getD_getElem?, this, Option.getD_some]
      exact .kb b
    | none =>
      by_cases ht : t < tmps.length
      · have ht' : t < a.tmps.toList.length := by rw [← htm.len]; exact ht
        have h1 : a.tmps.getD t undef = a.tmps.toList[t] := by
          simp only [Array.length_toList] at ht'
          simp [Array.getD, ht']
        rw [h1]
        exact htm.rv t _ _ (by rw [List.getD_eq_getElem?_getD, List.getElem?_eq_getElem ht]; rfl) (List.getElem?_eq_getElem ht')
      · rw [List.getD_eq_getElem?_getD, List.getElem?_eq_none (Nat.le_of_not_lt ht)]
        exact .any _
  | const v => exact absV_ok v
  | global g => exact (hgl g).mono (Nat.le_refl _) (fun _ _ _ => rfl) (fun _ _ h => h) (fun _ _ h => by cases h)
  | func f => simp only [evo, Act.eval]; exact .clo (.func f) [] [] [] [] rfl rfl (by simp) (by simp)

theorem wrAll_length : ∀ (wr : List (Nat × AO)) (h : List AO), (wrAll h wr).length = h.length
  | [], _ => rfl
  | (i, o) :: r, h => by simp [wrAll, wrAll_length r]

theorem wrAll_get : ∀ (wr : List (Nat × AO)) (h : List AO) (id : Nat), (¬ ∃ o, (id, o) ∈ wr) → (wrAll h wr).getD id .dead = h.getD id .dead
  | [], _, _, _ => rfl
  | (i, o) :: r, h, id, hn => by
    rw [wrAll, wrAll_get r _ id (fun ⟨o', ho'⟩ => hn ⟨o', by simp [ho']⟩)]
    have : i ≠ id := fun e => hn ⟨o, by simp [e]⟩
    simp [List.getD_eq_getElem?_getD, List.getElem?_set_ne this]

theorem wrAll_set : ∀ (wr : List (Nat × AO)) (h : List AO) (id : Nat), (∀ p ∈ wr, p.1 < h.length) → (∃ o, (id, o) ∈ wr) → ∃ o, (id, o) ∈ wr ∧ (wrAll h wr).getD id .dead = o
  | [], _, _, _, ⟨_, h⟩ => by simp at h
  | (i, o) :: r, h, id, hl, hex => by
    by_cases hr : ∃ o, (id, o) ∈ r
    · obtain ⟨o', h1, h2⟩ := wrAll_set r (h.set i o) id (fun p hp => by rw [List.length_set]; exact hl p (by simp [hp])) hr
      exact ⟨o', by simp [h1], h2⟩
    · obtain ⟨o', ho'⟩ := hex
      simp only [List.mem_cons, Prod.mk.injEq] at ho'
      rcases ho' with ⟨rfl, rfl⟩ | ho'
      · refine ⟨o', by simp, ?_⟩
        rw [wrAll, wrAll_get r _ _ hr]
        have : id < h.length := hl (id, o') (by simp)
        simp [List.getD_eq_getElem?_getD, List.getElem?_set_self this]
      · exact (hr ⟨o', ho'⟩).elim

theorem putT_rv {tmps : List AV} {a : Act} {d : Option Tmp} {c : AV} {v : Value} (h : RvL w U ρ tmps a.tmps.toList) (hv : Rv w U ρ c v) : RvL w U ρ (putT tmps d c) (a.put d v).tmps.toList := by
  cases d with
  | none => exact h
  | some d =>
    simp only [putT, Act.put]
    refine ⟨by simp [h.len], fun j c' v' hc hv' => ?_⟩
    simp only [Array.toList_setIfInBounds] at hv'
    by_cases hj : d = j
    · subst hj
      rw [List.getElem?_set] at hc hv'
      simp only [if_true] at hc hv'
      split at hc
      · rename_i hlt
        rw [if_pos (by rw [← h.len]; exact hlt)] at hv'
        cases hc; cases hv'; exact hv
      · cases hc
    · rw [List.getElem?_set_ne hj] at hc hv'
      exact h.rv j c' v' hc hv'

theorem forget_ok {known : List (Nat × Bool)} {a : Act} {d : Option Tmp} {v : Value} (h : ∀ d b, known.lookup d = some b → a.tmps[d]? = some (.bool b)) :
    ∀ d' b, (forget known d).lookup d' = some b → (a.put d v).tmps[d']? = some (.bool b) := by
  intro d' b hl
  cases d with
  | none => exact h d' b hl
  | some d =>
    simp only [forget] at hl
    have key : ∀ (k : List (Nat × Bool)), (k.filter fun p => p.1 != d).lookup d' = some b → d' ≠ d ∧ k.lookup d' = some b := by
      intro k
      induction k with
      | nil => simp
      | cons p k ih =>
        intro hk
        rw [List.filter_cons] at hk
        split at hk
        · rename_i hp
          rw [List.lookup_cons] at hk ⊢
          split at hk
          · rename_i he
            cases hk
            simp at hp he
            exact ⟨by rw [he]; exact hp, by simp⟩
          · rename_i he
            obtain ⟨h1, h2⟩ := ih hk
            exact ⟨h1, h2⟩
        · rename_i hp
          obtain ⟨h1, h2⟩ := ih hk
          refine ⟨h1, ?_⟩
          rw [List.lookup_cons]
          have : (d' == p.1) = false := by
            simp at hp
            simp [hp, h1]
          rw [this]; exact h2
    obtain ⟨hne, hk⟩ := key known hl
    simp only [Act.put]
    rw [Array.getElem?_setIfInBounds_ne (fun e => hne e.symm)]
    exact h d' b hk

theorem fpOkB_ok {hp : Nat → AO} {ev : Operand → AV} {o : Oper} (h : fpOkB hp ev o = true) :
    (memOp o.op = true → ∀ x ∈ o.op.operands.toList, ∀ id ∈ (ev x).ids, id ∈ fpOp hp ev o) ∧ (memOp o.op = true → ∀ id ∈ fpOp hp ev o, ∀ j ∈ (hp id).ids, j ∈ fpOp hp ev o) := by
  unfold fpOkB at h
  constructor
  · intro hm x hx id hid
    simp only [hm, Bool.not_true, Bool.false_or, Bool.and_eq_true, List.all_eq_true, List.contains_iff_mem] at h
    exact h.1 id (idsL_mem (List.mem_map_of_mem hx) hid)
  · intro hm id hid j hj
    simp only [hm, Bool.not_true, Bool.false_or, Bool.and_eq_true, List.all_eq_true, List.contains_iff_mem] at h
    exact h.2 id hid j hj

/-- An operation that is done. -/
theorem goOp_ok {E : Env} (hE : EnvAll E) {st st' : RS} {o : Oper} {a : Act} (h : (goOp E o st).val = some st') (hc : CnR C st a w U ρ) (hW : Wd E.gl C w U)
    (K : Act → World → Prop) (Q : Exit → Act → World → Prop) (hK : ∀ a' w' U' ρ', CnR C st' a' w' U' ρ' → Wd E.gl C w' U' → K a' w') : o.wp E.P a w K Q := by
  unfold goOp at h
  split at h
  · rename_i hfp
    simp only [Tr.val_bind, Option.bind_eq_some_iff] at h
    obtain ⟨f, hf, h⟩ := h
    split at h
    · rename_i hwl
      simp at h; subst h
      obtain ⟨hin, hcl⟩ := fpOkB_ok hfp
      have hn : ∀ j, j < f.nw.length → ρ (st.heap.length + j) = none := fun j _ => hc.new _ (by omega)
      obtain ⟨hwp, hwr⟩ := evalOp_ok hE (w := w) (U := U) (ρ := ρ) (a := a) (fp := fpOp st.hp (evo E st.tmps st.known) o) hf (fun x _ => evo_ok hc.tm hc.kn hW.gl x) hW.ub hW.gl
        ⟨fun id _ => hc.hp.ob id, fun id1 _ id2 _ b => hc.hp.inj id1 id2 b⟩ hin hcl hn
      refine hwp K Q (fun v w' U' ρ' hef => ?_)
      simp only [List.all_eq_true, Bool.and_eq_true, decide_eq_true_eq] at hwl
      replace hwl : ∀ p ∈ f.wr, p.1 < st.heap.length := fun p hp => (hwl p hp).1
      have hset := wrAll_set f.wr st.heap
      obtain ⟨hW', hH', mono⟩ := apply_ef (hp' := fun id => (wrAll st.heap f.wr ++ f.nw).getD id .dead) hW hc.hp hef (fun _ _ _ => rfl)
        (fun id hex => by
          obtain ⟨o', h1, h2⟩ := wrAll_set f.wr st.heap id hwl hex
          refine ⟨o', h1, ?_⟩
          have : id < st.heap.length := hwl _ h1
          rw [List.getD_eq_getElem?_getD, List.getElem?_append_left (by rw [wrAll_length]; exact this), ← List.getD_eq_getElem?_getD]
          exact h2)
        (fun j o' hj => by
          rw [List.getD_eq_getElem?_getD, List.getElem?_append_right (by rw [wrAll_length]; omega), wrAll_length, show st.heap.length + j - st.heap.length = j by omega, hj]
          rfl)
        (fun id hno hid => by
          rcases hid with hid | hid
          · rw [List.getD_eq_getElem?_getD, List.getElem?_append_left (by rw [wrAll_length]; exact hid), ← List.getD_eq_getElem?_getD]
            exact wrAll_get f.wr st.heap id hno
          · simp only [RS.hp]
            rw [List.getD_eq_getElem?_getD, List.getD_eq_getElem?_getD, List.getElem?_eq_none (by simp [wrAll_length]; omega), List.getElem?_eq_none (by omega)])
      refine hK _ _ U' ρ' ⟨putT_rv ⟨hc.tm.len, fun j c x hx hv => mono (hc.tm.rv j c x hx hv)⟩ hef.val, hH', ?_, forget_ok hc.kn, ?_, fun id v h => hef.rhon id v (hc.r0 id v h)⟩ hW'
      · intro id hid
        simp only [List.length_append, wrAll_length] at hid
        rw [hef.rho id (.inr hid)]
        exact hc.new id (by omega)
      · cases hd : o.dst <;> simp [Act.put, hc.df]
    · simp at h
  · simp at h

theorem skipOp_ok {st : RS} {o : Oper} {a : Act} (hc : CnR C st a w U ρ) : CnR C (skipOp o st) (a.put o.dst undef) w U ρ := by
  refine ⟨putT_rv hc.tm (.tup [] [] rfl (by simp)), hc.hp, hc.new, forget_ok hc.kn, ?_, hc.r0⟩
  cases hd : o.dst <;> simp [Act.put, hc.df]


/-- What a guard reads. -/
theorem guard_ok {E : Env} {ops : List Oper} {st : RS} {a : Act} (hc : CnR C st a w U ρ) (hgl : GlOk E.gl w U) {j : Nat} {d : Nat} (hd : (ops[j]?).bind (·.dst) = some d) :
    (∀ b, evo E st.tmps st.known (.tmp d) = .kb b → yielded ops.toArray a.tmps j = some b ∧ a.tmps[d]? = some (.bool b)) ∧
    (∀ b, evo E st.tmps st.known (.tmp d) = .bool b → yielded ops.toArray a.tmps j = some b ∧ a.tmps[d]? = some (.bool b)) ∧
    (∀ vs, evo E st.tmps st.known (.tmp d) = .tup vs → yielded ops.toArray a.tmps j = none) := by
  have hev := evo_ok (E := E) hc.tm hc.kn hgl (.tmp d)
  have hd' : (ops.toArray[j]?).bind (·.dst) = some d := by simpa using hd
  have hbool : ∀ b, a.eval (.tmp d) = .bool b → yielded ops.toArray a.tmps j = some b ∧ a.tmps[d]? = some (.bool b) := by
    intro b hb
    simp only [Act.eval, Array.getD_eq_getD_getElem?] at hb
    have : a.tmps[d]? = some (.bool b) := by
      cases ht : a.tmps[d]? with
      | none => rw [ht] at hb; simp [undef] at hb
      | some v => rw [ht] at hb; simp at hb; rw [hb]
    exact ⟨by unfold yielded; rw [hd']; simp [this], this⟩
  refine ⟨fun b hb => ?_, fun b hb => ?_, fun vs hvs => ?_⟩
  · rw [hb] at hev
    generalize hx : a.eval (.tmp d) = x at hev
    cases hev
    exact hbool b hx
  · rw [hb] at hev
    generalize hx : a.eval (.tmp d) = x at hev
    cases hev
    exact hbool b hx
  · rw [hvs] at hev
    generalize hx : a.eval (.tmp d) = x at hev
    cases hev with
    | tup _ xs _ _ =>
    simp only [Act.eval, Array.getD_eq_getD_getElem?] at hx
    cases ht : a.tmps[d]? with
    | none => unfold yielded; rw [hd']; simp [ht]
    | some v => rw [ht] at hx; simp at hx; subst hx; unfold yielded; rw [hd']; simp [ht]

theorem known_cons {st : RS} {a : Act} {d : Nat} {b : Bool} (hc : CnR C st a w U ρ) (hb : a.tmps[d]? = some (.bool b)) : CnR C { st with known := (d, b) :: st.known } a w U ρ := by
  refine ⟨hc.tm, hc.hp, hc.new, fun d' b' h => ?_, hc.df, hc.r0⟩
  rw [List.lookup_cons] at h
  split at h
  · rename_i he
    cases h
    simp at he; rw [he]; exact hb
  · exact hc.kn d' b' h

theorem stepOp_ok {E : Env} (hE : EnvAll E) {ops : List Oper} {st st' : RS} {o : Oper} {a : Act} (h : (stepOp E ops st o).val = some st') (hc : CnR C st a w U ρ) (hW : Wd E.gl C w U)
    (K : Act → World → Prop) (Q : Exit → Act → World → Prop) (hK : ∀ a' w' U' ρ', CnR C st' a' w' U' ρ' → Wd E.gl C w' U' → K a' w') :
    if Region.wanted o (yielded ops.toArray a.tmps) then o.wp E.P a w K Q ∨ (o.asks E.P a w ∧ LetsOut Q) else K (a.put o.dst undef) w := by
  unfold stepOp at h
  split at h
  · rename_i hg
    simp only [Region.wanted, hg, if_true]
    exact .inl (goOp_ok hE h hc hW K Q hK)
  · rename_i j want hg
    split at h
    · rename_i hd
      simp at h; subst h
      have hy : yielded ops.toArray a.tmps j = none := by
        have hd' : (ops.toArray[j]?).bind (·.dst) = none := by simpa using hd
        unfold yielded; rw [hd']; rfl
      simp only [Region.wanted, hg, hy]
      rw [if_neg (by simp)]
      exact hK _ _ U ρ (skipOp_ok hc) hW
    · rename_i d hd
      obtain ⟨hkb, hbb, htt⟩ := guard_ok (E := E) hc hW.gl hd
      split at h
      · rename_i b hb
        obtain ⟨hy, _⟩ := hkb b hb
        simp only [Region.wanted, hg, hy]
        split at h
        · rename_i hbw
          simp at hbw; subst hbw
          rw [if_pos (by simp)]
          exact .inl (goOp_ok hE h hc hW K Q hK)
        · rename_i hbw
          simp at h; subst h
          rw [if_neg (by simpa using hbw)]
          exact hK _ _ U ρ (skipOp_ok hc) hW
      · rename_i vs hvs
        simp at h; subst h
        simp only [Region.wanted, hg, htt vs hvs]
        rw [if_neg (by simp)]
        exact hK _ _ U ρ (skipOp_ok hc) hW
      · rename_i b hb
        obtain ⟨hy, hslot⟩ := hbb b hb
        simp only [Region.wanted, hg, hy]
        cases b
        · simp only [Tr.val, Bool.false_eq_true, if_false] at h
          cases want
          · simp only [Bool.false_eq_true, if_false] at h
            rw [if_pos (by simp)]
            exact .inl (goOp_ok hE h (known_cons hc hslot) hW K Q hK)
          · simp at h; subst h
            rw [if_neg (by simp)]
            exact hK _ _ U ρ (skipOp_ok (known_cons hc hslot)) hW
        · simp only [Tr.val, if_true] at h
          cases want
          · simp at h; subst h
            rw [if_neg (by simp)]
            exact hK _ _ U ρ (skipOp_ok (known_cons hc hslot)) hW
          · simp only [if_true] at h
            rw [if_pos (by simp)]
            exact .inl (goOp_ok hE h (known_cons hc hslot) hW K Q hK)
      · simp at h

theorem evalOps_ok {E : Env} (hE : EnvAll E) {ops : List Oper} {Q : Exit → Act → World → Prop} {st' : RS} (hQ : ∀ a' w' U' ρ', CnR C st' a' w' U' ρ' → Wd E.gl C w' U' → Q .normal a' w') :
    ∀ (r : List Oper) (k : Nat) (st : RS) (a : Act) (w : World) (U : Nat → Prop) (ρ : Nat → Option Value), r = ops.drop k → (evalOps E ops r st).val = some st' → CnR C st a w U ρ → Wd E.gl C w U →
      wpOps E.P ops.toArray Q (List.range' k r.length) a w
  | [], k, st, a, w, U, ρ, _, h, hc, hW => by
    simp [evalOps] at h; subst h
    exact hQ a w U ρ hc hW
  | o :: r, k, st, a, w, U, ρ, hr, h, hc, hW => by
    simp only [evalOps, Tr.val_bind, Option.bind_eq_some_iff] at h
    obtain ⟨st1, h1, h2⟩ := h
    have hget : ops.toArray[k]? = some o := by
      have : ops[k]? = some o := by
        have := congrArg (·[0]?) hr
        simpa [List.getElem?_drop] using this.symm
      simpa using this
    have hdrop : r = ops.drop (k + 1) := by
      have := congrArg List.tail hr
      simpa using this
    simp only [List.length_cons, List.range'_succ, wpOps, hget]
    exact stepOp_ok hE h1 hc hW _ _ (fun a' w' U' ρ' hc' hW' => evalOps_ok hE hQ r (k + 1) st1 a' w' U' ρ' hdrop h2 hc' hW')

end
end Cad

