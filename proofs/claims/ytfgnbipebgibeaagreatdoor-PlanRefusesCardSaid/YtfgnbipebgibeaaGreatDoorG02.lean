/- What each operation says: stores, slices that are built, appends. What each operation says: stores as the machine does them; slices that are built; appends. What each operation says: append. What each operation says: maps with texts as keys. -/
import Derived.Test.YtfgnbipebgibeaaGreatDoorG01
import Derived.MapKept
namespace Cad
open Go
section
variable {P : Program} {w : World} {U : Nat → Prop} {ρ : Nat → Option Value}

theorem heap_setCell (w : World) (b o : Nat) (v : Value) {arr : Array Value} {T : TypeId} {fz : Nat × Nat} (h : w.heap[b]? = some (.cells arr T fz)) :
    (w.setCell ⟨b, o, none⟩ v).heap[b]? = some (.cells (arr.setIfInBounds o v) T fz) := by
  simp [World.setCell, Array.getElem?_modify, h]

theorem heap_setCell_other (w : World) (b o b' : Nat) (v : Value) (h : b' ≠ b) : (w.setCell ⟨b, o, none⟩ v).heap[b']? = w.heap[b']? := by
  simp only [World.setCell, Array.getElem?_modify]
  rw [if_neg (fun e => h e.symm)]

theorem heap_setCells : ∀ (vs : List Value) (w : World) (b o : Nat) {arr : Array Value} {T : TypeId} {fz : Nat × Nat}, w.heap[b]? = some (.cells arr T fz) →
    (w.setCells b o vs).heap[b]? = some (.cells (setV arr.toList o vs).toArray T fz)
  | [], _, _, _, _, _, _, h => by simpa [World.setCells, setV] using h
  | v :: r, w, b, o, arr, T, fz, h => by
    rw [World.setCells]
    have := heap_setCells r _ b (o + 1) (heap_setCell w b o v h)
    rw [this]
    simp [setV]

theorem heap_setCells_other : ∀ (vs : List Value) (w : World) (b o b' : Nat), b' ≠ b → (w.setCells b o vs).heap[b']? = w.heap[b']?
  | [], _, _, _, _, _ => rfl
  | v :: r, w, b, o, b', h => by
    rw [World.setCells, heap_setCells_other r _ b (o + 1) b' h, heap_setCell_other w b o b' v h]

theorem setCell_size (w : World) (a : Addr) (v : Value) : (w.setCell a v).heap.size = w.heap.size := by simp [World.setCell]

theorem Ext.setCells : ∀ (vs : List Value) (w : World) (b o : Nat), Ext w (w.setCells b o vs)
  | [], w, _, _ => Ext.refl w
  | v :: r, w, b, o => by
    have h1 : Ext w (w.setCell ⟨b, o, none⟩ v) := ⟨by rw [setCell_size]; exact Nat.le_refl _, rfl, rfl, rfl, fun a _ => by rw [World.frozen?_setCell]⟩
    rw [World.setCells]
    exact h1.trans (Ext.setCells r _ b (o + 1))

theorem setCells_size : ∀ (vs : List Value) (w : World) (b o : Nat), (w.setCells b o vs).heap.size = w.heap.size
  | [], _, _, _ => rfl
  | v :: r, w, b, o => by rw [World.setCells, setCells_size r, setCell_size]

theorem setV_get : ∀ (l vs : List Value) (off q : Nat), (setV vs off l)[q]? = if off ≤ q ∧ q < off + l.length ∧ q < vs.length then l[q - off]? else vs[q]?
  | [], vs, off, q => by
    rw [if_neg (by simp; omega)]; rfl
  | v :: l, vs, off, q => by
    rw [setV, setV_get l _ (off + 1) q]
    simp only [List.length_set, List.length_cons]
    by_cases h1 : off = q
    · subst h1
      rw [if_neg (by omega)]
      by_cases h2 : off < vs.length
      · rw [if_pos (by omega), List.getElem?_set_self h2]; simp
      · rw [if_neg (by omega), List.getElem?_set]; simp [h2]
    · by_cases h2 : off + 1 ≤ q ∧ q < off + 1 + l.length ∧ q < vs.length
      · rw [if_pos h2, if_pos (by omega), show q - off = (q - (off + 1)) + 1 by omega]
        simp
      · rw [if_neg h2, if_neg (by omega), List.getElem?_set_ne h1]

theorem run_storeVar_at {t : TypeId} {v : Value} {b o sz : Nat} {arr : Array Value} {T : TypeId} (hsz : tsize P t = some sz) (hv : v.cells.toList.length = sz)
    (hb : w.heap[b]? = some (.cells arr T (0, 0))) (hin : o + sz ≤ arr.size) (h1 : ∀ x ∈ v.cells.toList, x.oneCell' = true) :
    (storeVar t ⟨b, o, none⟩ v).run P w = .ok () (w.setCells b o v.cells.toList) := by
  have hc : ∀ j, j < v.cells.toList.length → (w.cell? ⟨b, o + 0 + j, none⟩).isSome = true := by
    intro j hj
    have : o + j < arr.size := by omega
    simp [World.cell?, hb, Array.getElem?_eq_getElem this]
  have hf : ∀ j, j < v.cells.toList.length → w.frozen? ⟨b, o + 0 + j, none⟩ = false := by
    intro j hj
    simp [World.frozen?, hb]
  have := run_storeCells_cells (P := P) b o v.cells.toList 0 w hc hf h1
  rw [Nat.add_zero] at this
  have hsize : v.cells.size = sz := by simpa using hv
  simp [storeVar, run_tsize hsz, hsize, this]

theorem Ef.store {n id off : Nat} {hp : Nat → AO} {cs vs : List AV} {b : Nat} {vals : Array Value} {T : TypeId} {vv : List Value} (hub : ∀ b, U b → b < w.heap.size) (hid : hp id = .box cs)
    (hρ : ρ id = some (.pointer (some ⟨b, 0, none⟩))) (hU : U b) (hb : w.heap[b]? = some (.cells vals T (0, 0))) (hr : RvL w U ρ cs vals.toList) (h1 : ∀ v ∈ vals.toList, v.oneCell' = true)
    (hv : RvL w U ρ vs vv) (hv1 : ∀ x ∈ vv, x.oneCell' = true) :
    Ef n hp { val := .tup [], wr := [(id, .box (setCells cs off vs))] } w U ρ undef (w.setCells b off vv) U ρ := by
  have hown : ownsB ρ id (hp id) b := ⟨by rw [hid]; rfl, _, hρ, rfl⟩
  have hk : ∀ b', b' < w.heap.size → ¬ U b' → (w.setCells b off vv).heap[b']? = w.heap[b']? := fun b' _ hb' => heap_setCells_other _ _ _ _ _ (fun e => hb' (e ▸ hU))
  have hs : w.heap.size ≤ (w.setCells b off vv).heap.size := by rw [setCells_size]; exact Nat.le_refl _
  refine ⟨Ext.setCells vv w b off, .tup [] [] rfl (by simp), ?_, by simp, fun _ _ => rfl, fun _ _ h => h, ?_, ?_, fun _ _ h => h, fun _ _ h _ => h, ?_, ?_⟩
  · intro id' o' h
    simp at h
    obtain ⟨rfl, rfl⟩ := h
    refine ⟨b, T, (setV vals.toList off vv).toArray, hρ, hU, heap_setCells vv w b off hb, ?_, ?_⟩
    · simpa using (setV_rv vs vv cs vals.toList off hr hv).mono hs hk (fun _ _ h => h) (fun _ _ h => h)
    · simpa using setV_one vv vals.toList off h1 hv1
  · intro b' _ hn
    exact heap_setCells_other _ _ _ _ _ (fun e => hn id _ (by simp; rfl) (e ▸ hown))
  · intro b' h; rw [setCells_size]; exact hub b' h
  · rintro id' o' b' (h | ⟨_, h⟩) ho
    · simp at h
      obtain ⟨rfl, rfl⟩ := h
      refine .inr ⟨id', _, by simp; rfl, ?_⟩
      obtain ⟨_, v, hv', hb'⟩ := ho
      exact ⟨by rw [hid]; rfl, v, hv', hb'⟩
    · simp at h
  · rintro id1 o1 id2 o2 b' (h | ⟨_, h⟩) (h' | ⟨_, h'⟩) _ _
    · simp at h h'; rw [h.1, h'.1]
    all_goals simp at h h'

theorem freeze_ok {U' : Nat → Prop} {id : Nat} {o : AO} (ho : objOk w U ρ id o) (hvf : isVF o = true) (hu : ∀ b, U' b → U b) (hf : ∀ b, ownsB ρ id o b → ¬ U' b) : objOk w U' ρ id (frzO o) := by
  cases o with
  | frz e l =>
    obtain ⟨v, h1, h2⟩ := ho
    exact ⟨v, h1, h2.weak hu⟩
  | vec e l =>
    have ho' := ho
    obtain ⟨a, c, h1, h2, h3⟩ := ho
    have := asSl_ok (w := w) (U := U) (U' := U') (ρ := ρ) (hp := fun _ => .vec e l) (e := e) (c := .vec id) (l := l) (by simp [asSl]) (.vec id _ h1 rfl) hu
      (fun id' h => by simp [vecIds] at h; subst h; exact ho') (fun id' h => by simp [vecIds] at h; subst h; exact hf)
    exact ⟨_, h1, this⟩
  | dead => simp [isVF] at hvf
  | box cs => simp [isVF] at hvf
  | fmap es => simp [isVF] at hvf
  | vmap u es => simp [isVF] at hvf

theorem frzIds_mem {hp : Nat → AO} {ids : List Nat} {id : Nat} {o : AO} (h : (id, o) ∈ frzIds hp ids) : id ∈ ids ∧ o = frzO (hp id) := by
  simp only [frzIds, List.mem_map, Prod.mk.injEq] at h
  obtain ⟨a, ha, rfl, rfl⟩ := h
  exact ⟨ha, rfl⟩

theorem frzIds_of {hp : Nat → AO} {ids : List Nat} {id : Nat} (h : id ∈ ids) : (id, frzO (hp id)) ∈ frzIds hp ids := by
  simp only [frzIds, List.mem_map, Prod.mk.injEq]
  exact ⟨id, h, rfl, rfl⟩

theorem frz_owns {o : AO} (h : isVF o = true) : (frzO o).owns = false := by cases o <;> simp [isVF] at h <;> rfl

theorem explode_vec : ∀ (e : Sh) (y : Sem e) (q : Nat) (cc : AV), (explode e y)[q]? = some cc → vecIds cc = [] := by
  intro e
  induction e with
  | unit => intro y q cc h; simp [explode] at h
  | bool => intro y q cc h; cases q <;> simp [explode] at h; subst h; rfl
  | int k => intro y q cc h; cases q <;> simp [explode] at h; subst h; rfl
  | str => intro y q cc h; cases q <;> simp [explode] at h; subst h; rfl
  | sl e ih => intro y q cc h; cases q <;> simp [explode] at h; subst h; rfl
  | pr a b iha ihb =>
    intro y q cc h
    simp only [explode] at h
    rcases Nat.lt_or_ge q (explode a y.1).length with hl | hl
    · rw [List.getElem?_append_left hl] at h; exact iha _ _ _ h
    · rw [List.getElem?_append_right hl] at h; exact ihb _ _ _ h
  | expr =>
    intro y q cc h
    match q with
    | 0 => simp [explode] at h; subst h; rfl
    | 1 => simp [explode] at h; subst h; rfl
    | 2 => simp [explode] at h; subst h; rfl
    | 3 => simp [explode] at h; subst h; rfl
    | 4 => simp [explode] at h; subst h; rfl
    | 5 => simp [explode] at h; subst h; rfl
    | _ + 6 => simp [explode] at h

theorem setCells_mem : ∀ (vs es : List AV) (off : Nat) (c : AV), c ∈ setCells es off vs → c ∈ es ∨ c ∈ vs
  | [], _, _, _, h => .inl h
  | v :: vs, es, off, c, h => by
    rcases setCells_mem vs _ _ c h with h | h
    · rcases List.mem_or_eq_of_mem_set h with h | h
      · exact .inl h
      · exact .inr (by simp [h])
    · exact .inr (by simp [h])

theorem Ef.storeVec {n id i off : Nat} {hp : Nat → AO} {e : Sh} {l : List (Sem e)} {x : Sem e} {vs : List AV} {b c : Nat} {arr : Array Value} {T : TypeId} {vv : List Value} (hub : ∀ b, U b → b < w.heap.size) (hid : hp id = .vec e l)
    (hρ : ρ id = some (.slice (some ⟨b, 0, none⟩) l.length c)) (hc : 0 < c) (hU : U b) (hb : w.heap[b]? = some (.cells arr T (0, 0))) (hm : l.length ≤ maxStr) (hsz : arr.size = c * e.size) (hle : l.length ≤ c)
    (hr : ∀ i (hi : i < l.length) (j : Nat) (c : AV), (explode e l[i])[j]? = some c → ∃ v, arr[i * e.size + j]? = some v ∧ Rv w U ρ c v)
    (hv : RvL w U ρ vs vv) (hin : off + vs.length ≤ e.size) (hi : i < l.length)
    (himp : implode hp e (setCells (explode e l[i]) off vs) = some (x, []))
    (hvf : ∀ j ∈ vs.flatMap vecIds, isVF (hp j) = true ∧ j ≠ id) (hob : ∀ j ∈ vs.flatMap vecIds, objOk w U ρ j (hp j))
    (hinj : ∀ j ∈ vs.flatMap vecIds, ∀ b, ownsB ρ j (hp j) b → ¬ ownsB ρ id (hp id) b) :
    Ef n hp { val := .tup [], wr := (id, .vec e (l.set i x)) :: frzIds hp (vs.flatMap vecIds) } w U ρ undef (w.setCells b (i * e.size + off) vv)
      (fun b => U b ∧ ¬ ∃ j ∈ vs.flatMap vecIds, ownsB ρ j (hp j) b) ρ := by
  have hown : ownsB ρ id (hp id) b := ⟨by rw [hid]; rfl, _, hρ, by simp [blkOf]; omega⟩
  have hnb : ¬ ∃ j ∈ vs.flatMap vecIds, ownsB ρ j (hp j) b := fun ⟨j, hj, ho⟩ => hinj j hj b ho hown
  generalize hU' : (fun b => U b ∧ ¬ ∃ j ∈ vs.flatMap vecIds, ownsB ρ j (hp j) b) = U'
  have hsub : ∀ b, U' b → U b := fun b h => by rw [← hU'] at h; exact h.1
  have hfz : ∀ j ∈ vs.flatMap vecIds, ∀ b, ownsB ρ j (hp j) b → ¬ U' b := fun j hj b ho h => by rw [← hU'] at h; exact h.2 ⟨j, hj, ho⟩
  have hUb : U' b := by rw [← hU']; exact ⟨hU, hnb⟩
  have hk : ∀ b', b' < w.heap.size → ¬ U' b' → (w.setCells b (i * e.size + off) vv).heap[b']? = w.heap[b']? := fun b' _ hb' => heap_setCells_other _ _ _ _ _ (fun e => hb' (e ▸ hUb))
  have hs : w.heap.size ≤ (w.setCells b (i * e.size + off) vv).heap.size := by rw [setCells_size]; exact Nat.le_refl _
  have hmono : ∀ {cc : AV} {v : Value}, Rv w U' ρ cc v → Rv (w.setCells b (i * e.size + off) vv) U' ρ cc v := fun h => h.mono hs hk (fun _ _ h => h) (fun _ _ h => h)
  have hblk := heap_setCells vv w b (i * e.size + off) hb
  have hvlen : vv.length = vs.length := hv.len.symm
  have hmul : (i + 1) * e.size ≤ c * e.size := Nat.mul_le_mul_right _ (by omega)
  rw [Nat.succ_mul] at hmul
  have helem : ∀ (j : Nat) (cc : AV), (explode e x)[j]? = some cc → Rv w U' ρ cc ((setV arr.toList (i * e.size + off) vv)[i * e.size + j]?.getD undef) := by
    have hrl : RvL w U ρ (explode e l[i]) ((List.range e.size).map fun j => (arr[i * e.size + j]?).getD undef) := by
      refine ⟨by simp [explode_length], fun j cc v hcc hv => ?_⟩
      simp only [List.getElem?_map, Option.map_eq_some_iff] at hv
      obtain ⟨j', hj, rfl⟩ := hv
      obtain ⟨hlt, hjj⟩ := range_get hj
      subst hjj
      obtain ⟨v, h1, h2⟩ := hr i hi _ cc hcc
      rw [h1]; exact h2
    have hset := setV_rv vs vv _ _ off hrl hv
    refine (implode_ok (w := w) (U := U) (U' := U') (ρ := ρ) (hp := hp) hsub e _ x [] (fun j => (setV arr.toList (i * e.size + off) vv)[i * e.size + j]?.getD undef) himp ?_ ?_).2.2
    · intro j cc hj
      have hlt : j < e.size := by
        have := (List.getElem?_eq_some_iff.1 hj).1
        rwa [setCells_length, explode_length] at this
      refine hset.rv j cc _ hj ?_
      have hlt2 : i * e.size + j < arr.size := by omega
      rw [setV_get, setV_get]
      simp only [List.length_map, List.length_range, Array.length_toList]
      by_cases hc1 : off ≤ j ∧ j < off + vv.length ∧ j < e.size
      · rw [if_pos hc1, if_pos (by omega), show i * e.size + j - (i * e.size + off) = j - off by omega]
        rw [List.getElem?_eq_getElem (by omega)]; simp
      · rw [if_neg hc1, if_neg (by omega)]
        simp [List.getElem?_range hlt, Array.getElem?_eq_getElem hlt2]
    · intro j hj
      have hj' : j ∈ vs.flatMap vecIds := by
        simp only [List.mem_flatMap] at hj ⊢
        obtain ⟨cc, hcc, hj⟩ := hj
        rcases setCells_mem _ _ _ _ hcc with h | h
        · obtain ⟨q, hq⟩ := List.mem_iff_getElem?.1 h
          rw [explode_vec e _ q cc hq] at hj; simp at hj
        · exact ⟨cc, h, hj⟩
      exact ⟨hob j hj', fun b' ho => hfz j hj' b' ho⟩
  refine ⟨Ext.setCells vv w b _, .tup [] [] rfl (by simp), ?_, by simp, fun _ _ => rfl, fun _ _ h => h, ?_, ?_, fun b' _ h => hsub b' h, ?_, ?_, ?_⟩
  · intro id' o' h
    simp only [List.mem_cons, Prod.mk.injEq] at h
    rcases h with ⟨rfl, rfl⟩ | h
    · refine ⟨_, c, by rw [hρ]; simp, by simpa using hm, .inr ⟨b, T, (setV arr.toList (i * e.size + off) vv).toArray, rfl, hc, hUb, hblk, by simp [setV_length, hsz], by simpa using hle, ?_⟩⟩
      intro i' hi' j cc hcc
      simp only [List.length_set] at hi'
      by_cases hii : i = i'
      · subst hii
        have hcc' : (explode e x)[j]? = some cc := by simpa using hcc
        have hlt : j < e.size := by have := (List.getElem?_eq_some_iff.1 hcc').1; rwa [explode_length] at this
        have hlt2 : i * e.size + j < (setV arr.toList (i * e.size + off) vv).length := by rw [setV_length]; simp; omega
        refine ⟨(setV arr.toList (i * e.size + off) vv)[i * e.size + j], by simp [List.getElem?_eq_getElem hlt2], ?_⟩
        have := helem j cc hcc'
        rw [List.getElem?_eq_getElem hlt2] at this
        exact hmono this
      · rw [List.getElem_set_ne hii] at hcc
        obtain ⟨v, h1, h2⟩ := hr i' hi' j cc hcc
        refine ⟨v, ?_, hmono (h2.weak hsub)⟩
        have hlt : j < e.size := by have := (List.getElem?_eq_some_iff.1 hcc).1; rwa [explode_length] at this
        have hne : ¬ (i * e.size + off ≤ i' * e.size + j ∧ i' * e.size + j < i * e.size + off + vv.length ∧ i' * e.size + j < arr.toList.length) := by
          rintro ⟨q1, q2, _⟩
          rcases Nat.lt_or_gt_of_ne hii with hlt' | hlt'
          · have := Nat.mul_le_mul_right e.size (Nat.succ_le_of_lt hlt')
            rw [Nat.succ_mul] at this
            omega
          · have := Nat.mul_le_mul_right e.size (Nat.succ_le_of_lt hlt')
            rw [Nat.succ_mul] at this
            omega
        simp only [List.getElem?_toArray]
        rw [setV_get, if_neg hne]
        simpa using h1
    · obtain ⟨hin', rfl⟩ := frzIds_mem h
      refine (freeze_ok (hob id' hin') (hvf id' hin').1 hsub (hfz id' hin')).mono hs hk (fun _ _ h => h) (fun _ _ h => h) ?_
      intro b' ho
      have := frz_owns (hvf id' hin').1
      rw [ownsB, this] at ho
      simp at ho
  · intro b' _ hn
    exact heap_setCells_other _ _ _ _ _ (fun e' => hn id _ (by simp; exact .inl rfl) (e' ▸ hown))
  · intro b' h; rw [setCells_size]; exact hub b' (hsub b' h)
  · intro b' _ h hn
    rw [← hU']
    exact ⟨h, fun ⟨j, hj, ho⟩ => hn j _ (List.mem_cons_of_mem _ (frzIds_of hj)) ho⟩
  · rintro id' o' b' (h | ⟨_, h⟩) ho
    · simp only [List.mem_cons, Prod.mk.injEq] at h
      rcases h with ⟨rfl, rfl⟩ | h
      · refine .inr ⟨id', _, List.mem_cons_self, ?_⟩
        obtain ⟨_, v, hv', hb'⟩ := ho
        exact ⟨by rw [hid]; rfl, v, hv', hb'⟩
      · obtain ⟨hin', rfl⟩ := frzIds_mem h
        have := frz_owns (hvf id' hin').1
        rw [ownsB, this] at ho
        simp at ho
    · simp at h
  · rintro id1 o1 id2 o2 b' (h | ⟨_, h⟩) (h' | ⟨_, h'⟩) ho ho'
    · have key : ∀ id' o', (id', o') ∈ ((id, AO.vec e (l.set i x)) :: frzIds hp (vs.flatMap vecIds)) → ownsB ρ id' o' b' → id' = id := by
        intro id' o' h ho
        simp only [List.mem_cons, Prod.mk.injEq] at h
        rcases h with ⟨rfl, _⟩ | h
        · rfl
        · obtain ⟨hin', rfl⟩ := frzIds_mem h
          have := frz_owns (hvf id' hin').1
          rw [ownsB, this] at ho
          simp at ho
      rw [key _ _ h ho, key _ _ h' ho']
    all_goals simp at h h'

end
open Go
section
variable {P : Program} {w : World} {U : Nat → Prop} {ρ : Nat → Option Value}

structure FpOk (w : World) (U : Nat → Prop) (ρ : Nat → Option Value) (hp : Nat → AO) (fp : List Nat) : Prop where
  ob : ∀ id ∈ fp, objOk w U ρ id (hp id)
  inj : ∀ id1 ∈ fp, ∀ id2 ∈ fp, ∀ b, ownsB ρ id1 (hp id1) b → ownsB ρ id2 (hp id2) b → id1 = id2

theorem evStore_ok {n : Nat} {hp : Nat → AO} {t : TypeId} {aa ax : AV} {va vx : Value} {f : Eff} {fp : List Nat} (h : (evStore P hp t aa ax).val = some f)
    (ha : Rv w U ρ aa va) (hx : Rv w U ρ ax vx) (hub : ∀ b, U b → b < w.heap.size) (hfp : FpOk w U ρ hp fp) (hin1 : ∀ id ∈ aa.ids, id ∈ fp) (hin2 : ∀ id ∈ partIds ax, id ∈ fp) :
    ∃ w' U', (Instr.storeAt t va vx).run P w = .ok () w' ∧ Ef n hp f w U ρ undef w' U' ρ ∧ ∀ id o, (id, o) ∈ f.wr → id ∈ fp := by
  unfold evStore at h
  split at h
  · rename_i vs sz hcs hsz
    obtain ⟨hv, hv1⟩ := cellsOf_ok hcs hx
    split at h
    · rename_i hlen
      split at h
      · rename_i id off
        cases ha with
        | ptr _ _ b hb =>
        have ho := hfp.ob id (hin1 id (by simp [AV.ids]))
        split at h
        · rename_i cs hid
          rw [hid] at ho
          obtain ⟨b', T, vals, h1, h2, h3, h4, h5⟩ := ho
          rw [hb] at h1; cases h1
          split at h
          · rename_i hle
            simp at h; subst h
            refine ⟨_, U, ?_, Ef.store hub hid hb h2 h3 h4 h5 hv hv1, ?_⟩
            · have := run_storeVar_at (P := P) (w := w) (o := off) hsz (by rw [← hv.len]; exact hlen) h3 (by have := h4.len; simp at this; omega) hv1
              simp [Instr.storeAt, Instr.sureAddr, this]
            · intro id' o' h'
              simp at h'; rw [h'.1]; exact hin1 id (by simp [AV.ids])
          · simp at h
        · simp at h
      · rename_i id sz' i off
        cases ha with
        | vptr _ _ _ _ b n' c hb =>
        have hidfp := hin1 id (by simp [AV.ids])
        have ho := hfp.ob id hidfp
        split at h
        · rename_i e l hid
          split at h
          · rename_i hcond
            obtain ⟨rfl, hoff, hall⟩ := hcond
            split at h
            · rename_i x himp
              simp at h
              obtain ⟨hi, rfl⟩ := h
              have hobid := ho
              rw [hid] at ho
              obtain ⟨a, c', h1, hm, h3⟩ := ho
              rw [hb] at h1; cases h1
              rcases h3 with ⟨rfl, _⟩ | ⟨b', T, arr, hba, hc, hU, hbb, hsz', hle, hrr⟩
              · simp at hi
              · cases hba
                have hget : l[i]?.getD (dflt e) = l[i] := by simp [List.getElem?_eq_getElem hi]
                rw [List.getD_eq_getElem?_getD, hget] at himp
                have hids : ∀ j ∈ vs.flatMap vecIds, j ∈ fp := fun j hj => hin2 j (by simpa [partIds, hcs] using hj)
                simp only [List.all_eq_true, Bool.and_eq_true, bne_iff_ne, ne_eq] at hall
                refine ⟨_, _, ?_, Ef.storeVec hub hid hb hc hU hbb hm hsz' hle hrr hv (by omega) hi himp hall (fun j hj => hfp.ob j (hids j hj))
                  (fun j hj b' ho1 ho2 => (hall j hj).2 (hfp.inj j (hids j hj) id hidfp b' ho1 ho2)), ?_⟩
                · have hmul : (i + 1) * e.size ≤ c * e.size := Nat.mul_le_mul_right _ (by omega)
                  rw [Nat.succ_mul] at hmul
                  have := run_storeVar_at (P := P) (w := w) (o := i * e.size + off) hsz (by rw [← hv.len]; exact hlen) hbb (by omega) hv1
                  simp [Instr.storeAt, Instr.sureAddr, this]
                · intro id' o' h'
                  simp only [List.mem_cons, Prod.mk.injEq] at h'
                  rcases h' with ⟨rfl, _⟩ | h'
                  · exact hidfp
                  · exact hids _ (frzIds_mem h').1
            · simp at h
          · simp at h
        · simp at h
      · simp at h
    · simp at h
  · simp at h

theorem argOf_cells {hp : Nat → AO} {e : Sh} {v : AV} {x : Sem e} (h : argOf hp e v = some x) : ∃ cs, cellsOf v = some cs ∧ implode hp e cs = some (x, []) := by
  unfold argOf at h
  split at h
  · split at h
    · rename_i cs hcs
      split at h
      · rename_i y hy
        cases h
        exact ⟨cs, hcs, hy⟩
      · cases h
    · cases h
  · cases h

theorem elemsA_ok {hp : Nat → AO} {e : Sh} {U' : Nat → Prop} (hsub : ∀ b, U' b → U b) : ∀ (vs : List AV) (vals : List Value) (l : List (Sem e)), elemsA hp e vs = some l → RvL w U ρ vs vals →
    (∀ id ∈ vs.flatMap partIds, objOk w U ρ id (hp id) ∧ ∀ b, ownsB ρ id (hp id) b → ¬ U' b) →
    l.length = vals.length ∧ (∀ v ∈ vals, v.cells.size = e.size ∧ ∀ x ∈ v.cells.toList, x.oneCell' = true) ∧
    ∀ i (hi : i < l.length) (hv : i < vals.length) (j : Nat) (c : AV), (explode e l[i])[j]? = some c → ∃ v, vals[i].cells[j]? = some v ∧ Rv w U' ρ c v
  | [], vals, l, h, hr, _ => by
    simp [elemsA] at h; subst h
    have := hr.len
    simp at this
    have hv : vals = [] := List.eq_nil_of_length_eq_zero (by simpa using this.symm)
    subst hv
    simp
  | v :: vs, [], l, _, hr, _ => by have := hr.len; simp at this
  | v :: vs, u :: vals, l, h, hr, hob => by
    simp only [elemsA] at h
    split at h
    · rename_i x l' hx hl
      cases h
      obtain ⟨cs, hcs, himp⟩ := argOf_cells hx
      obtain ⟨hcv, hcv1⟩ := cellsOf_ok hcs (hr.rv 0 v u rfl rfl)
      obtain ⟨h1, h2, h3⟩ := elemsA_ok hsub vs vals l' hl ⟨by have := hr.len; simpa using this, fun j c v hc hv => hr.rv (j + 1) c v hc hv⟩
        (fun id hid => hob id (by simp only [List.flatMap_cons, List.mem_append]; exact .inr hid))
      obtain ⟨q1, q2, q3⟩ := implode_ok (w := w) (U := U) (U' := U') (ρ := ρ) (hp := hp) hsub e cs x [] (fun j => (u.cells.toList[j]?).getD undef) himp
        (fun j c hj => by
          have hlt : j < u.cells.toList.length := by rw [← hcv.len]; exact (List.getElem?_eq_some_iff.1 hj).1
          exact hcv.rv j c _ hj (by simp [List.getElem?_eq_getElem hlt]))
        (fun id hid => hob id (by simp only [List.flatMap_cons, List.mem_append]; exact .inl (by simpa [partIds, hcs] using hid)))
      have hsz : u.cells.size = e.size := by
        have := hcv.len
        simp at this q1
        omega
      refine ⟨by simp [h1], ?_, ?_⟩
      · intro y hy
        simp only [List.mem_cons] at hy
        rcases hy with rfl | hy
        · exact ⟨hsz, hcv1⟩
        · exact h2 y hy
      · intro i hi hv j c hc
        cases i with
        | zero =>
          simp only [List.getElem_cons_zero] at hc ⊢
          have hlt : j < u.cells.size := by rw [hsz]; have := (List.getElem?_eq_some_iff.1 hc).1; rwa [explode_length] at this
          refine ⟨u.cells[j], Array.getElem?_eq_getElem hlt, ?_⟩
          have := q3 j c hc
          simpa [Array.getElem?_eq_getElem hlt] using this
        | succ i =>
          simp only [List.getElem_cons_succ] at hc ⊢
          exact h3 i (by simpa using hi) (by simpa using hv) j c hc
    · cases h

theorem fill_rows (size : Nat) : ∀ (vs : List Value) (k : Nat) (cells : List Value), (∀ v ∈ vs, v.cells.size = size) → (k + vs.length) * size ≤ cells.length →
    ∃ r : List Value, Instr.fill (fun i => some (i * size, size)) cells.toArray ((vs.zipIdx k).map fun p => (p.2, p.1)) = some r.toArray ∧ r.length = cells.length ∧
      (∀ q, q < k * size → r[q]? = cells[q]?) ∧ ∀ i (hi : i < vs.length) j, j < size → r[(k + i) * size + j]? = vs[i].cells[j]?
  | [], k, cells, _, _ => ⟨cells, by simp [Instr.fill], rfl, fun _ _ => rfl, by simp⟩
  | v :: vs, k, cells, hsz, hle => by
    have hv := hsz v (by simp)
    simp only [List.length_cons] at hle
    have hm : k * size + size ≤ cells.length := by
      have h1 : (k + 1) * size ≤ (k + (vs.length + 1)) * size := Nat.mul_le_mul_right _ (by omega)
      rw [Nat.succ_mul] at h1
      omega
    obtain ⟨r, e1, e2, e3, e4⟩ := fill_rows size vs (k + 1) (setV cells (k * size) v.cells.toList) (fun x hx => hsz x (by simp [hx]))
      (by rw [setV_length, show k + 1 + vs.length = k + (vs.length + 1) by omega]; exact hle)
    refine ⟨r, ?_, by rw [e2, setV_length], ?_, ?_⟩
    · simp only [List.zipIdx_cons, List.map_cons, Instr.fill]
      rw [if_neg (by simp; omega)]
      rw [← e1]
      congr 1
      have := fold_set cells v.cells.toList 0 (k * size)
      rw [Nat.add_zero] at this
      rw [← this, ← Array.foldl_toList, Array.toList_zipIdx]
    · intro q hq
      rw [e3 q (by rw [Nat.succ_mul]; omega), setV_get, if_neg (by omega)]
    · intro i hi j hj
      cases i with
      | zero =>
        simp only [Nat.add_zero, List.getElem_cons_zero]
        rw [e3 _ (by rw [Nat.succ_mul]; omega), setV_get, if_pos (by simp; omega), show k * size + j - k * size = j by omega]
        simp
      | succ i =>
        simp only [List.getElem_cons_succ]
        have := e4 i (by simpa using hi) j hj
        rwa [show k + 1 + i = k + (i + 1) by omega] at this

structure EnvOk (E : Env) : Prop where
  sh : ∀ t e, E.sh t = some e → ∃ i z, E.P.info? t = some i ∧ i.size = e.size ∧ 0 < e.size ∧ i.bytes ≤ 131072 ∧ i.zero = some z ∧ z.cells.size = i.size

theorem inOrder_zip : ∀ (ps : List (Nat × AV)) (n : Nat), inOrder n ps = true → ps = ((ps.map (·.2)).zipIdx n).map fun p => (p.2, p.1)
  | [], _, _ => rfl
  | (i, v) :: r, n, h => by
    simp [inOrder] at h
    obtain ⟨rfl, h⟩ := h
    simp only [List.map_cons, List.zipIdx_cons]
    congr 1
    exact inOrder_zip r (i + 1) h

theorem Ef.allocFrz {n : Nat} {hp : Nat → AO} {ids : List Nat} {arr : Array Value} {T : TypeId} {r : AV} {v : Value} (hub : ∀ b, U b → b < w.heap.size) (hvf : ∀ j ∈ ids, isVF (hp j) = true)
    (hob : ∀ j ∈ ids, objOk w U ρ j (hp j)) (hval : Rv (w.alloc (.cells arr T)) (fun b => U b ∧ ¬ ∃ j ∈ ids, ownsB ρ j (hp j) b) ρ r v) :
    Ef n hp { val := r, wr := frzIds hp ids } w U ρ v (w.alloc (.cells arr T)) (fun b => U b ∧ ¬ ∃ j ∈ ids, ownsB ρ j (hp j) b) ρ := by
  generalize hU' : (fun b => U b ∧ ¬ ∃ j ∈ ids, ownsB ρ j (hp j) b) = U' at hval ⊢
  have hsub : ∀ b, U' b → U b := fun b h => by rw [← hU'] at h; exact h.1
  have hfz : ∀ j ∈ ids, ∀ b, ownsB ρ j (hp j) b → ¬ U' b := fun j hj b ho h => by rw [← hU'] at h; exact h.2 ⟨j, hj, ho⟩
  have hk : ∀ b', b' < w.heap.size → ¬ U' b' → (w.alloc (.cells arr T)).heap[b']? = w.heap[b']? := fun b' hb _ => heap_push_old w _ b' hb
  have hs : w.heap.size ≤ (w.alloc (.cells arr T)).heap.size := by rw [heap_push_size]; omega
  have noOwn : ∀ id o b, (id, o) ∈ frzIds hp ids → ownsB ρ id o b → False := by
    intro id o b h ho
    obtain ⟨hin', rfl⟩ := frzIds_mem h
    rw [ownsB, frz_owns (hvf id hin')] at ho
    simp at ho
  refine ⟨Ext.alloc w arr T, hval, ?_, by simp, fun _ _ => rfl, fun _ _ h => h, fun b' hb _ => heap_push_old w _ b' hb, ?_, fun b' _ h => hsub b' h, ?_, ?_, ?_⟩
  · intro id o h
    have h0 := h
    obtain ⟨hin', rfl⟩ := frzIds_mem h
    exact (freeze_ok (hob id hin') (hvf id hin') hsub (hfz id hin')).mono hs hk (fun _ _ h => h) (fun _ _ h => h) (fun b' ho => (noOwn id _ b' h0 ho).elim)
  · intro b' h; rw [heap_push_size]; have := hub b' (hsub b' h); omega
  · intro b' _ h hn
    rw [← hU']
    exact ⟨h, fun ⟨j, hj, ho⟩ => hn j _ (frzIds_of hj) ho⟩
  · rintro id o b' (h | ⟨_, h⟩) ho
    · exact (noOwn id o b' h ho).elim
    · simp at h
  · rintro id1 o1 id2 o2 b' (h | ⟨_, h⟩) _ ho _
    · exact (noOwn id1 o1 b' h ho).elim
    · simp at h

theorem evBuildSlice_ok {E : Env} (hE : EnvOk E) {n : Nat} {hp : Nat → AO} {t : TypeId} {len : Nat} {ps : List (Nat × AV)} {vps : List (Nat × Value)} {f : Eff} {fp : List Nat}
    (h : (evBuildSlice E hp t len ps).val = some f) (hi : ps.map (·.1) = vps.map (·.1)) (hr : RvL w U ρ (ps.map (·.2)) (vps.map (·.2)))
    (hub : ∀ b, U b → b < w.heap.size) (hfp : FpOk w U ρ hp fp) (hin : ∀ id ∈ ps.flatMap (fun p => partIds p.2), id ∈ fp) :
    ∃ v w' U', (Instr.buildSlice t len vps.toArray).run E.P w = .ok v w' ∧ Ef n hp f w U ρ v w' U' ρ ∧ ∀ id o, (id, o) ∈ f.wr → id ∈ fp := by
  unfold evBuildSlice at h
  split at h
  · rename_i elem hu
    split at h
    · split at h
      · rename_i hemp
        simp at hemp
        obtain ⟨rfl, hsz⟩ := hemp
        have hvps : vps = [] := by
          have := congrArg List.length hi
          simp at this
          exact List.eq_nil_of_length_eq_zero (by omega)
        subst hvps
        simp at h; subst h
        obtain ⟨sz, hsz⟩ := Option.isSome_iff_exists.1 hsz
        have hrun : ∃ arr, (Instr.buildSlice t 0 #[]).run E.P w = .ok (.slice (some ⟨w.heap.size, 0, none⟩) 0 0) (w.alloc (.cells arr elem)) :=
          ⟨_, by simp [Instr.buildSlice, run_underlying hu, run_tsize hsz, Instr.fill, newRow]; rfl⟩
        obtain ⟨arr, hrun⟩ := hrun
        exact ⟨_, _, _, hrun, Ef.allocFrz (ids := []) (T := elem) hub (by simp) (by simp) (.nils _), by simp⟩
      · simp at h
    · rename_i hne
      split at h
      · rename_i e he
        split at h
        · rename_i hcond
          simp at hcond
          obtain ⟨⟨⟨hlen, hord⟩, hmax⟩, hvf⟩ := hcond
          split at h
          · rename_i l hl
            simp at h; subst h
            obtain ⟨i, z, hinfo, hisz, hpos, _, hz, hzc⟩ := hE.sh elem e he
            have hsz : tsize E.P elem = some e.size := by simp [tsize, hinfo, hisz]
            have hids : ∀ id ∈ (ps.map (·.2)).flatMap partIds, id ∈ ps.flatMap (fun p => partIds p.2) := by
              intro id hid
              simpa [List.flatMap_map] using hid
            have hvf' : ∀ j ∈ ps.flatMap (fun p => partIds p.2), isVF (hp j) = true := by
              intro j hj
              simp only [List.mem_flatMap] at hj
              obtain ⟨p, hp', hj⟩ := hj
              exact hvf p.1 p.2 hp' j hj
            generalize hU' : (fun b => U b ∧ ¬ ∃ j ∈ ps.flatMap (fun p => partIds p.2), ownsB ρ j (hp j) b) = U'
            have hsub : ∀ b, U' b → U b := fun b h => by rw [← hU'] at h; exact h.1
            obtain ⟨h1, h2, h3⟩ := elemsA_ok (w := w) (U := U) (ρ := ρ) (U' := U') hsub _ _ l hl hr
              (fun id hid => ⟨hfp.ob id (hin id (hids id hid)), fun b ho h => by rw [← hU'] at h; exact h.2 ⟨id, hids id hid, ho⟩⟩)
            have hvps : vps = ((vps.map (·.2)).zipIdx 0).map fun p => (p.2, p.1) := by
              have h1 := inOrder_zip ps 0 hord
              have hidx : ps.map (·.1) = List.range' 0 ps.length := by
                have := congrArg (List.map (·.1)) h1
                rw [List.map_map] at this
                rw [this]
                have e2 : ((fun x : Nat × AV => x.1) ∘ fun p : AV × Nat => (p.2, p.1)) = Prod.snd := rfl
                rw [e2, List.zipIdx_map_snd]
                simp
              have hl2 : ps.length = vps.length := by have := congrArg List.length hi; simpa using this
              rw [hi, hl2] at hidx
              apply List.ext_getElem
              · simp
              · intro k hk hk'
                have : (vps.map (·.1))[k]? = (List.range' 0 vps.length)[k]? := by rw [hidx]
                rw [List.getElem?_map, List.getElem?_eq_getElem hk, List.getElem?_range' hk] at this
                simp at this
                simp
                exact Prod.ext this rfl
            have hlen2 : vps.length = len := by rw [← hlen]; have := congrArg List.length hi; simpa using this.symm
            obtain ⟨r, e1, e2, e3, e4⟩ := fill_rows e.size (vps.map (·.2)) 0 (((Array.range (len * e.size)).map (z.cells[· % z.cells.size]!)).toList)
              (fun v hv => (h2 v hv).1) (by simp [hlen2])
            rw [← hvps] at e1
            have hne0 : len * e.size ≠ 0 := by
              have : len ≠ 0 := fun h0 => hne h0
              exact Nat.mul_ne_zero this (by omega)
            have hbig : ¬ (2 ^ 24 < len * e.size) := by omega
            have hll : l.length = len := by rw [h1]; simpa using hlen2
            refine ⟨.slice (some ⟨w.heap.size, 0, none⟩) len len, w.alloc (.cells r.toArray elem), _, ?_, Ef.allocFrz hub hvf' (fun j hj => hfp.ob j (hin j hj)) ?_, fun id o h => hin id (frzIds_mem h).1⟩
            · simp only [Array.toArray_toList] at e1
              simp only [Instr.buildSlice, Sem.run_bind, run_underlying hu, run_tsize hsz, Result.andThen_ok]
              simp only [gt_iff_lt, hbig, if_false, hne0, Sem.run_pure, Result.andThen_ok, Sem.run_bind, zeroValue, typeInfo, run_program, hinfo, hz, e1, newRow, run_newObj]
              rfl
            · rw [hU']
              have hk : ∀ b', b' < w.heap.size → ¬ U' b' → (w.alloc (.cells r.toArray elem)).heap[b']? = w.heap[b']? := fun b' hb _ => heap_push_old w _ b' hb
              have hs : w.heap.size ≤ (w.alloc (.cells r.toArray elem)).heap.size := by rw [heap_push_size]; omega
              suffices hsuf : Rv (w.alloc (.cells r.toArray elem)) U' ρ (.sl e l) (.slice (some ⟨w.heap.size, 0, none⟩) l.length len) by rw [hll] at hsuf; exact hsuf
              refine .sl e l w.heap.size 0 len (fun i j => (r[i * e.size + j]?).getD undef) (by omega) (by unfold maxStr; have : len ≤ len * e.size := Nat.le_mul_of_pos_right _ hpos; omega) (by rw [heap_push_size]; omega)
                (fun h => by have := hub _ (hsub _ h); omega) (fun i' j hi' hj => ?_) (fun i' hi' j c hc => ?_)
              · have hlt : i' * e.size + j < r.length := by
                  rw [e2]
                  have : (i' + 1) * e.size ≤ len * e.size := Nat.mul_le_mul_right _ (by omega)
                  rw [Nat.succ_mul] at this
                  simp
                  omega
                unfold World.cell?
                rw [heap_push_new]
                simp [List.getElem?_eq_getElem hlt]
              · have hi'' : i' < (vps.map (·.2)).length := by rw [← h1]; exact hi'
                obtain ⟨v, hv1, hv2⟩ := h3 i' hi' hi'' j c hc
                have hj : j < e.size := by have := (List.getElem?_eq_some_iff.1 hc).1; rwa [explode_length] at this
                have := e4 i' hi'' j hj
                rw [Nat.zero_add] at this
                rw [this, hv1]
                exact hv2.mono hs hk (fun _ _ h => h) (fun _ _ h => h)
          · simp at h
        · simp at h
      · simp at h
  · simp at h

end
open Go
section
variable {P : Program} {w : World} {U : Nat → Prop} {ρ : Nat → Option Value}

def SlR (w : World) (U : Nat → Prop) (ρ : Nat → Option Value) (e : Sh) (l : List (Sem e)) (v : Value) : Prop :=
  ∃ a cap, v = .slice a l.length cap ∧ l.length ≤ cap ∧ l.length ≤ maxStr ∧ (l = [] ∨ ∃ b o, a = some ⟨b, o, none⟩ ∧
    ∀ i (hi : i < l.length) (j : Nat) (c : AV), (explode e l[i])[j]? = some c → ∃ x, w.cell? ⟨b, o + i * e.size + j, none⟩ = some x ∧ Rv w U ρ c x)

theorem sl_read {e : Sh} {l : List (Sem e)} {v : Value} (h : Rv w U ρ (.sl e l) v) : SlR w U ρ e l v := by
  cases h with
  | sl0 _ a c => exact ⟨a, c, rfl, by simp, by simp, .inl rfl⟩
  | sl _ _ b o c vals hc hm hb hU hcell hr =>
    refine ⟨_, c, rfl, hc, hm, .inr ⟨b, o, rfl, fun i hi j cc hcc => ⟨vals i j, hcell i j hi ?_, hr i hi j cc hcc⟩⟩⟩
    have := (List.getElem?_eq_some_iff.1 hcc).1; rwa [explode_length] at this

theorem vec_read {id : Nat} {e : Sh} {l : List (Sem e)} {v : Value} (h : objOk w U ρ id (.vec e l)) (hv : ρ id = some v) : SlR w U ρ e l v := by
  obtain ⟨a, c, h1, hm, h3⟩ := h
  rw [hv] at h1; cases h1
  rcases h3 with ⟨rfl, rfl⟩ | ⟨b, T, arr, rfl, hc, hU, hb, hsz, hle, hr⟩
  · exact ⟨a, 0, rfl, by simp, by simp, .inl rfl⟩
  · refine ⟨_, c, rfl, hle, hm, .inr ⟨b, 0, rfl, fun i hi j cc hcc => ?_⟩⟩
    obtain ⟨x, h1, h2⟩ := hr i hi j cc hcc
    exact ⟨x, by simp [World.cell?, hb, h1], h2⟩

theorem asSl_read {hp : Nat → AO} {e : Sh} {c : AV} {l : List (Sem e)} {v : Value} (h : asSl hp e c = some l) (hr : Rv w U ρ c v)
    (hob : ∀ id ∈ c.ids, objOk w U ρ id (hp id)) : SlR w U ρ e l v := by
  cases c <;> simp [asSl] at h
  case nils =>
    subst h
    cases hr
    exact ⟨_, 0, rfl, by simp, by simp, .inl rfl⟩
  case sl e' l' =>
    obtain ⟨rfl, h⟩ := h
    subst h
    exact sl_read hr
  case vec id =>
    cases hr with
    | vec _ _ hv _ =>
    have h1 := hob id (by simp [AV.ids])
    cases ho : hp id with
    | dead => simp [ho] at h
    | box cs => simp [ho] at h
    | fmap es => simp [ho] at h
    | vmap u es => simp [ho] at h
    | frz e' l' =>
      simp [ho] at h
      obtain ⟨rfl, h⟩ := h
      subst h
      rw [ho] at h1
      obtain ⟨v', hv', hrv⟩ := h1
      rw [hv] at hv'; cases hv'
      exact sl_read hrv
    | vec e' l' =>
      simp [ho] at h
      obtain ⟨rfl, h⟩ := h
      subst h
      rw [ho] at h1
      exact vec_read h1 hv

def rowsV (size n : Nat) (vals : Nat → Nat → Value) : List Value := (List.range (n * size)).map fun q => vals (q / size) (q % size)

theorem rowsV_get {size n : Nat} {vals : Nat → Nat → Value} {i j : Nat} (hi : i < n) (hj : j < size) : (rowsV size n vals)[i * size + j]? = some (vals i j) := by
  have hlt : i * size + j < n * size := by
    have := Nat.mul_le_mul_right size (Nat.succ_le_of_lt hi)
    rw [Nat.succ_mul] at this
    omega
  have h1 : (i * size + j) / size = i := by
    rw [Nat.add_comm, Nat.add_mul_div_right _ _ (by omega), Nat.div_eq_of_lt hj]; omega
  have h2 : (i * size + j) % size = j := by
    rw [Nat.add_comm, Nat.add_mul_mod_self_right, Nat.mod_eq_of_lt hj]
  simp [rowsV, List.getElem?_range hlt, h1, h2]

theorem rowsV_length {size n : Nat} {vals : Nat → Nat → Value} : (rowsV size n vals).length = n * size := by simp [rowsV]

theorem SlR.cells {e : Sh} {l : List (Sem e)} {v : Value} (h : SlR w U ρ e l v) (hpos : 0 < e.size) : ∃ (a : Option Addr) (cap : Nat) (vals : Nat → Nat → Value), v = .slice a l.length cap ∧ l.length ≤ cap ∧
    (∀ i (hi : i < l.length) (j : Nat) (c : AV), (explode e l[i])[j]? = some c → Rv w U ρ c (vals i j)) ∧ (∀ x ∈ rowsV e.size l.length vals, x.oneCell' = true) ∧
    (a = none → l = []) ∧ ∀ ad, a = some ad → ∀ (q : Nat) x, (rowsV e.size l.length vals)[q]? = some x → w.cell? (ad.add q) = some x := by
  obtain ⟨a, cap, rfl, hc, hm, h⟩ := h
  rcases h with rfl | ⟨b, o, rfl, hr⟩
  · exact ⟨a, cap, fun _ _ => undef, rfl, hc, by simp, by simp [rowsV], fun _ => rfl, by simp [rowsV]⟩
  · have hex : ∀ i j, i < l.length → j < e.size → ∃ x, w.cell? ⟨b, o + i * e.size + j, none⟩ = some x ∧ x.oneCell' = true ∧ ∀ (hi : i < l.length) c, (explode e l[i])[j]? = some c → Rv w U ρ c x := by
      intro i j hi hj
      have hget : (explode e l[i])[j]? = some ((explode e l[i])[j]'(by rw [explode_length]; exact hj)) := List.getElem?_eq_getElem _
      obtain ⟨x, h1, h2⟩ := hr i hi j _ hget
      exact ⟨x, h1, explode_one e l[i] j _ x hget h2, fun hi c hc => by rw [hget] at hc; cases hc; exact h2⟩
    let vals : Nat → Nat → Value := fun i j => (w.cell? ⟨b, o + i * e.size + j, none⟩).getD undef
    refine ⟨_, cap, vals, rfl, hc, fun i hi j c hc => ?_, fun x hx => ?_, (fun h => by cases h), fun ad had q x hq => ?_⟩
    · have hj : j < e.size := by have := (List.getElem?_eq_some_iff.1 hc).1; rwa [explode_length] at this
      obtain ⟨x, h1, _, h3⟩ := hex i j hi hj
      simp only [vals, h1, Option.getD_some]
      exact h3 hi c hc
    · simp only [rowsV, List.mem_map, List.mem_range] at hx
      obtain ⟨q, hq, rfl⟩ := hx
      obtain ⟨x, h1, h2, _⟩ := hex (q / e.size) (q % e.size) ((Nat.div_lt_iff_lt_mul hpos).2 hq) (Nat.mod_lt _ hpos)
      simp only [vals, h1, Option.getD_some]
      exact h2
    · cases had
      simp only [rowsV, List.getElem?_map, Option.map_eq_some_iff] at hq
      obtain ⟨q', hq', rfl⟩ := hq
      obtain ⟨hlt, hqq⟩ := range_get hq'
      subst hqq
      obtain ⟨x, h1, h2, _⟩ := hex (q' / e.size) (q' % e.size) ((Nat.div_lt_iff_lt_mul hpos).2 hlt) (Nat.mod_lt _ hpos)
      rw [Addr.add_none]
      have : o + q' = o + q' / e.size * e.size + q' % e.size := by have := Nat.div_add_mod q' e.size; rw [Nat.mul_comm] at this; omega
      rw [this]
      simp only [vals, h1, Option.getD_some]

theorem Ef.newVec {n : Nat} {hp : Nat → AO} {wr : List (Nat × AO)} (hwr : ∀ id o, (id, o) ∈ wr → o = .dead) {e : Sh} {l : List (Sem e)} {v : Value} {w' : World} {U' : Nat → Prop} (hn : ρ n = none) (hone : v.oneCell' = true) (hext : Ext w w')
    (hsame : ∀ b, b < w.heap.size → (∀ id o, (id, o) ∈ wr → ¬ ownsB ρ id (hp id) b) → w'.heap[b]? = w.heap[b]?) (hub : ∀ b, U' b → b < w'.heap.size) (hU : ∀ b, b < w.heap.size → (U' b ↔ U b))
    (hobj : objOk w' U' (upd ρ n v) n (.vec e l)) (hown : ∀ b, blkOf v = some b → w.heap.size ≤ b ∨ ∃ id o, (id, o) ∈ wr ∧ ownsB ρ id (hp id) b) :
    Ef n hp { val := .vec n, wr := wr, nw := [.vec e l] } w U ρ v w' U' (upd ρ n v) := by
  have hidx : ∀ id o, (n ≤ id ∧ ([AO.vec e l] : List AO)[id - n]? = some o) → id = n := by
    rintro id o ⟨h1, h2⟩
    have := (List.getElem?_eq_some_iff.1 h2).1
    simp at this
    omega
  refine ⟨hext, .vec n v (by simp [upd]) hone, ?_, ?_, ?_, upd_old hn, hsame, hub, fun b hb h => (hU b hb).1 h, fun b hb h _ => (hU b hb).2 h, ?_, ?_⟩
  · intro id o h
    rw [hwr id o h]; trivial
  · intro j o hj
    cases j with
    | succ j => simp at hj
    | zero => simp at hj; subst hj; exact hobj
  · intro id h
    unfold upd
    rw [if_neg (by simp at h; omega)]
  · rintro id o b (h | h) ho
    · rw [hwr id o h] at ho
      simp [ownsB, AO.owns] at ho
    · have := hidx id o h
      subst this
      obtain ⟨_, x, hx, hb⟩ := ho
      simp [upd] at hx; subst hx
      exact hown b hb
  · rintro id1 o1 id2 o2 b (h | h) h' ho ho'
    · rw [hwr id1 o1 h] at ho
      simp [ownsB, AO.owns] at ho
    · rcases h' with h' | h'
      · rw [hwr id2 o2 h'] at ho'
        simp [ownsB, AO.owns] at ho'
      · rw [hidx id1 o1 h, hidx id2 o2 h']

theorem rowsV_app {size n m : Nat} {f g : Nat → Nat → Value} {i j : Nat} (hj : j < size) (hi : i < n + m) :
    (rowsV size n f ++ rowsV size m g)[i * size + j]? = some (if i < n then f i j else g (i - n) j) := by
  by_cases h : i < n
  · rw [if_pos h, List.getElem?_append_left]
    · exact rowsV_get h hj
    · rw [rowsV_length]
      have := Nat.mul_le_mul_right size (Nat.succ_le_of_lt h)
      rw [Nat.succ_mul] at this
      omega
  · rw [if_neg h]
    have hge : n * size ≤ i * size := Nat.mul_le_mul_right _ (by omega)
    rw [List.getElem?_append_right (by rw [rowsV_length]; omega), rowsV_length]
    rw [show i * size + j - n * size = (i - n) * size + j by rw [Nat.sub_mul]; omega]
    exact rowsV_get (by omega) hj

theorem Src.ofSlR {e : Sh} {l : List (Sem e)} {a : Option Addr} {cap : Nat} {vals : Nat → Nat → Value} {t : TypeId} {el : TypeId} (hu : P.underlying t = some (.slice el))
    (h1 : ∀ x ∈ rowsV e.size l.length vals, x.oneCell' = true) (hn : a = none → l = []) (hc : ∀ ad, a = some ad → ∀ (q : Nat) x, (rowsV e.size l.length vals)[q]? = some x → w.cell? (ad.add q) = some x) :
    Src P e.size t (.slice a l.length cap) l.length (rowsV e.size l.length vals) w := by
  cases a with
  | none =>
    have := hn rfl
    subst this
    simpa [rowsV] using Src.ofNil (P := P) w (size := e.size) hu cap
  | some ad => exact Src.ofSlice w hu ad l.length cap _ rowsV_length (hc ad rfl) h1

theorem zeroCells_size (z : Array Value) (n : Nat) : (Builtin.zeroCells z n).size = n * z.size := by simp [Builtin.zeroCells]

theorem grown_vec {n : Nat} {e : Sh} {l0 l' : List (Sem e)} {elem : TypeId} {z : Value} {newCap : Nat} {f g : Nat → Nat → Value} (hn : ρ n = none)
    (hzc : z.cells.size = e.size) (hcap : l0.length + l'.length ≤ newCap) (hpos : 0 < newCap) (hmax : l0.length + l'.length ≤ 1073741824)
    (hf : ∀ i (hi : i < l0.length) (j : Nat) (c : AV), (explode e l0[i])[j]? = some c → Rv w U ρ c (f i j)) (hg : ∀ i (hi : i < l'.length) (j : Nat) (c : AV), (explode e l'[i])[j]? = some c → Rv w U ρ c (g i j)) :
    objOk (w.drew.alloc (.cells ((rowsV e.size l0.length f ++ rowsV e.size l'.length g).toArray ++ Builtin.zeroCells z.cells (newCap - (l0.length + l'.length))) elem))
      (fun b => U b ∨ b = w.heap.size) (upd ρ n (.slice (some ⟨w.heap.size, 0, none⟩) (l0.length + l'.length) newCap)) n (.vec e (l0 ++ l')) := by
  generalize hobj : Obj.cells ((rowsV e.size l0.length f ++ rowsV e.size l'.length g).toArray ++ Builtin.zeroCells z.cells (newCap - (l0.length + l'.length))) elem = ob
  have hk : ∀ b, b < w.heap.size → ¬ U b → (w.drew.alloc ob).heap[b]? = w.heap[b]? := fun b hb _ => heap_push_old w.drew _ b hb
  have hu : ∀ b, b < w.heap.size → (U b ∨ b = w.heap.size) → U b := fun b hb h => h.elim id (fun e => by omega)
  have hs : w.heap.size ≤ (w.drew.alloc ob).heap.size := by rw [heap_push_size]; exact Nat.le_succ _
  have hnew : (w.drew.alloc ob).heap[w.heap.size]? = some ob := heap_push_new w.drew ob
  refine ⟨_, newCap, by simp [upd], by simp; unfold maxStr; omega, .inr ⟨w.heap.size, elem, _, rfl, hpos, .inr rfl, by rw [hnew, ← hobj], ?_, by simpa using hcap, ?_⟩⟩
  · simp only [Array.size_append, List.size_toArray, List.length_append, rowsV_length, zeroCells_size, hzc]
    rw [← Nat.add_mul, ← Nat.add_mul]
    congr 1
    omega
  · intro i hi j c hc
    simp only [List.length_append] at hi
    have hj : j < e.size := by have := (List.getElem?_eq_some_iff.1 hc).1; rwa [explode_length] at this
    refine ⟨if i < l0.length then f i j else g (i - l0.length) j, ?_, ?_⟩
    · rw [Array.getElem?_append_left]
      · simpa using rowsV_app hj hi
      · simp only [List.size_toArray, List.length_append, rowsV_length]
        rw [← Nat.add_mul]
        have := Nat.mul_le_mul_right e.size (Nat.succ_le_of_lt hi)
        rw [Nat.succ_mul] at this
        omega
    · by_cases hlt : i < l0.length
      · rw [if_pos hlt]
        rw [List.getElem_append_left hlt] at hc
        exact (hf i hlt j c hc).mono hs hk hu (upd_old hn)
      · rw [if_neg hlt]
        rw [List.getElem_append_right (by omega)] at hc
        exact (hg _ _ j c hc).mono hs hk hu (upd_old hn)

theorem Ext.drew (w : World) : Ext w w.drew := ⟨Nat.le_refl _, rfl, rfl, rfl, fun _ _ => rfl⟩

theorem evAppend_ok {E : Env} (hE : EnvOk E) {n : Nat} {hp : Nat → AO} {elem t t' el' ty : TypeId} {ab ax : AV} {vb vx : Value} {f : Eff} {fp : List Nat}
    (h : (evAppend E hp n elem ab ax).val = some f) (hu : E.P.underlying t = some (.slice elem)) (hu' : E.P.underlying t' = some (.slice el'))
    (hb : Rv w U ρ ab vb) (hx : Rv w U ρ ax vx) (hub : ∀ b, U b → b < w.heap.size) (hfp : FpOk w U ρ hp fp) (hin1 : ∀ id ∈ ab.ids, id ∈ fp) (hin2 : ∀ id ∈ ax.ids, id ∈ fp) (hn : ρ n = none) :
    ∃ v w' U' ρ', (Builtin.append_ #[t, t'] ty #[vb, vx]).run E.P w = .ok v w' ∧ Ef n hp f w U ρ v w' U' ρ' ∧ ∀ id o, (id, o) ∈ f.wr → id ∈ fp := by
  have none0 : ∀ (a : Option Addr) (i : TypeInfo), E.P.info? elem = some i → ∀ x, (Builtin.lenOf x).run E.P w = .ok 0 w → (Builtin.firstCells i.size 0 x).run E.P w = .ok #[] w →
      (Builtin.append_ #[t, t'] ty #[.slice a 0 0, x]).run E.P w = .ok (.slice a 0 0) w := by
    intro a i hi x hl hf
    cases a <;> simp [Builtin.append_, run_underlying hu, run_underlying hu', Go.sizeOf, typeInfo, hi, hl, hf, storeCells]
  unfold evAppend at h
  split at h
  · -- onto nil
    rename_i e he
    obtain ⟨i, z, hinfo, hisz, hpos, hbytes, hz, hzc⟩ := hE.sh elem e he
    split at h
    · rename_i l hl
      simp at h
      obtain ⟨hmax, rfl⟩ := h
      cases hb with
      | nils a =>
      obtain ⟨a', cap', g, rfl, hle, hg, hone, hnone, hcell⟩ := (asSl_read hl hx (fun id hid => hfp.ob id (hin2 id hid))).cells hpos
      have hsrc := Src.ofSlR (P := E.P) (w := w) (e := e) (cap := cap') hu' hone hnone hcell
      rw [← hisz] at hsrc
      by_cases h0 : l = []
      · subst h0
        refine ⟨.slice a 0 0, w, U, _, none0 a i hinfo _ (hsrc.len w) (by simpa [rowsV] using hsrc.cells), Ef.newVec (by simp) hn rfl (Ext.refl w) (fun _ _ _ => rfl) hub (fun _ _ => Iff.rfl) ?_ ?_, by simp⟩
        · exact ⟨a, 0, by simp [upd], by simp, .inl ⟨rfl, rfl⟩⟩
        · intro b hb; cases a <;> simp [blkOf] at hb
      · have hlpos : 0 < l.length := List.length_pos_iff.2 h0
        have hold : (Builtin.firstCells i.size 0 (.slice a 0 0)).run E.P w.drew = .ok ([] : List Value).toArray w.drew := by
          cases a <;> simp [Builtin.firstCells, loadCells, loadCellsFrom]
        have hrun := run_append_grow_src (P := E.P) w t t' ty elem i z hu hinfo hz a 0 0 [] hold (.slice a' l.length cap') l.length _ hsrc (by omega) (by omega)
          (growslice_fits (by omega) (by have : (0 + l.length) * i.bytes ≤ 1073741824 * 131072 := Nat.mul_le_mul (by omega) hbytes; omega))
        have hge := grownCap_ge w (0 + l.length) 0 elem
        have hvec := grown_vec (w := w) (U := U) (ρ := ρ) (n := n) (e := e) (l0 := []) (l' := l) (elem := elem) (z := z) (newCap := grownCap w (0 + l.length) 0 elem) (f := fun _ _ => undef) (g := g) hn
          (by rw [hzc, hisz]) (by simpa using hge) (by omega) (by simpa using hmax) (by simp) hg
        have e0 : rowsV e.size ([] : List (Sem e)).length (fun _ _ => undef) = [] := by simp [rowsV]
        rw [e0] at hvec
        simp only [List.length_nil] at hvec
        rw [hisz] at hrun
        refine ⟨_, _, _, _, hrun, Ef.newVec (by simp) hn rfl ((Ext.drew w).trans (Ext.alloc w.drew _ _)) (fun b hb _ => heap_push_old w.drew _ b hb) ?_ ?_ hvec ?_, by simp⟩
        · intro b hb
          rw [heap_push_size]
          rcases hb with hb | hb
          · have := hub b hb; exact Nat.lt_succ_of_lt this
          · rw [hb]; exact Nat.lt_succ_self _
        · intro b hb
          exact ⟨fun h => h.elim (fun x => x) (fun e => by omega), .inl⟩
        · intro b hb
          simp [blkOf] at hb
          exact .inl (by omega)
    · simp at h
  · -- onto an own slice
    rename_i e id he
    obtain ⟨i, z, hinfo, hisz, hpos, hbytes, hz, hzc⟩ := hE.sh elem e he
    split at h
    · rename_i e' l0 hid
      split at h
      · rename_i hee
        subst hee
        split at h
        · rename_i l' hl
          simp at h
          obtain ⟨hmax, rfl⟩ := h
          have hidfp := hin1 id (by simp [AV.ids])
          cases hb with
          | vec _ _ hv hv1 =>
          have hob := hfp.ob id hidfp
          rw [hid] at hob
          obtain ⟨a', cap', g, rfl, hle, hg, hone, hnone, hcell⟩ := (asSl_read hl hx (fun id hid => hfp.ob id (hin2 id hid))).cells hpos
          have hsrc := Src.ofSlR (P := E.P) (w := w) (e := e') (cap := cap') hu' hone hnone hcell
          obtain ⟨a0, cap0, f0, rfl, hle0, hf0, hone0, hnone0, hcell0⟩ := (vec_read hob hv).cells hpos
          have hwr : ∀ id' o, (id', o) ∈ [(id, AO.dead)] → o = .dead := by intro id' o h; simp at h; exact h.2
          have hfpw : ∀ id' o, (id', o) ∈ [(id, AO.dead)] → id' ∈ fp := by intro id' o h; simp at h; rw [h.1]; exact hidfp
          by_cases hroom : l0.length + l'.length ≤ cap0
          · -- there is room
            obtain ⟨a1, c1, hv1', hm1, h3⟩ := hob
            rw [hv] at hv1'; cases hv1'
            rcases h3 with ⟨rfl, rfl⟩ | ⟨b, T, arr, rfl, hc, hUb, hbb, hsz, hle1, hrr⟩
            · have hl0 : l' = [] := by simpa using hroom
              subst hl0
              rw [← hisz] at hsrc
              refine ⟨.slice a0 0 0, w, U, _, none0 a0 i hinfo _ (hsrc.len w) (by simpa [rowsV] using hsrc.cells), Ef.newVec hwr hn rfl (Ext.refl w) (fun _ _ _ => rfl) hub (fun _ _ => Iff.rfl) ?_ ?_, hfpw⟩
              · exact ⟨a0, 0, by simp [upd], by simp, .inl ⟨by simp, rfl⟩⟩
              · intro b hb; cases a0 <;> simp [blkOf] at hb
            · have hnl := rowsV_length (size := e'.size) (n := l'.length) (vals := g)
              have hmul : (l0.length + l'.length) * e'.size ≤ cap0 * e'.size := Nat.mul_le_mul_right _ hroom
              rw [Nat.add_mul] at hmul
              have hrun := run_append_room_src (P := E.P) w t t' ty elem i hu hinfo b 0 l0.length cap0 (.slice a' l'.length cap') l'.length _ (by rw [hisz]; exact hsrc) hroom
                (fun j hj => by
                  have : 0 + l0.length * i.size + j < arr.size := by rw [hisz]; omega
                  simp only [World.cell?, hbb, Option.isSome_none, Bool.false_eq_true, if_false, Array.getElem?_eq_getElem this, Option.isSome_some])
                (fun j hj => by simp [World.frozen?, hbb])
              rw [hisz, Nat.zero_add] at hrun
              have hown : ownsB ρ id (hp id) b := ⟨by rw [hid]; rfl, _, hv, by simp [blkOf]; omega⟩
              have hk : ∀ b', b' < w.heap.size → ¬ U b' → (w.setCells b (l0.length * e'.size) (rowsV e'.size l'.length g)).heap[b']? = w.heap[b']? := fun b' _ hb' => heap_setCells_other _ _ _ _ _ (fun e => hb' (e ▸ hUb))
              have hs : w.heap.size ≤ (w.setCells b (l0.length * e'.size) (rowsV e'.size l'.length g)).heap.size := by rw [setCells_size]; exact Nat.le_refl _
              refine ⟨_, _, U, _, hrun, Ef.newVec hwr hn rfl (Ext.setCells _ w b _) ?_ ?_ (fun _ _ => Iff.rfl) ?_ ?_, hfpw⟩
              · intro b' _ hno
                exact heap_setCells_other _ _ _ _ _ (fun e => hno id _ (by simp; rfl) (e ▸ hown))
              · intro b' h'; rw [setCells_size]; exact hub b' h'
              · refine ⟨some ⟨b, 0, none⟩, cap0, by simp [upd], by simp; unfold maxStr; omega, .inr ⟨b, T, _, rfl, hc, hUb, heap_setCells _ w b _ hbb, by simp [setV_length, hsz], by simpa using hroom, ?_⟩⟩
                intro i' hi' j c hc'
                simp only [List.length_append] at hi'
                have hj : j < e'.size := by have := (List.getElem?_eq_some_iff.1 hc').1; rwa [explode_length] at this
                have hq : i' * e'.size + j < (l0.length + l'.length) * e'.size := by
                  have := Nat.mul_le_mul_right e'.size (Nat.succ_le_of_lt hi')
                  rw [Nat.succ_mul] at this
                  omega
                rw [Nat.add_mul] at hq
                simp only [List.getElem?_toArray]
                rw [setV_get]
                by_cases hlt : i' < l0.length
                · have hq2 : i' * e'.size + j < l0.length * e'.size := by
                    have := Nat.mul_le_mul_right e'.size (Nat.succ_le_of_lt hlt)
                    rw [Nat.succ_mul] at this
                    omega
                  rw [if_neg (by omega)]
                  rw [List.getElem_append_left hlt] at hc'
                  obtain ⟨x, h1, h2⟩ := hrr i' hlt j c hc'
                  exact ⟨x, by simpa using h1, h2.mono hs hk (fun _ _ h => h) (upd_old hn)⟩
                · have hge : l0.length * e'.size ≤ i' * e'.size := Nat.mul_le_mul_right _ (by omega)
                  rw [if_pos (by simp only [hnl, Array.length_toList]; omega)]
                  rw [List.getElem_append_right (by omega)] at hc'
                  refine ⟨g (i' - l0.length) j, ?_, (hg _ _ j c hc').mono hs hk (fun _ _ h => h) (upd_old hn)⟩
                  rw [show i' * e'.size + j - l0.length * e'.size = (i' - l0.length) * e'.size + j by rw [Nat.sub_mul]; omega]
                  exact rowsV_get (by omega) hj
              · intro b' hb'
                simp [blkOf] at hb'
                exact .inr ⟨id, _, by simp; rfl, by rw [← hb'.2]; exact hown⟩
          · -- it grows
            have hold : (Builtin.firstCells i.size l0.length (.slice a0 l0.length cap0)).run E.P w.drew = .ok (rowsV e'.size l0.length f0).toArray w.drew := by
              cases a0 with
              | none =>
                have := hnone0 rfl
                subst this
                simp [Builtin.firstCells, rowsV]
              | some ad =>
                exact run_firstCells_some w.drew i.size l0.length ad l0.length cap0 _ (by rw [rowsV_length, hisz]) (fun q x hq => by simpa using hcell0 ad rfl q x hq)
            have hrun := run_append_grow_src (P := E.P) w t t' ty elem i z hu hinfo hz a0 l0.length cap0 _ hold (.slice a' l'.length cap') l'.length _ (by rw [hisz]; exact hsrc) (by omega) (by omega)
              (growslice_fits (by omega) (by have : (l0.length + l'.length) * i.bytes ≤ 1073741824 * 131072 := Nat.mul_le_mul (by omega) hbytes; omega))
            have hge := grownCap_ge w (l0.length + l'.length) cap0 elem
            have hvec := grown_vec (w := w) (U := U) (ρ := ρ) (n := n) (e := e') (l0 := l0) (l' := l') (elem := elem) (z := z) (newCap := grownCap w (l0.length + l'.length) cap0 elem) (f := f0) (g := g) hn
              (by rw [hzc, hisz]) hge (by omega) hmax hf0 hg
            refine ⟨_, _, _, _, hrun, Ef.newVec hwr hn rfl ((Ext.drew w).trans (Ext.alloc w.drew _ _)) (fun b hb _ => heap_push_old w.drew _ b hb) ?_ ?_ hvec ?_, hfpw⟩
            · intro b hb
              rw [heap_push_size]
              rcases hb with hb | hb
              · have := hub b hb; exact Nat.lt_succ_of_lt this
              · rw [hb]; exact Nat.lt_succ_self _
            · intro b hb
              exact ⟨fun h => h.elim (fun x => x) (fun e => by omega), .inl⟩
            · intro b hb
              simp [blkOf] at hb
              exact .inl (by omega)
        · simp at h
      · simp at h
    · simp at h
  · simp at h

end
open Go
section
variable {P : Program} {w : World} {U : Nat → Prop} {ρ : Nat → Option Value}

theorem str_beq (a b : Str) : ((⟨a.toArray⟩ : ByteArray) == ⟨b.toArray⟩) = (a == b) := by
  show (a.toArray == b.toArray) = (a == b)
  simp

abbrev keysOf (es : List (Str × AV)) : List Value := es.map fun p => Value.string ⟨p.1.toArray⟩

theorem find_none : ∀ (es : List (Str × AV)) (ents : List MapEntry) (s : Str) (i : Nat), ents.map (·.key) = keysOf es → es.any (fun p => p.1 == s) = false →
    Instr.findNow .string (.string ⟨s.toArray⟩) ents i = some none
  | [], [], _, _, _, _ => rfl
  | [], _ :: _, _, _, h, _ => by simp at h
  | _ :: _, [], _, _, h, _ => by simp at h
  | p :: es, e :: ents, s, i, h, hn => by
    simp only [keysOf, List.map_cons, List.cons.injEq] at h
    simp only [List.any_cons, Bool.or_eq_false_iff] at hn
    have hne : (s == p.1) = false := by
      have := hn.1
      simp only [beq_eq_false_iff_ne, ne_eq] at this ⊢
      exact fun e => this e.symm
    simp only [Instr.findNow, h.1, Instr.sameNow, str_beq, hne]
    exact find_none es ents s (i + 1) h.2 hn.2

theorem find_look : ∀ (es : List (Str × AV)) (ents : List MapEntry) (s : Str) (i : Nat) (z : Tr Eff) (f : Eff), ents.map (·.key) = keysOf es → RvL w U ρ (es.map (·.2)) (ents.map (·.val)) → (lookT es s z).val = some f →
    (∃ j v av, Instr.findNow .string (.string ⟨s.toArray⟩) ents i = some (some (j, v)) ∧ Rv w U ρ av v ∧ f = { val := av }) ∨ (Instr.findNow .string (.string ⟨s.toArray⟩) ents i = some none ∧ z.val = some f)
  | [], [], _, _, _, _, _, _, hv => .inr ⟨rfl, hv⟩
  | [], _ :: _, _, _, _, _, h, _, _ => by simp at h
  | _ :: _, [], _, _, _, _, h, _, _ => by simp at h
  | p :: es, e :: ents, s, i, z, f, h, hr, hv => by
    simp only [keysOf, List.map_cons, List.cons.injEq] at h
    obtain ⟨k, av⟩ := p
    simp only [lookT, Tr.val] at hv
    simp only [Instr.findNow, h.1, Instr.sameNow, str_beq]
    cases hk : s == k with
    | true =>
      rw [hk] at hv
      simp [ret] at hv
      subst hv
      exact .inl ⟨i, e.val, av, rfl, hr.rv 0 av e.val rfl rfl, rfl⟩
    | false =>
      rw [hk] at hv
      simp at hv
      refine find_look es ents s (i + 1) z f h.2 ⟨by have := hr.len; simpa using this, fun j c v hc hv' => hr.rv (j + 1) c v (by simpa using hc) (by simpa using hv')⟩ hv

theorem Ext.allocO (w : World) (o : Obj) : Ext w (w.alloc o) where
  sz := by rw [heap_push_size]; omega
  os := rfl
  out := rfl
  tape := rfl
  fr := fun a h => World.frozen?_of_block (heap_push_old w _ _ h)

theorem Ef.mkMap {n : Nat} {hp : Nat → AO} {o0 : AO} (ho0 : o0 = .fmap [] ∨ ∃ u, o0 = .vmap u []) (hub : ∀ b, U b → b < w.heap.size) (hn : ρ n = none) :
    Ef n hp { val := .mp n, nw := [o0] } w U ρ (.map (some w.heap.size)) (w.alloc (.map #[] 0)) (fun b => U b ∨ b = w.heap.size) (upd ρ n (.map (some w.heap.size))) := by
  have hu : ∀ b, b < w.heap.size → (U b ∨ b = w.heap.size) → U b := fun b hb h => h.elim id (fun e => by omega)
  refine ⟨Ext.allocO w _, .mp n _ (by simp [upd]) rfl, by simp, ?_, ?_, upd_old hn, fun b hb _ => heap_push_old w _ b hb, ?_, fun b hb h => hu b hb h, fun b _ h _ => .inl h, ?_, ?_⟩
  · intro j o hj
    cases j with
    | succ j => simp at hj
    | zero =>
      simp at hj; subst hj
      rcases ho0 with rfl | ⟨u, rfl⟩
      · exact ⟨w.heap.size, #[], 0, by simp [upd], .inr rfl, heap_push_new w _, ⟨rfl, by simp⟩, rfl⟩
      · exact ⟨w.heap.size, #[], 0, by simp [upd], .inr rfl, heap_push_new w _, rfl, by simp, rfl, by simp⟩
  · intro id h
    unfold upd
    rw [if_neg (by simp at h; omega)]
  · intro b h
    rw [heap_push_size]
    rcases h with h | h
    · have := hub b h; omega
    · omega
  · rintro id o b (h | ⟨h1, h2⟩) ho
    · simp at h
    · have e1 : id - n < 1 := by have := (List.getElem?_eq_some_iff.1 h2).1; simpa using this
      have hid : id = n := by omega
      subst hid
      obtain ⟨_, v, hv, hb⟩ := ho
      simp [upd] at hv; subst hv
      simp [blkOf] at hb
      exact .inl (by omega)
  · rintro id1 o1 id2 o2 b (h | ⟨h1, h2⟩) (h' | ⟨h1', h2'⟩) _ _
    · simp at h
    · simp at h
    · simp at h'
    · have e1 : id1 - n < 1 := by have := (List.getElem?_eq_some_iff.1 h2).1; simpa using this
      have e2 : id2 - n < 1 := by have := (List.getElem?_eq_some_iff.1 h2').1; simpa using this
      omega

/-! Keys that are values. -/

def kav (k : Int × Int × Str) : AV := .agg [.int .i64 k.1, .int .i64 k.2.1, .str k.2.2]

theorem vkey_eq {a : AV} {k : Int × Int × Str} (h : vkey a = some k) : a = kav k := by
  unfold vkey at h
  split at h
  · cases h; rfl
  · cases h

theorem kav_rv {k : Int × Int × Str} {v : Value} (h : Rv w U ρ (kav k) v) : v = encV k ∧ KeyOk k := by
  unfold kav at h
  cases h with
  | agg _ vs hl h1 hr =>
  match vs, hl, hr with
  | [v1, v2, v3], _, hr =>
    have e1 := hr 0 _ v1 rfl rfl
    have e2 := hr 1 _ v2 rfl rfl
    have e3 := hr 2 _ v3 rfl rfl
    cases e1 with
    | int _ _ q1 =>
    cases e2 with
    | int _ _ q2 =>
    cases e3 with
    | str _ q3 =>
    exact ⟨rfl, q1, q2, q3⟩

theorem rv_kav {k : Int × Int × Str} (h : KeyOk k) : Rv w U ρ (kav k) (encV k) := by
  refine .agg _ [.int .i64 k.1, .int .i64 k.2.1, .string ⟨k.2.2.toArray⟩] rfl (by simp [Value.oneCell']) ?_
  intro j c v hc hv
  match j, hc, hv with
  | 0, hc, hv => cases hc; cases hv; exact .int _ _ h.1
  | 1, hc, hv => cases hc; cases hv; exact .int _ _ h.2.1
  | 2, hc, hv => cases hc; cases hv; exact .str _ h.2.2

theorem vKeyT_eq {kt : TypeId} (h : vKeyT P kt = true) (a b : Int × Int × Str) : eqA P kt (kav a) (kav b) = some (a == b) := by
  unfold vKeyT at h
  split at h
  · rename_i fs hu
    simp only [Bool.and_eq_true] at h
    obtain ⟨⟨h1, h2⟩, h3⟩ := h
    split at h3
    · rename_i f1 f2 f3 hfs
      simp only [Bool.and_eq_true, beq_iff_eq, isIntT, isStrT] at h3
      obtain ⟨⟨⟨⟨n1, o1⟩, t1⟩, ⟨⟨n2, o2⟩, t2⟩⟩, ⟨⟨n3, o3⟩, t3⟩⟩ := h3
      split at t1
      · rename_i k1 u1
        split at t2
        · rename_i k2 u2
          split at t3
          · rename_i u3
            simp only [kav, eqA, hu, h1, h2, hfs, eqFs, n1, o1, n2, o2, n3, o3, eqT, u1, u2, u3, beq_self_eq_true, Bool.and_self, if_true, Bool.and_true]
            rfl
          · cases t3
        · cases t2
      · cases t1
    · cases h3
  · cases h

theorem run_equal_v {kt : TypeId} (h : vKeyT P kt = true) {a b : Int × Int × Str} (ha : KeyOk a) (hb : KeyOk b) : (Op.equal kt (encV a) (encV b)).run P w = .ok (a == b) w :=
  (eqA_ok (U := fun _ => False) (ρ := fun _ => none) (vKeyT_eq h a b) (rv_kav ha) (rv_kav hb) (by intro _ _ _ _ h; cases h) (by intro _ _ h; cases h)).1

theorem run_checkKey_v {kt : TypeId} (h : vKeyT P kt = true) (k : Int × Int × Str) (em : Bool) : (Instr.checkKey em 10000 kt (encV k)).run P w = .ok () w := by
  unfold vKeyT at h
  split at h
  · rename_i fs hu
    simp only [Bool.and_eq_true] at h
    obtain ⟨⟨h1, h2⟩, h3⟩ := h
    split at h3
    · rename_i f1 f2 f3 hfs
      simp only [Bool.and_eq_true, beq_iff_eq, isIntT, isStrT] at h3
      obtain ⟨⟨⟨⟨n1, o1⟩, t1⟩, ⟨⟨n2, o2⟩, t2⟩⟩, ⟨⟨n3, o3⟩, t3⟩⟩ := h3
      split at t1
      · rename_i k1 u1
        split at t2
        · rename_i k2 u2
          split at t3
          · rename_i u3
            have e : fs = #[f1, f2, f3] := by apply Array.ext'; simpa using hfs
            subst e
            have a1 : tagg P f1.type = some false := by simp [tagg, u1]
            have a2 : tagg P f2.type = some false := by simp [tagg, u2]
            have a3 : tagg P f3.type = some false := by simp [tagg, u3]
            show (Instr.checkKey em (9999 + 1) kt (encV k)).run P w = _
            rw [Instr.checkKey.eq_2]
            have p1 : (part f1.type #[Value.int .i64 k.1, .int .i64 k.2.1, .string ⟨k.2.2.toArray⟩] f1.offset).run P w = .ok (.int .i64 k.1) w := by simp [part, run_tagg a1, o1]
            have p2 : (part f2.type #[Value.int .i64 k.1, .int .i64 k.2.1, .string ⟨k.2.2.toArray⟩] f2.offset).run P w = .ok (.int .i64 k.2.1) w := by simp [part, run_tagg a2, o2]
            have p3 : (part f3.type #[Value.int .i64 k.1, .int .i64 k.2.1, .string ⟨k.2.2.toArray⟩] f3.offset).run P w = .ok (.string ⟨k.2.2.toArray⟩) w := by simp [part, run_tagg a3, o3]
            have c1 : (Instr.checkKey em (9998 + 1) f1.type (.int .i64 k.1)).run P w = .ok () w := by
              rw [Instr.checkKey.eq_2]; simp [run_underlying u1, Result.andThen]
            have c2 : (Instr.checkKey em (9998 + 1) f2.type (.int .i64 k.2.1)).run P w = .ok () w := by
              rw [Instr.checkKey.eq_2]; simp [run_underlying u2, Result.andThen]
            have c3 : (Instr.checkKey em (9998 + 1) f3.type (.string ⟨k.2.2.toArray⟩)).run P w = .ok () w := by
              rw [Instr.checkKey.eq_2]; simp [run_underlying u3, Result.andThen]
            have m1 : f1.name ≠ "_" := by simpa using n1
            have m2 : f2.name ≠ "_" := by simpa using n2
            have m3 : f3.name ≠ "_" := by simpa using n3
            simp [encV, run_underlying hu, Result.andThen, p1, p2, p3, c1, c2, c3, m1, m2, m3]
          · cases t3
        · cases t2
      · cases t1
    · cases h3
  · cases h

def vfindI (es : List ((Int × Int × Str) × Int)) (k : Int × Int × Str) (i : Nat) : Option (Nat × Int) := match es with
  | [] => none
  | p :: r => bif k == p.1 then some (i, p.2) else vfindI r k (i + 1)

abbrev encE (u : Bool) (es : List ((Int × Int × Str) × Int)) : List (Value × Value) := es.map fun p => (encV p.1, encU u p.2)

theorem run_findAsking_v {kt : TypeId} (h : vKeyT P kt = true) {k : Int × Int × Str} (hk : KeyOk k) (u : Bool) : ∀ (es : List ((Int × Int × Str) × Int)) (ents : List MapEntry) (i : Nat), (ents.map fun e => (e.key, e.val)) = encE u es → (∀ p ∈ es, IntOk .i64 p.2 ∧ KeyOk p.1) →
    (Instr.findAsking kt (encV k) ents i).run P w = .ok ((vfindI es k i).map fun q => (q.1, encU u q.2)) w
  | [], [], _, _, _ => by simp [Instr.findAsking, vfindI]
  | [], _ :: _, _, h, _ => by simp at h
  | _ :: _, [], _, h, _ => by simp at h
  | p :: es, e :: ents, i, he, ho => by
    simp only [encE, List.map_cons, List.cons.injEq, Prod.mk.injEq] at he
    obtain ⟨⟨e1, e2⟩, e3⟩ := he
    have hp := ho p (List.mem_cons_self ..)
    have ih := run_findAsking_v h hk u es ents (i + 1) e3 (fun q hq => ho q (List.mem_cons_of_mem _ hq))
    simp only [Instr.findAsking, e1, Sem.run_bind, run_equal_v h hk hp.2, Result.andThen_ok, vfindI]
    cases hq : k == p.1
    · simpa using ih
    · simp [e2]

theorem run_findKey_v {kt : TypeId} (h : vKeyT P kt = true) {k : Int × Int × Str} (hk : KeyOk k) (u : Bool) (es : List ((Int × Int × Str) × Int)) (ents : List MapEntry) (he : (ents.map fun e => (e.key, e.val)) = encE u es) (ho : ∀ p ∈ es, IntOk .i64 p.2 ∧ KeyOk p.1) :
    (Instr.findKey kt (encV k) ents).run P w = .ok ((vfindI es k 0).map fun q => (q.1, encU u q.2)) w := by
  have hu : ∃ fs, P.underlying kt = some (.struct fs) := by
    unfold vKeyT at h
    split at h
    · rename_i fs hu; exact ⟨fs, hu⟩
    · cases h
  obtain ⟨fs, hu⟩ := hu
  have hf := run_findAsking_v (w := w) h hk u es ents 0 he ho
  cases ents with
  | nil =>
    cases es with
    | nil => simp [Instr.findKey, run_underlying hu, Result.andThen, Instr.findNow, vfindI]
    | cons p r => simp at he
  | cons e r =>
    have hs : Instr.findNow (.struct fs) (encV k) (e :: r) 0 = none := by
      simp only [Instr.findNow]
      have : Instr.sameNow (.struct fs) (encV k) e.key = none := by simp [Instr.sameNow]
      rw [this]
    simp only [Instr.findKey, Sem.run_bind, run_underlying hu, Result.andThen_ok, hs]
    exact hf

theorem vfind_none : ∀ {es : List ((Int × Int × Str) × Int)} {k : Int × Int × Str} {i : Nat}, vfindI es k i = none → vhas es k = false ∧ vget es k = 0 ∧ ∀ x, vput es k x = es ++ [(k, x)]
  | [], _, _, _ => ⟨rfl, rfl, fun _ => rfl⟩
  | p :: r, k, i, h => by
    unfold vfindI at h
    cases hq : k == p.1
    · rw [hq] at h
      obtain ⟨h1, h2, h3⟩ := vfind_none (i := i + 1) (by simpa using h)
      refine ⟨by simpa [vhas, hq] using h1, by simpa [vget, hq] using h2, fun x => ?_⟩
      rw [vput, hq, h3]
      rfl
    · rw [hq] at h; cases h

theorem vfind_some : ∀ {es : List ((Int × Int × Str) × Int)} {k : Int × Int × Str} {i j : Nat} {n : Int}, vfindI es k i = some (j, n) → i ≤ j ∧ vhas es k = true ∧ vget es k = n ∧ (∃ p, es[j - i]? = some p ∧ p.1 = k ∧ p.2 = n) ∧ ∀ x, vput es k x = es.set (j - i) (k, x)
  | [], _, _, _, _, h => by cases h
  | p :: r, k, i, j, n, h => by
    unfold vfindI at h
    cases hq : k == p.1
    · rw [hq] at h
      obtain ⟨h0, h1, h2, ⟨q, h4, h5⟩, h3⟩ := vfind_some (i := i + 1) (by simpa using h)
      have e : j - i = (j - (i + 1)) + 1 := by omega
      refine ⟨by omega, by simpa [vhas] using .inr (by simpa [vhas] using h1), by simpa [vget, hq] using h2, ⟨q, by rw [e]; simpa using h4, h5⟩, fun x => ?_⟩
      rw [vput, hq, h3, e]
      rfl
    · rw [hq] at h
      simp only [cond_true, Option.some.injEq, Prod.mk.injEq] at h
      obtain ⟨rfl, rfl⟩ := h
      have hk : k = p.1 := by simpa using hq
      refine ⟨Nat.le_refl _, by simp [vhas, hq], by simp [vget, hq], ⟨p, by simp, hk.symm, rfl⟩, fun x => ?_⟩
      rw [vput, hq]
      simp

theorem sameBits_encV (k : Int × Int × Str) : Instr.sameBits 10000 (encV k) (encV k) = true := by
  show Instr.sameBits (9999 + 1) (encV k) (encV k) = true
  simp [encV, Instr.sameBits, str_beq]

theorem Ef.setMap {n : Nat} {hp : Nat → AO} {id r : Nat} {ents ents' : Array MapEntry} {clock clock' : Nat} {o' : AO} (h1 : ρ id = some (.map (some r))) (_ : U r) (h3 : w.heap[r]? = some (.map ents clock)) (hown : (hp id).owns = true)
    (hok : objOk { w with heap := w.heap.setIfInBounds r (.map ents' clock') } U ρ id o') (hub : ∀ b, U b → b < w.heap.size) {rv : AV} {vv : Value} (hrv : Rv { w with heap := w.heap.setIfInBounds r (.map ents' clock') } U ρ rv vv) :
    Ef n hp { val := rv, wr := [(id, o')] } w U ρ vv { w with heap := w.heap.setIfInBounds r (.map ents' clock') } U ρ := by
  obtain ⟨e1, e2⟩ := MapKept.heap_set (o' := Obj.map ents' clock') h3
  have hrlt : r < w.heap.size := (Array.getElem?_eq_some_iff.1 h3).1
  have hown' : ownsB ρ id (hp id) r := ⟨hown, _, h1, rfl⟩
  refine ⟨⟨by simp, rfl, rfl, rfl, ?_⟩, hrv, ?_, by simp, fun _ _ => rfl, fun _ _ h => h, ?_, ?_, fun _ _ h => h, fun _ _ h _ => h, ?_, ?_⟩
  · intro a _
    by_cases hab : a.block = r
    · unfold World.frozen?
      simp only [hab, e1, h3]
    · exact World.frozen?_of_block (e2 a.block hab)
  · intro id' o'' h'
    simp only [List.mem_singleton, Prod.mk.injEq] at h'
    obtain ⟨rfl, rfl⟩ := h'
    exact hok
  · intro b _ hno
    by_cases hbr : b = r
    · exfalso
      exact hno id o' (List.mem_singleton.2 rfl) (hbr ▸ hown')
    · exact e2 b hbr
  · intro b hb
    have := hub b hb
    simpa using this
  · rintro id' o'' b (h' | ⟨_, h'⟩) ho'
    · simp only [List.mem_singleton, Prod.mk.injEq] at h'
      obtain ⟨rfl, rfl⟩ := h'
      refine .inr ⟨id', _, List.mem_singleton.2 rfl, ?_⟩
      obtain ⟨_, v, hv, hb⟩ := ho'
      exact ⟨hown, v, hv, hb⟩
    · simp at h'
  · rintro id1 o1 id2 o2 b (h' | ⟨_, h'⟩) (h'' | ⟨_, h''⟩) _ _
    · simp only [List.mem_singleton, Prod.mk.injEq] at h' h''
      rw [h'.1, h''.1]
    · simp at h''
    · simp at h'
    · simp at h'

theorem vval_rv {u : Bool} {a : AV} {n : Int} {v : Value} (h : vval u a = some n) (hr : Rv w U ρ a v) : v = encU u n ∧ IntOk .i64 n := by
  unfold vval at h
  split at h
  · cases h
    cases hr with
    | int _ _ h1 => exact ⟨rfl, h1⟩
  · cases h
    cases hr with
    | agg _ vs hl h1 hr =>
    match vs, hl with
    | [], _ => exact ⟨rfl, by unfold IntOk; decide⟩
  · cases h

theorem StampOk.push {ents : Array MapEntry} {clock : Nat} (h : StampOk ents clock) (k v : Value) : StampOk (ents.push { key := k, val := v, born := clock }) (clock + 1) := by
  refine ⟨by simp [h.1], fun i e he => ?_⟩
  rw [Array.getElem?_push] at he
  split at he
  · rename_i hi
    cases he
    rw [hi]; exact h.1
  · exact h.2 i e he

theorem StampOk.modify {ents : Array MapEntry} {clock : Nat} (h : StampOk ents clock) (j : Nat) (f : MapEntry → MapEntry) (hf : ∀ e, (f e).born = e.born) : StampOk (ents.modify j f) clock := by
  refine ⟨by simp [h.1], fun i e he => ?_⟩
  rw [Array.getElem?_modify] at he
  split at he
  · cases hx : ents[i]? with
    | none => rw [hx] at he; simp at he
    | some e0 =>
      rw [hx] at he
      simp at he
      subst he
      rw [hf]; exact h.2 i e0 hx
  · exact h.2 i e he

theorem evInsert_ok {n : Nat} {hp : Nat → AO} {t : TypeId} {am ak ax : AV} {vm vk vx : Value} {f : Eff} {fp : List Nat} (h : (evInsert P hp t am ak ax).val = some f)
    (hm : Rv w U ρ am vm) (hk : Rv w U ρ ak vk) (hx : Rv w U ρ ax vx) (hub : ∀ b, U b → b < w.heap.size) (hfp : FpOk w U ρ hp fp) (hin : ∀ id ∈ am.ids, id ∈ fp) :
    ∃ w', (Instr.mapUpdate t vm vk vx).run P w = .ok () w' ∧ Ef n hp f w U ρ undef w' U ρ ∧ ∀ id o, (id, o) ∈ f.wr → id ∈ fp := by
  unfold evInsert at h
  split at h
  · rename_i kt et ht
    split at h
    · rename_i hkt
      split at h
      · rename_i id s
        have hid := hin id (by simp [AV.ids])
        have ho := hfp.ob id hid
        split at h
        · rename_i es hes
          simp only [Tr.val] at h
          split at h
          · rename_i hnone
            simp only [Bool.not_eq_true'] at hnone
            simp only [Option.some.injEq] at h
            subst h
            rw [hes] at ho
            obtain ⟨r, ents, clock, h1, h2, h3, h4, h5⟩ := ho
            cases hm with
            | mp _ _ hv _ =>
            rw [h1] at hv; cases hv
            cases hk with
            | str _ hs =>
            have hf := find_none es ents.toList s 0 h5 hnone
            obtain ⟨e1, e2⟩ := MapKept.heap_set (o' := Obj.map (ents.push { key := .string ⟨s.toArray⟩, val := vx, born := clock }) (clock + 1)) h3
            have hrlt : r < w.heap.size := (Array.getElem?_eq_some_iff.1 h3).1
            have hown : ownsB ρ id (hp id) r := ⟨by rw [hes]; rfl, _, h1, rfl⟩
            have hkk : ∀ b', b' < w.heap.size → ¬ U b' → (w.heap.setIfInBounds r (Obj.map (ents.push { key := .string ⟨s.toArray⟩, val := vx, born := clock }) (clock + 1)))[b']? = w.heap[b']? := fun b' _ hb' => e2 b' (fun e => hb' (e ▸ h2))
            refine ⟨{ w with heap := w.heap.setIfInBounds r (.map (ents.push { key := .string ⟨s.toArray⟩, val := vx, born := clock }) (clock + 1)) }, ?_, ?_, ?_⟩
            · simp [Instr.mapUpdate, run_underlying ht, MapKept.run_getObj_map h3, MapKept.run_checkKey hkt (k := .string ⟨s.toArray⟩) trivial, MapKept.run_findKey hkt hf, MapKept.run_setObj_map _ h3, Result.andThen]
            · refine ⟨⟨by simp, rfl, rfl, rfl, ?_⟩, .tup [] [] rfl (by simp), ?_, by simp, fun _ _ => rfl, fun _ _ h => h, ?_, ?_, fun _ _ h => h, fun _ _ h _ => h, ?_, ?_⟩
              · intro a _
                by_cases hab : a.block = r
                · unfold World.frozen?
                  simp only [hab, e1, h3]
                · exact World.frozen?_of_block (e2 a.block hab)
              · intro id' o' h'
                simp only [List.mem_singleton, Prod.mk.injEq] at h'
                obtain ⟨rfl, rfl⟩ := h'
                refine ⟨r, _, _, h1, h2, e1, ?_, ?_⟩
                · have hm1 : RvL { w with heap := w.heap.setIfInBounds r (.map (ents.push { key := .string ⟨s.toArray⟩, val := vx, born := clock }) (clock + 1)) } U ρ (es.map (·.2)) (ents.toList.map (·.val)) :=
                    h4.mono (by simp) hkk (fun _ _ h => h) (fun _ _ h => h)
                  have hx1 : Rv { w with heap := w.heap.setIfInBounds r (.map (ents.push { key := .string ⟨s.toArray⟩, val := vx, born := clock }) (clock + 1)) } U ρ ax vx :=
                    hx.mono (by simp) hkk (fun _ _ h => h) (fun _ _ h => h)
                  refine ⟨by have := hm1.len; simp at this ⊢; exact this, fun j c v hc hv => ?_⟩
                  simp only [List.map_append, List.map_cons, List.map_nil, Array.toList_push] at hc hv
                  by_cases hj : j < (es.map (·.2)).length
                  · rw [List.getElem?_append_left hj] at hc
                    rw [List.getElem?_append_left (by rw [← hm1.len]; exact hj)] at hv
                    exact hm1.rv j c v hc hv
                  · rw [List.getElem?_append_right (by omega)] at hc
                    rw [List.getElem?_append_right (by rw [← hm1.len]; omega), ← hm1.len] at hv
                    cases hj0 : j - (es.map (·.2)).length with
                    | zero =>
                      rw [hj0] at hc hv
                      simp at hc hv
                      subst hc; subst hv
                      exact hx1
                    | succ q => rw [hj0] at hc; simp at hc
                · simp only [Array.toList_push, List.map_append, h5, List.map_cons, List.map_nil]
              · intro b _ hno
                exact e2 b (fun e => hno id (.fmap (es ++ [(s, ax)])) (List.mem_singleton.2 rfl) (e ▸ hown))
              · intro b hb
                have := hub b hb
                simpa using this
              · rintro id' o' b (h' | ⟨_, h'⟩) ho'
                · simp only [List.mem_singleton, Prod.mk.injEq] at h'
                  obtain ⟨rfl, rfl⟩ := h'
                  refine .inr ⟨id', _, List.mem_singleton.2 rfl, ?_⟩
                  obtain ⟨_, v, hv, hb⟩ := ho'
                  exact ⟨by rw [hes]; rfl, v, hv, hb⟩
                · simp at h'
              · rintro id1 o1 id2 o2 b (h' | ⟨_, h'⟩) (h'' | ⟨_, h''⟩) _ _
                · simp only [List.mem_singleton, Prod.mk.injEq] at h' h''
                  rw [h'.1, h''.1]
                · simp at h''
                · simp at h'
                · simp at h'
            · intro id' o' h'
              simp only [List.mem_singleton, Prod.mk.injEq] at h'
              rw [h'.1]; exact hid
          · cases h
        · simp at h
      · simp at h
    · split at h
      · rename_i hvk
        split at h
        · rename_i id v hvk2
          have hid := hin id (by simp [AV.ids])
          have ho := hfp.ob id hid
          split at h
          · rename_i u es hes
            split at h
            · rename_i nn hnn
              simp only [Tr.val_ok, Option.some.injEq] at h
              subst h
              rw [hes] at ho
              obtain ⟨r, ents, clock, h1, h2, h3, h4, h5⟩ := ho
              cases hm with
              | mp _ _ hv _ =>
              rw [h1] at hv; cases hv
              rw [vkey_eq hvk2] at hk
              obtain ⟨rfl, hko⟩ := kav_rv hk
              obtain ⟨rfl, hno⟩ := vval_rv hnn hx
              have hfk := run_findKey_v (w := w) hvk hko u es ents.toList h4 h5.1
              have hown : (hp id).owns = true := by rw [hes]; rfl
              have hwrs : ∀ id' o', (id', o') ∈ [(id, AO.vmap u (vput es v nn))] → id' ∈ fp := by
                intro id' o' h'
                simp only [List.mem_singleton, Prod.mk.injEq] at h'
                rw [h'.1]; exact hid
              cases hfi : vfindI es v 0 with
              | none =>
                rw [hfi] at hfk
                obtain ⟨_, _, hput⟩ := vfind_none hfi
                refine ⟨{ w with heap := w.heap.setIfInBounds r (.map (ents.push { key := encV v, val := encU u nn, born := clock }) (clock + 1)) }, ?_, ?_, hwrs⟩
                · simp [Instr.mapUpdate, run_underlying ht, MapKept.run_getObj_map h3, run_checkKey_v hvk, hfk, MapKept.run_setObj_map _ h3, Result.andThen]
                · refine Ef.setMap h1 h2 h3 hown ?_ hub (.tup [] [] rfl (by simp))
                  refine ⟨r, _, _, h1, h2, (MapKept.heap_set h3).1, ?_, ?_, h5.2.push _ _⟩
                  · rw [hput]
                    simp only [Array.toList_push, List.map_append, h4, List.map_cons, List.map_nil]
                  · rw [hput]
                    intro p hp
                    rcases List.mem_append.1 hp with hp | hp
                    · exact h5.1 p hp
                    · simp at hp; subst hp; exact ⟨hno, hko⟩
              | some q =>
                obtain ⟨j, m⟩ := q
                rw [hfi] at hfk
                obtain ⟨_, _, _, ⟨p, hpj, hpk, hpn⟩, hput⟩ := vfind_some hfi
                rw [Nat.sub_zero] at hpj hput
                have hent : ∃ e, ents.toList[j]? = some e ∧ e.key = encV v := by
                  have : (ents.toList.map fun e => (e.key, e.val))[j]? = some (encV p.1, encU u p.2) := by
                    rw [h4]; simp [hpj]
                  rw [List.getElem?_map, Option.map_eq_some_iff] at this
                  obtain ⟨e, he1, he2⟩ := this
                  simp only [Prod.mk.injEq] at he2
                  exact ⟨e, he1, by rw [he2.1, hpk]⟩
                obtain ⟨e, he1, he2⟩ := hent
                have he3 : ents[j]? = some e := by rw [← Array.getElem?_toList]; exact he1
                refine ⟨{ w with heap := w.heap.setIfInBounds r (.map (ents.modify j fun e => { e with key := encV v, val := encU u nn }) clock) }, ?_, ?_, hwrs⟩
                · have hst : (Instr.keyThatStays (encV v) (encV v)).run P w = .ok (encV v) w := by
                    simp [Instr.keyThatStays, sameBits_encV]
                  simp [Instr.mapUpdate, run_underlying ht, MapKept.run_getObj_map h3, run_checkKey_v hvk, hfk, he3, he2, hst, MapKept.run_setObj_map _ h3, Result.andThen]
                · refine Ef.setMap h1 h2 h3 hown ?_ hub (.tup [] [] rfl (by simp))
                  refine ⟨r, _, _, h1, h2, (MapKept.heap_set h3).1, ?_, ?_, h5.2.modify _ _ (fun _ => rfl)⟩
                  · rw [hput]
                    apply List.ext_getElem?
                    intro q
                    have h4q : (ents.toList.map fun e => (e.key, e.val))[q]? = (encE u es)[q]? := by rw [h4]
                    simp only [List.getElem?_map, Array.getElem?_toList, Array.getElem?_modify, List.getElem?_set, encE] at h4q ⊢
                    by_cases hq : j = q
                    · subst hq
                      have hjl : j < es.length := (List.getElem?_eq_some_iff.1 hpj).1
                      simp [he3, hjl]
                    · simp only [hq, if_false]
                      rw [h4q]
                  · rw [hput]
                    intro p' hp'
                    rcases List.mem_or_eq_of_mem_set hp' with hp' | rfl
                    · exact h5.1 p' hp'
                    · exact ⟨hno, hko⟩
            · simp at h
          · simp at h
        · simp at h
      · simp at h
    · simp at h
  · simp at h

theorem find_look2 : ∀ (es : List (Str × AV)) (ents : List MapEntry) (s : Str) (i : Nat) (z : Tr Eff) (f : Eff), ents.map (·.key) = keysOf es → RvL w U ρ (es.map (·.2)) (ents.map (·.val)) → (lookT2 es s z).val = some f →
    (∃ j v av, Instr.findNow .string (.string ⟨s.toArray⟩) ents i = some (some (j, v)) ∧ Rv w U ρ av v ∧ f = { val := .tup [av, .kb true] }) ∨ (Instr.findNow .string (.string ⟨s.toArray⟩) ents i = some none ∧ z.val = some f)
  | [], [], _, _, _, _, _, _, hv => .inr ⟨rfl, hv⟩
  | [], _ :: _, _, _, _, _, h, _, _ => by simp at h
  | _ :: _, [], _, _, _, _, h, _, _ => by simp at h
  | p :: es, e :: ents, s, i, z, f, h, hr, hv => by
    simp only [keysOf, List.map_cons, List.cons.injEq] at h
    obtain ⟨k, av⟩ := p
    simp only [lookT2, Tr.val] at hv
    simp only [Instr.findNow, h.1, Instr.sameNow, str_beq]
    cases hk : s == k with
    | true =>
      rw [hk] at hv
      simp [ret] at hv
      subst hv
      exact .inl ⟨i, e.val, av, rfl, hr.rv 0 av e.val rfl rfl, rfl⟩
    | false =>
      rw [hk] at hv
      simp at hv
      refine find_look2 es ents s (i + 1) z f h.2 ⟨by have := hr.len; simpa using this, fun j c v hc hv' => hr.rv (j + 1) c v (by simpa using hc) (by simpa using hv')⟩ hv

theorem rv_pair {a b : AV} {x y : Value} (ha : Rv w U ρ a x) (hb : Rv w U ρ b y) : Rv w U ρ (.tup [a, b]) (.tuple #[x, y]) := by
  refine .tup _ [x, y] rfl ?_
  intro j c v hc hv
  match j, hc, hv with
  | 0, hc, hv => cases hc; cases hv; exact ha
  | 1, hc, hv => cases hc; cases hv; exact hb

theorem tzero_ok {et : TypeId} {z : AV} (hz : tzero P et = some z) : ∃ i zv, P.info? et = some i ∧ i.zero = some zv ∧ z = absV zv := by
  unfold tzero at hz
  split at hz
  · rename_i i hinfo
    simp only [Option.map_eq_some_iff] at hz
    obtain ⟨zv, hz1, rfl⟩ := hz
    exact ⟨i, zv, hinfo, hz1, rfl⟩
  · cases hz

theorem absS_int {zv : Value} {k : IntKind} {n : Int} (h : absS zv = .int k n) : zv = .int k n := by
  unfold absS at h
  split at h
  case h_2 k' n' =>
    split at h
    · simp at h; obtain ⟨rfl, rfl⟩ := h; rfl
    · cases h
  case h_3 => split at h <;> cases h
  all_goals cases h

theorem absV_int {zv : Value} {k : IntKind} {n : Int} (h : absV zv = .int k n) : zv = .int k n := by
  unfold absV at h
  split at h
  · split at h <;> cases h
  · exact absS_int h

theorem absV_agg0 {zv : Value} {cs : List AV} (h : absV zv = .agg cs) (h0 : cs.isEmpty = true) : zv = .agg #[] := by
  unfold absV at h
  split at h
  · rename_i cs'
    split at h
    · simp at h
      subst h
      simp at h0
      rw [h0]
    · cases h
  · unfold absS at h
    split at h
    case h_2 => split at h <;> cases h
    case h_3 => split at h <;> cases h
    all_goals cases h

theorem evLookup_ok {hp : Nat → AO} {t : TypeId} {ax ai : AV} {vx vi : Value} {two : Bool} {f : Eff} (h : (evLookup P hp t ax ai two).val = some f) (hx : Rv w U ρ ax vx) (hi : Rv w U ρ ai vi) (hob : ∀ id ∈ ax.ids, objOk w U ρ id (hp id)) :
    ∃ r v, f = { val := r } ∧ (Instr.lookup t vx vi two).run P w = .ok v w ∧ Rv w U ρ r v := by
  unfold evLookup at h
  split at h
  · rename_i kt et ht
    split at h
    · rename_i hkt
      split at h
      · rename_i id s
        have ho := hob id (by simp [AV.ids])
        split at h
        · rename_i es hes
          rw [hes] at ho
          obtain ⟨r, ents, clock, h1, h2, h3, h4, h5⟩ := ho
          cases hx with
          | mp _ _ hv _ =>
          rw [h1] at hv; cases hv
          cases hi with
          | str _ hs =>
          cases two with
          | false =>
            simp only [Bool.false_eq_true, if_false] at h
            rcases find_look es ents.toList s 0 _ f h5 h4 h with ⟨j, v, av, hf, hr, rfl⟩ | ⟨hf, hz⟩
            · refine ⟨av, v, rfl, ?_, hr⟩
              simp [Instr.lookup, run_underlying ht, MapKept.run_getObj_map h3, MapKept.run_checkKey hkt (k := .string ⟨s.toArray⟩) trivial, MapKept.run_findKey hkt hf, Result.andThen]
            · simp at hz
              obtain ⟨z, hz, rfl⟩ := hz
              obtain ⟨i, zv, hinfo, hz1, rfl⟩ := tzero_ok hz
              refine ⟨_, zv, rfl, ?_, absV_ok zv⟩
              simp [Instr.lookup, run_underlying ht, MapKept.run_getObj_map h3, MapKept.run_checkKey hkt (k := .string ⟨s.toArray⟩) trivial, MapKept.run_findKey hkt hf, Result.andThen, zeroValue, typeInfo, hinfo, hz1]
          | true =>
            simp only [if_true] at h
            rcases find_look2 es ents.toList s 0 _ f h5 h4 h with ⟨j, v, av, hf, hr, rfl⟩ | ⟨hf, hz⟩
            · refine ⟨_, .tuple #[v, .bool true], rfl, ?_, rv_pair hr (.kb true)⟩
              simp [Instr.lookup, run_underlying ht, MapKept.run_getObj_map h3, MapKept.run_checkKey hkt (k := .string ⟨s.toArray⟩) trivial, MapKept.run_findKey hkt hf, Result.andThen]
            · unfold zeroT at hz
              split at hz
              · rename_i z hz0
                simp [ret] at hz
                subst hz
                obtain ⟨i, zv, hinfo, hz1, rfl⟩ := tzero_ok hz0
                refine ⟨_, .tuple #[zv, .bool false], rfl, ?_, rv_pair (absV_ok zv) (.kb false)⟩
                simp [Instr.lookup, run_underlying ht, MapKept.run_getObj_map h3, MapKept.run_checkKey hkt (k := .string ⟨s.toArray⟩) trivial, MapKept.run_findKey hkt hf, Result.andThen, zeroValue, typeInfo, hinfo, hz1]
              · simp at hz
        · simp at h
      · simp at h
    · split at h
      · rename_i hvk
        split at h
        · rename_i id v hvk2
          have ho := hob id (by simp [AV.ids])
          split at h
          · rename_i u es hes
            rw [hes] at ho
            obtain ⟨r, ents, clock, h1, h2, h3, h4, h5⟩ := ho
            cases hx with
            | mp _ _ hv _ =>
            rw [h1] at hv; cases hv
            rw [vkey_eq hvk2] at hi
            obtain ⟨rfl, hko⟩ := kav_rv hi
            have hfk := run_findKey_v (w := w) hvk hko u es ents.toList h4 h5.1
            have hrun : ∀ (i : TypeInfo) (zv : Value), P.info? et = some i → i.zero = some zv → zv = encU u 0 →
                (Instr.lookup t (.map (some r)) (encV v) two).run P w = .ok (if two then .tuple #[encU u (vget es v), .bool (vhas es v)] else encU u (vget es v)) w := by
              intro i zv hinfo hz1 hz2
              subst hz2
              cases hfi : vfindI es v 0 with
              | none =>
                rw [hfi] at hfk
                obtain ⟨e1, e2, _⟩ := vfind_none hfi
                cases two <;> simp [Instr.lookup, run_underlying ht, MapKept.run_getObj_map h3, run_checkKey_v hvk, hfk, Result.andThen, zeroValue, typeInfo, hinfo, hz1, e1, e2]
              | some q =>
                obtain ⟨j, m⟩ := q
                rw [hfi] at hfk
                obtain ⟨_, e1, e2, _, _⟩ := vfind_some hfi
                cases two <;> simp [Instr.lookup, run_underlying ht, MapKept.run_getObj_map h3, run_checkKey_v hvk, hfk, Result.andThen, e1, e2]
            have hio : IntOk .i64 (vget es v) := by
              cases hfi : vfindI es v 0 with
              | none => rw [(vfind_none hfi).2.1]; unfold IntOk; decide
              | some q =>
                obtain ⟨j, m⟩ := q
                obtain ⟨_, _, e2, ⟨p, hp, _, hpn⟩, _⟩ := vfind_some hfi
                rw [e2, ← hpn]
                exact (h5.1 p (List.mem_of_getElem? hp)).1
            split at h
            · rename_i z hz
              split at h
              · rename_i hc
                obtain ⟨rfl, rfl⟩ := hc
                obtain ⟨i, zv, hinfo, hz1, hz2⟩ := tzero_ok hz
                have := absV_int hz2.symm
                subst this
                simp [ret] at h
                subst h
                refine ⟨_, _, rfl, hrun i _ hinfo hz1 rfl, ?_⟩
                cases two
                · exact .int _ _ hio
                · exact rv_pair (.int _ _ hio) (.bool _)
              · simp at h
            · rename_i cs hz
              split at h
              · rename_i hc
                obtain ⟨rfl, hcs⟩ := hc
                obtain ⟨i, zv, hinfo, hz1, hz2⟩ := tzero_ok hz
                have := absV_agg0 hz2.symm hcs
                subst this
                simp [ret] at h
                subst h
                have hag : Rv w U ρ (.agg []) (.agg #[]) := .agg [] [] rfl (by simp) (by simp)
                refine ⟨_, _, rfl, hrun i _ hinfo hz1 rfl, ?_⟩
                cases two
                · exact hag
                · exact rv_pair hag (.bool _)
              · simp at h
            · simp at h
          · simp at h
        · simp at h
      · simp at h
    · simp at h
  · simp at h

theorem vidx_find : ∀ {es : List ((Int × Int × Str) × Int)} {k : Int × Int × Str} {i : Nat}, (vfindI es k i = none → vidx es k = es.length) ∧ ∀ j n, vfindI es k i = some (j, n) → j = i + vidx es k
  | [], k, i => ⟨fun _ => rfl, fun j n h => by cases h⟩
  | p :: r, k, i => by
    obtain ⟨h1, h2⟩ := vidx_find (es := r) (k := k) (i := i + 1)
    unfold vfindI vidx
    cases hq : k == p.1
    · refine ⟨fun h => ?_, fun j n h => ?_⟩
      · simp only [cond_false] at h ⊢
        rw [h1 h]; simp
      · simp only [cond_false] at h ⊢
        rw [h2 j n h]; omega
    · refine ⟨fun h => by simp at h, fun j n h => ?_⟩
      simp only [cond_true, Option.some.injEq, Prod.mk.injEq] at h
      rw [← h.1]; rfl

theorem vidx_le : ∀ (es : List ((Int × Int × Str) × Int)) (k : Int × Int × Str), vidx es k ≤ es.length
  | [], _ => Nat.le_refl _
  | p :: r, k => by
    have := vidx_le r k
    unfold vidx
    cases k == p.1
    · simp; omega
    · simp

theorem evEntry_ok {n : Nat} {hp : Nat → AO} {t : TypeId} {am ak : AV} {vm vk : Value} {f : Eff} {fp : List Nat} (h : (evEntry P hp t am ak).val = some f)
    (hm : Rv w U ρ am vm) (hk : Rv w U ρ ak vk) (hub : ∀ b, U b → b < w.heap.size) (hfp : FpOk w U ρ hp fp) (hin : ∀ id ∈ am.ids, id ∈ fp) :
    ∃ v w', (Instr.mapEntry t vm vk).run P w = .ok v w' ∧ Ef n hp f w U ρ v w' U ρ ∧ ∀ id o, (id, o) ∈ f.wr → id ∈ fp := by
  unfold evEntry at h
  split at h
  · rename_i kt et ht
    split at h
    · rename_i hvk
      split at h
      · rename_i id v hvk2
        have hid := hin id (by simp [AV.ids])
        have ho := hfp.ob id hid
        split at h
        · rename_i es hes
          split at h
          · rename_i z hz
            split at h
            · rename_i hz0
              subst hz0
              simp only [Tr.val] at h
              split at h
              · rename_i hlen
                have hlen : es.length ≤ 1073741824 := of_decide_eq_true hlen
                simp only [Option.some.injEq] at h
                subst h
                rw [hes] at ho
                obtain ⟨r, ents, clock, h1, h2, h3, h4, h5⟩ := ho
                cases hm with
                | mp _ _ hv _ =>
                rw [h1] at hv; cases hv
                rw [vkey_eq hvk2] at hk
                obtain ⟨rfl, hko⟩ := kav_rv hk
                obtain ⟨i0, zv, hinfo, hz1, hz2⟩ := tzero_ok hz
                have := absV_int hz2.symm
                subst this
                have hfk := run_findKey_v (w := w) hvk hko false es ents.toList h4 h5.1
                have hown : (hp id).owns = true := by rw [hes]; rfl
                have hesz : ents.size = es.length := by have := congrArg List.length h4; simpa using this
                have hwrs : ∀ id' o', (id', o') ∈ [(id, AO.vmap false (vent es v))] → id' ∈ fp := by
                  intro id' o' h'
                  simp only [List.mem_singleton, Prod.mk.injEq] at h'
                  rw [h'.1]; exact hid
                have hix : IntOk .i64 (vidx es v : Int) := by
                  have := vidx_le es v
                  unfold IntOk
                  exact ⟨by show (-9223372036854775808 : Int) ≤ _; omega, by show _ ≤ (9223372036854775807 : Int); omega⟩
                cases hfi : vfindI es v 0 with
                | none =>
                  rw [hfi] at hfk
                  obtain ⟨e1, e2, _⟩ := vfind_none hfi
                  have e3 := (vidx_find (es := es) (k := v) (i := 0)).1 hfi
                  have hvent : vent es v = es ++ [(v, 0)] := by simp [vent, e1]
                  refine ⟨.tuple #[.int .i64 0, goInt clock], { w with heap := w.heap.setIfInBounds r (.map (ents.push { key := encV v, val := .int .i64 0, born := clock }) (clock + 1)) }, ?_, ?_, hwrs⟩
                  · simp [Instr.mapEntry, run_underlying ht, MapKept.run_getObj_map h3, run_checkKey_v hvk, hfk, MapKept.run_setObj_map _ h3, Result.andThen, zeroValue, typeInfo, hinfo, hz1]
                  · refine Ef.setMap h1 h2 h3 hown ?_ hub ?_
                    · refine ⟨r, _, _, h1, h2, (MapKept.heap_set h3).1, ?_, ?_, h5.2.push _ _⟩
                      · rw [hvent]
                        simp only [Array.toList_push, List.map_append, h4, List.map_cons, List.map_nil]
                        rfl
                      · rw [hvent]
                        intro p hp
                        rcases List.mem_append.1 hp with hp | hp
                        · exact h5.1 p hp
                        · simp at hp; subst hp; exact ⟨(show IntOk .i64 0 by unfold IntOk; decide), hko⟩
                    · rw [e2]
                      have hc : goInt clock = .int .i64 (vidx es v : Int) := by rw [e3, h5.2.1, hesz]; rfl
                      rw [hc]
                      exact rv_pair (.int _ _ (by unfold IntOk; decide)) (.int _ _ hix)
                | some q =>
                  obtain ⟨j, m⟩ := q
                  rw [hfi] at hfk
                  obtain ⟨_, e1, e2, ⟨p, hpj, hpk, hpn⟩, _⟩ := vfind_some hfi
                  have e3 := (vidx_find (es := es) (k := v) (i := 0)).2 j m hfi
                  rw [Nat.zero_add] at e3
                  rw [Nat.sub_zero] at hpj
                  have hvent : vent es v = es := by simp [vent, e1]
                  have hent : ∃ e, ents.toList[j]? = some e ∧ e.key = encV v := by
                    have : (ents.toList.map fun e => (e.key, e.val))[j]? = some (encV p.1, encU false p.2) := by
                      rw [h4]; simp [hpj]
                    rw [List.getElem?_map, Option.map_eq_some_iff] at this
                    obtain ⟨e, he1, he2⟩ := this
                    simp only [Prod.mk.injEq] at he2
                    exact ⟨e, he1, by rw [he2.1, hpk]⟩
                  obtain ⟨e, he1, he2⟩ := hent
                  have he3 : ents[j]? = some e := by rw [← Array.getElem?_toList]; exact he1
                  have hst : (Instr.keyThatStays (encV v) (encV v)).run P w = .ok (encV v) w := by
                    simp [Instr.keyThatStays, sameBits_encV]
                  refine ⟨.tuple #[.int .i64 m, goInt e.born], { w with heap := w.heap.setIfInBounds r (.map (ents.modify j fun e => { e with key := encV v }) clock) }, ?_, ?_, hwrs⟩
                  · simp [Instr.mapEntry, run_underlying ht, MapKept.run_getObj_map h3, run_checkKey_v hvk, hfk, he3, he2, hst, MapKept.run_setObj_map _ h3, Result.andThen, encU]
                  · refine Ef.setMap h1 h2 h3 hown ?_ hub ?_
                    · refine ⟨r, _, _, h1, h2, (MapKept.heap_set h3).1, ?_, by rw [hvent]; exact h5.1, h5.2.modify _ _ (fun _ => rfl)⟩
                      rw [hvent]
                      apply List.ext_getElem?
                      intro q
                      have h4q : (ents.toList.map fun e => (e.key, e.val))[q]? = (encE false es)[q]? := by rw [h4]
                      simp only [List.getElem?_map, Array.getElem?_toList, Array.getElem?_modify, encE] at h4q ⊢
                      by_cases hq : j = q
                      · subst hq
                        rw [he3] at h4q
                        simp only [Option.map_some, he2] at h4q
                        simp only [if_true, he3, Option.map_some]
                        exact h4q
                      · simp only [hq, if_false]
                        rw [h4q]
                    · rw [e2]
                      have hc : goInt e.born = .int .i64 (vidx es v : Int) := by rw [h5.2.2 j e he3, e3]; rfl
                      rw [hc]
                      have hm : IntOk .i64 m := by rw [← hpn]; exact (h5.1 p (List.mem_of_getElem? hpj)).1
                      exact rv_pair (.int _ _ hm) (.int _ _ hix)
              · cases h
            · simp at h
          · simp at h
        · simp at h
      · simp at h
    · simp at h
  · simp at h

theorem vsetAt_set : ∀ (es : List ((Int × Int × Str) × Int)) (n : Nat) (x : Int) (p : (Int × Int × Str) × Int), es[n]? = some p → vsetAt es n x = es.set n (p.1, x)
  | [], _, _, _, h => by simp at h
  | q :: r, 0, x, p, h => by simp at h; subst h; rfl
  | q :: r, n + 1, x, p, h => by
    rw [vsetAt, vsetAt_set r n x p (by simpa using h)]
    rfl

theorem evEntryStore_ok {n : Nat} {hp : Nat → AO} {t : TypeId} {am as_ ax : AV} {vm vs vx : Value} {f : Eff} {fp : List Nat} (h : (evEntryStore hp am as_ ax).val = some f)
    (hm : Rv w U ρ am vm) (hs : Rv w U ρ as_ vs) (hx : Rv w U ρ ax vx) (hub : ∀ b, U b → b < w.heap.size) (hfp : FpOk w U ρ hp fp) (hin : ∀ id ∈ am.ids, id ∈ fp) :
    ∃ w', (Instr.entryStore t vm vs vx).run P w = .ok () w' ∧ Ef n hp f w U ρ undef w' U ρ ∧ ∀ id o, (id, o) ∈ f.wr → id ∈ fp := by
  unfold evEntryStore at h
  split at h
  · rename_i id nn yy
    have hid := hin id (by simp [AV.ids])
    have ho := hfp.ob id hid
    split at h
    · rename_i es hes
      simp only [Tr.val] at h
      split at h
      · rename_i hinb
        obtain ⟨hb0, hb1⟩ := inB_iff.1 hinb
        simp only [Option.some.injEq] at h
        subst h
        rw [hes] at ho
        obtain ⟨r, ents, clock, h1, h2, h3, h4, h5⟩ := ho
        cases hm with
        | mp _ _ hv _ =>
        rw [h1] at hv; cases hv
        cases hs
        cases hx with
        | int _ _ hy =>
        have hown : (hp id).owns = true := by rw [hes]; rfl
        have hesz : ents.size = es.length := by have := congrArg List.length h4; simpa using this
        have hlt : nn.toNat < ents.size := by omega
        have hfi : ents.findIdx? (fun e => (e.born : Int) == nn) = some nn.toNat := by
          rw [Array.findIdx?_eq_some_iff_getElem]
          refine ⟨hlt, ?_, fun j hj => ?_⟩
          · have := h5.2.2 nn.toNat ents[nn.toNat] (Array.getElem?_eq_getElem hlt)
            rw [this]
            simp
            omega
          · have := h5.2.2 j (ents[j]'(by omega)) (Array.getElem?_eq_getElem (by omega))
            rw [this]
            simp
            omega
        obtain ⟨p, hp⟩ : ∃ p, es[nn.toNat]? = some p := ⟨es[nn.toNat]'(by omega), List.getElem?_eq_getElem (by omega)⟩
        refine ⟨{ w with heap := w.heap.setIfInBounds r (.map (ents.modify nn.toNat fun e => { e with val := .int .i64 yy }) clock) }, ?_, ?_, ?_⟩
        · simp [Instr.entryStore, MapKept.run_getObj_map h3, asInt, asIntOf, hfi, MapKept.run_setObj_map _ h3, Result.andThen]
        · refine Ef.setMap h1 h2 h3 hown ?_ hub (.tup [] [] rfl (by simp))
          refine ⟨r, _, _, h1, h2, (MapKept.heap_set h3).1, ?_, ?_, h5.2.modify _ _ (fun _ => rfl)⟩
          · rw [vsetAt_set es _ yy p hp]
            apply List.ext_getElem?
            intro q
            have h4q : (ents.toList.map fun e => (e.key, e.val))[q]? = (encE false es)[q]? := by rw [h4]
            simp only [List.getElem?_map, Array.getElem?_toList, Array.getElem?_modify, List.getElem?_set, encE] at h4q ⊢
            by_cases hq : nn.toNat = q
            · subst hq
              have hjl : nn.toNat < es.length := by omega
              rw [Array.getElem?_eq_getElem hlt, hp] at h4q
              simp only [Option.map_some, Option.some.injEq, Prod.mk.injEq] at h4q
              simp [Array.getElem?_eq_getElem hlt, hjl, h4q.1, encU]
            · simp only [hq, if_false]
              rw [h4q]
          · rw [vsetAt_set es _ yy p hp]
            intro p' hp'
            rcases List.mem_or_eq_of_mem_set hp' with hp' | rfl
            · exact h5.1 p' hp'
            · exact ⟨hy, (h5.1 p (List.mem_of_getElem? hp)).2⟩
        · intro id' o' h'
          simp only [List.mem_singleton, Prod.mk.injEq] at h'
          rw [h'.1]; exact hid
      · cases h
    · simp at h
  · simp at h

theorem Ef.frz {n : Nat} {hp : Nat → AO} {ids : List Nat} {r : AV} {v : Value} (hub : ∀ b, U b → b < w.heap.size) (hvf : ∀ j ∈ ids, isVF (hp j) = true)
    (hob : ∀ j ∈ ids, objOk w U ρ j (hp j)) (hval : Rv w (fun b => U b ∧ ¬ ∃ j ∈ ids, ownsB ρ j (hp j) b) ρ r v) :
    Ef n hp { val := r, wr := frzIds hp ids } w U ρ v w (fun b => U b ∧ ¬ ∃ j ∈ ids, ownsB ρ j (hp j) b) ρ := by
  generalize hU' : (fun b => U b ∧ ¬ ∃ j ∈ ids, ownsB ρ j (hp j) b) = U' at hval ⊢
  have hsub : ∀ b, U' b → U b := fun b h => by rw [← hU'] at h; exact h.1
  have hfz : ∀ j ∈ ids, ∀ b, ownsB ρ j (hp j) b → ¬ U' b := fun j hj b ho h => by rw [← hU'] at h; exact h.2 ⟨j, hj, ho⟩
  have noOwn : ∀ id o b, (id, o) ∈ frzIds hp ids → ownsB ρ id o b → False := by
    intro id o b h ho
    obtain ⟨hin', rfl⟩ := frzIds_mem h
    rw [ownsB, frz_owns (hvf id hin')] at ho
    simp at ho
  refine ⟨Ext.refl w, hval, ?_, by simp, fun _ _ => rfl, fun _ _ h => h, fun _ _ _ => rfl, fun b' h => hub b' (hsub b' h), fun b' _ h => hsub b' h, ?_, ?_, ?_⟩
  · intro id o h
    obtain ⟨hin', rfl⟩ := frzIds_mem h
    exact freeze_ok (hob id hin') (hvf id hin') hsub (hfz id hin')
  · intro b' _ h hn
    rw [← hU']
    exact ⟨h, fun ⟨j, hj, ho⟩ => hn j _ (frzIds_of hj) ho⟩
  · rintro id o b' (h | ⟨_, h⟩) ho
    · exact (noOwn id o b' h ho).elim
    · simp at h
  · rintro id1 o1 id2 o2 b' (h | ⟨_, h⟩) _ ho _
    · exact (noOwn id1 o1 b' h ho).elim
    · simp at h

theorem evSliceV_ok {n : Nat} {hp : Nat → AO} {t : TypeId} {ax : AV} {vx : Value} {lo hi mx : Option AV} {vlo vhi vmx : Option Value} {f : Eff} {fp : List Nat} (h : (evSliceV P hp t ax lo hi mx).val = some f)
    (hx : Rv w U ρ ax vx) (rlo : ∀ a v, lo = some a → vlo = some v → Rv w U ρ a v) (rhi : ∀ a v, hi = some a → vhi = some v → Rv w U ρ a v)
    (rmx : ∀ a v, mx = some a → vmx = some v → Rv w U ρ a v) (slo : lo.isSome = vlo.isSome) (shi : hi.isSome = vhi.isSome) (smx : mx.isSome = vmx.isSome)
    (hub : ∀ b, U b → b < w.heap.size) (hfp : FpOk w U ρ hp fp) (hin : ∀ id ∈ ax.ids, id ∈ fp) :
    ∃ v U', (Instr.sliceAt t vx vlo vhi vmx).run P w = .ok v w ∧ Ef n hp f w U ρ v w U' ρ ∧ ∀ id o, (id, o) ∈ f.wr → id ∈ fp := by
  unfold evSliceV at h
  split at h
  · rename_i id
    have hid := hin id (by simp [AV.ids])
    have ho := hfp.ob id hid
    split at h
    · rename_i e l hes
      simp only [Tr.val_bind, Option.bind_eq_some_iff] at h
      obtain ⟨f0, h0, h1⟩ := h
      simp only [Tr.val_ok, Option.some.injEq] at h1
      subst h1
      have hsub : ∀ b, (U b ∧ ¬ ∃ j ∈ [id], ownsB ρ j (hp j) b) → U b := fun b hb => hb.1
      have hsl : Rv w (fun b => U b ∧ ¬ ∃ j ∈ [id], ownsB ρ j (hp j) b) ρ (.sl e l) vx :=
        asSl_ok (hp := hp) (e := e) (c := .vec id) (by simp [asSl, hes]) hx hsub (fun j hj => by simp [vecIds] at hj; subst hj; exact ho)
          (fun j hj b hb hU => by simp [vecIds] at hj; subst hj; exact hU.2 ⟨_, by simp, hb⟩)
      obtain ⟨r, x, rfl, hrun, hr⟩ := evSlice_ok (w := w) (U := fun b => U b ∧ ¬ ∃ j ∈ [id], ownsB ρ j (hp j) b) (ρ := ρ) (vlo := vlo) (vhi := vhi) (vmx := vmx) h0 hsl
        (fun a v ha hv => (rlo a v ha hv).weak hsub) (fun a v ha hv => (rhi a v ha hv).weak hsub) (fun a v ha hv => (rmx a v ha hv).weak hsub) slo shi smx
      refine ⟨x, _, hrun, Ef.frz hub (by simp [hes, isVF]) (by simp; exact ho) hr, fun id' o' h' => ?_⟩
      obtain ⟨h2, _⟩ := frzIds_mem h'
      simp at h2
      rw [h2]; exact hid
    · rename_i e l hes
      rw [hes] at ho
      obtain ⟨v', hv', hrv⟩ := ho
      cases hx with
      | vec _ _ hv _ =>
      rw [hv] at hv'; cases hv'
      obtain ⟨r, x, rfl, hrun, hr⟩ := evSlice_ok (w := w) (U := U) (ρ := ρ) (vlo := vlo) (vhi := vhi) (vmx := vmx) h hrv rlo rhi rmx slo shi smx
      exact ⟨x, U, hrun, Ef.pure hub hr, by simp⟩
    · simp at h
  · obtain ⟨r, x, rfl, hrun, hr⟩ := evSlice_ok (w := w) (U := U) (ρ := ρ) (vlo := vlo) (vhi := vhi) (vmx := vmx) h hx rlo rhi rmx slo shi smx
    exact ⟨x, U, hrun, Ef.pure hub hr, by simp⟩

end
end Cad
