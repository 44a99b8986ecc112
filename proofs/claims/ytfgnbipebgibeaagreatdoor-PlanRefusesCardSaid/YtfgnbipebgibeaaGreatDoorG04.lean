/- What is kept at a loop's head says no more than what was there. Functions: from a run to a contract. A function's contract, lifted to whatever calls it. -/
import Derived.Test.YtfgnbipebgibeaaGreatDoorG03
namespace Cad
open Go
section
variable {E : Env} {C : Ctx} {a : Act} {w : World} {U : Nat → Prop} {ρ : Nat → Option Value}

theorem mask_get (keep : List Nat) : ∀ (l : List AV) (i j : Nat), (mask keep i l)[j]? = (l[j]?).map fun v => if keep.contains (i + j) then v else .any
  | [], _, _ => by simp [mask]
  | v :: r, i, 0 => by simp [mask]
  | v :: r, i, j + 1 => by
    simp only [mask, List.getElem?_cons_succ]
    rw [mask_get keep r (i + 1) j, show i + 1 + j = i + (j + 1) by omega]

theorem mask_len (keep : List Nat) : ∀ (l : List AV) (i : Nat), (mask keep i l).length = l.length
  | [], _ => rfl
  | v :: r, i => by simp [mask, mask_len keep r]

theorem mask_ok {st : St} (keep : List Nat) (h : Cn C st a w U ρ) : Cn C { st with tmps := mask keep 0 st.tmps } a w U ρ := by
  refine ⟨⟨by rw [mask_len]; exact h.tm.len, fun j c v hc hv => ?_⟩, h.hp, h.new, h.df, h.r0⟩
  rw [mask_get] at hc
  simp only [Option.map_eq_some_iff] at hc
  obtain ⟨c', hc', rfl⟩ := hc
  split
  · exact h.tm.rv j c' v hc' hv
  · exact .any v

theorem prom_hp {hp hp' : Nat → AO} {n : Nat} {e : Sh} {x : Option Addr} (hH : HpOk C w U ρ hp) (hn : ρ n = none) (hnew : hp' n = .vec e [])
    (hold : ∀ id, id ≠ n → objOk w U (upd ρ n (.slice x 0 0)) id (hp' id) ∧ ∀ b, ownsB (upd ρ n (.slice x 0 0)) id (hp' id) b → ownsB ρ id (hp id) b) : HpOk C w U (upd ρ n (.slice x 0 0)) hp' := by
  have none : ∀ b, ¬ ownsB (upd ρ n (.slice x 0 0)) n (hp' n) b := by
    rintro b ⟨_, v, hv, hb⟩
    simp [upd] at hv; subst hv
    cases x <;> simp [blkOf] at hb
  refine ⟨fun id => ?_, fun id1 id2 b h1 h2 => ?_, fun id b h => ?_⟩
  · by_cases hid : id = n
    · subst hid; rw [hnew]
      exact ⟨x, 0, by simp [upd], by simp, .inl ⟨rfl, rfl⟩⟩
    · exact (hold id hid).1
  · by_cases e1 : id1 = n
    · subst e1; exact (none b h1).elim
    · by_cases e2 : id2 = n
      · subst e2; exact (none b h2).elim
      · exact hH.inj id1 id2 b ((hold id1 e1).2 b h1) ((hold id2 e2).2 b h2)
  · by_cases e1 : id = n
    · subst e1; exact (none b h).elim
    · exact hH.blk id b ((hold id e1).2 b h)

theorem owns_upd {n id : Nat} {v : Value} {o : AO} {b : Nat} (hid : id ≠ n) (h : ownsB (upd ρ n v) id o b) : ownsB ρ id o b := by
  obtain ⟨h1, x, hx, hb⟩ := h
  simp only [upd, if_neg hid] at hx
  exact ⟨h1, x, hx, hb⟩

theorem prom1_ok {st : St} (p : Nat × Option Nat × Sh) (h : Cn C st a w U ρ) : ∃ ρ', Cn C (prom1 st p) a w U ρ' := by
  have hn : ρ st.heap.length = none := h.new _ (Nat.le_refl _)
  have mono : ∀ (x : Option Addr) {c : AV} {v : Value}, Rv w U ρ c v → Rv w U (upd ρ st.heap.length (.slice x 0 0)) c v := fun x _ _ hr => hr.mono (Nat.le_refl _) (fun _ _ _ => rfl) (fun _ _ h => h) (upd_old hn)
  have omono : ∀ (x : Option Addr) (id : Nat), objOk w U (upd ρ st.heap.length (.slice x 0 0)) id (st.hp id) := fun x id =>
    (h.hp.ob id).mono (Nat.le_refl _) (fun _ _ _ => rfl) (fun _ _ h => h) (upd_old hn) (fun b ho => ⟨rfl, ((h.hp.ob id).inU ho).1⟩)
  have hpapp : ∀ (hs : List AO) (o : AO), hs.length = st.heap.length → (hs ++ [o]).getD st.heap.length .dead = o := by
    intro hs o hl
    rw [List.getD_eq_getElem?_getD, List.getElem?_append_right (by omega), hl]
    simp
  have hpold : ∀ (hs : List AO) (o : AO) (id : Nat), hs.length = st.heap.length → id ≠ st.heap.length → (hs ++ [o]).getD id .dead = hs.getD id .dead := by
    intro hs o id hl hid
    simp only [List.getD_eq_getElem?_getD]
    by_cases hlt : id < hs.length
    · rw [List.getElem?_append_left hlt]
    · rw [List.getElem?_eq_none (by simp; omega), List.getElem?_eq_none (by omega)]
  have newOk : ∀ (x : Option Addr) (hs : List AO) (o : AO), hs.length = st.heap.length → ∀ id, (hs ++ [o]).length ≤ id → upd ρ st.heap.length (.slice x 0 0) id = none := by
    intro x hs o hl id hid
    simp at hid
    simp only [upd]
    rw [if_neg (by omega)]
    exact h.new id (by omega)
  obtain ⟨s, c, e⟩ := p
  cases c with
  | none =>
    simp only [prom1]
    split
    · rename_i hs
      have hlt : s < st.tmps.length := by
        apply Classical.byContradiction
        intro hge
        rw [List.getD_eq_getElem?_getD, List.getElem?_eq_none (by omega)] at hs
        cases hs
      have hs' : st.tmps[s]? = some .nils := by
        rw [List.getD_eq_getElem?_getD, List.getElem?_eq_getElem hlt] at hs
        rw [List.getElem?_eq_getElem hlt]; simpa using hs
      have hlt' : s < a.tmps.toList.length := by rw [← h.tm.len]; exact hlt
      have hv := h.tm.rv s _ _ hs' (List.getElem?_eq_getElem hlt')
      generalize hx : a.tmps.toList[s] = x at hv
      cases hv with
      | nils ad =>
      refine ⟨upd ρ st.heap.length (.slice ad 0 0), ⟨by simp [h.tm.len], fun j c v hc hv => ?_⟩, prom_hp h.hp hn (hpapp _ _ rfl) (fun id hid => ?_), newOk ad _ _ rfl, h.df, fun id v hr => upd_old hn id v (h.r0 id v hr)⟩
      · rw [List.getElem?_set] at hc
        split at hc
        · rename_i hsj
          subst hsj
          cases hc
          rw [List.getElem?_eq_getElem hlt', hx] at hv
          cases hv
          exact .vec _ _ (by simp [upd]) rfl
        · exact mono ad (h.tm.rv j c v hc hv)
      · have : ({ tmps := st.tmps.set s (.vec st.heap.length), heap := st.heap ++ [.vec e []] } : St).hp id = st.hp id := hpold st.heap _ id rfl hid
        rw [this]
        exact ⟨omono ad id, fun b hb => owns_upd hid hb⟩
    · exact ⟨ρ, h⟩
  | some c =>
    simp only [prom1]
    split
    · rename_i id hsl
      split
      · rename_i cs hcs
        split
        · rename_i hnil
          have ho := h.hp.ob id
          rw [hcs] at ho
          obtain ⟨b, T, vals, h1, h2, h3, h4, h5⟩ := ho
          have hclt : c < cs.length := by
            apply Classical.byContradiction
            intro hge
            rw [List.getD_eq_getElem?_getD, List.getElem?_eq_none (by omega)] at hnil
            cases hnil
          have hc' : cs[c]? = some .nils := by
            rw [List.getD_eq_getElem?_getD, List.getElem?_eq_getElem hclt] at hnil
            rw [List.getElem?_eq_getElem hclt]; simpa using hnil
          have hvlt : c < vals.toList.length := by rw [← h4.len]; exact hclt
          have hv := h4.rv c _ _ hc' (List.getElem?_eq_getElem hvlt)
          generalize hx : vals.toList[c] = x at hv
          cases hv with
          | nils ad =>
          have hidlt : id < st.heap.length := by
            apply Classical.byContradiction
            intro hge
            have := h.new id (by omega)
            rw [h1] at this; cases this
          have hne : id ≠ st.heap.length := by omega
          refine ⟨upd ρ st.heap.length (.slice ad 0 0), ⟨h.tm.len, fun j cc v hc hv => mono ad (h.tm.rv j cc v hc hv)⟩, prom_hp h.hp hn (hpapp _ _ (by simp)) (fun id' hid' => ?_), newOk ad _ _ (by simp), h.df, fun i v hr => upd_old hn i v (h.r0 i v hr)⟩
          have e0 : ({ tmps := st.tmps, heap := st.heap.set id (.box (cs.set c (.vec st.heap.length))) ++ [.vec e []] } : St).hp id' = (st.heap.set id (.box (cs.set c (.vec st.heap.length)))).getD id' .dead := hpold _ _ id' (by simp) hid'
          rw [e0]
          by_cases hii : id = id'
          · subst hii
            have e1 : (st.heap.set id (.box (cs.set c (.vec st.heap.length)))).getD id .dead = .box (cs.set c (.vec st.heap.length)) := by
              simp [List.getD_eq_getElem?_getD, List.getElem?_set_self hidlt]
            rw [e1]
            refine ⟨⟨b, T, vals, upd_old hn _ _ h1, h2, h3, ⟨by simp [h4.len], fun j cc v hc hv => ?_⟩, h5⟩, fun b' hb => ?_⟩
            · rw [List.getElem?_set] at hc
              split at hc
              · rename_i hcj
                subst hcj
                cases hc
                rw [List.getElem?_eq_getElem hvlt, hx] at hv
                cases hv
                exact .vec _ _ (by simp [upd]) rfl
              · exact mono ad (h4.rv j cc v hc hv)
            · obtain ⟨_, v, hv, hbb⟩ := owns_upd hid' hb
              exact ⟨by rw [hcs]; rfl, v, hv, hbb⟩
          · have e1 : (st.heap.set id (.box (cs.set c (.vec st.heap.length)))).getD id' .dead = st.hp id' := by
              simp [St.hp, List.getD_eq_getElem?_getD, List.getElem?_set_ne hii]
            rw [e1]
            exact ⟨omono ad id', fun b hb => owns_upd hid' hb⟩
        · exact ⟨ρ, h⟩
      · exact ⟨ρ, h⟩
    · exact ⟨ρ, h⟩

theorem proms_ok : ∀ (ps : List (Nat × Option Nat × Sh)) {st : St} {ρ : Nat → Option Value}, Cn C st a w U ρ → ∃ ρ', Cn C (ps.foldl prom1 st) a w U ρ'
  | [], _, ρ, h => ⟨ρ, h⟩
  | p :: ps, st, ρ, h => by
    obtain ⟨ρ', h'⟩ := prom1_ok p h
    exact proms_ok ps h'

theorem sett1_ok {gl : Nat → AV} {st : St} (p : Nat × Nat) (h : Cn C st a w U ρ) (hW : Wd gl C w U) : ∃ U', Cn C (sett1 st p) a w U' ρ ∧ Wd gl C w U' := by
  obtain ⟨s, c⟩ := p
  simp only [sett1]
  split
  · rename_i id hsl
    split
    · rename_i cs hcs
      split
      · rename_i k hck
        split
        · rename_i e l hfz
          have hvf : isVF (st.hp k) = true := by cases hk : st.hp k <;> rw [hk] at hfz <;> simp [frzO] at hfz <;> rfl
          have hef := Ef.frz (w := w) (U := U) (ρ := ρ) (n := st.heap.length) (hp := st.hp) (ids := [k]) (r := .any) (v := undef) hW.ub (by simpa using hvf) (fun j _ => h.hp.ob j) (.any _)
          generalize (fun b => U b ∧ ¬ ∃ j ∈ [k], ownsB ρ j (st.hp j) b) = U' at hef
          have hwr : frzIds st.hp [k] = [(k, .frz e l)] := by simp [frzIds, hfz]
          rw [hwr] at hef
          obtain ⟨hW', hH', mono⟩ := apply_ef (hp' := fun id => if id = k then .frz e l else st.hp id) hW h.hp hef (fun _ _ _ => rfl)
            (fun i hi => by
              obtain ⟨o, ho⟩ := hi
              simp at ho
              exact ⟨.frz e l, by simp [ho.1], by simp [ho.1]⟩)
            (fun j o hj => by simp at hj)
            (fun i hno _ => by
              have : i ≠ k := fun e' => hno ⟨.frz e l, by simp [e']⟩
              simp [this])
          have hik : id ≠ k := by
            rintro rfl
            rw [hcs] at hvf
            cases hvf
          have ok := hH'.ob k
          simp only [if_true] at ok
          obtain ⟨vk, hvk, hrk⟩ := ok
          have oi := hH'.ob id
          simp only [if_neg hik, hcs] at oi
          obtain ⟨b, T, vals, h1, h2, h3, h4, h5⟩ := oi
          have hil : id < st.heap.length := by
            apply Classical.byContradiction
            intro hge
            have := h.new id (by omega)
            rw [h1] at this; cases this
          have hkl : k < st.heap.length := by
            apply Classical.byContradiction
            intro hge
            have := h.new k (by omega)
            rw [hvk] at this; cases this
          have hclt : c < cs.length := by
            apply Classical.byContradiction
            intro hge
            rw [List.getD_eq_getElem?_getD, List.getElem?_eq_none (by omega)] at hck
            cases hck
          have hc' : cs[c]? = some (.vec k) := by
            rw [List.getD_eq_getElem?_getD, List.getElem?_eq_getElem hclt] at hck
            rw [List.getElem?_eq_getElem hclt]; simpa using hck
          have hhp : ∀ i, ({ tmps := st.tmps, heap := (st.heap.set k (.frz e l)).set id (.box (cs.set c (.sl e l))) } : St).hp i = if i = id then .box (cs.set c (.sl e l)) else if i = k then .frz e l else st.hp i := by
            intro i
            simp only [St.hp, List.getD_eq_getElem?_getD]
            by_cases hi : i = id
            · subst hi
              rw [List.getElem?_set_self (by simpa using hil), if_pos rfl]; rfl
            · rw [List.getElem?_set_ne (fun e' => hi e'.symm), if_neg hi]
              by_cases hk : i = k
              · subst hk
                rw [List.getElem?_set_self hkl, if_pos rfl]; rfl
              · rw [List.getElem?_set_ne (fun e' => hk e'.symm), if_neg hk]
          have hown : ∀ i b', ownsB ρ i (if i = id then .box (cs.set c (.sl e l)) else if i = k then .frz e l else st.hp i) b' → ownsB ρ i (if i = k then AO.frz e l else st.hp i) b' := by
            intro i b' ho
            by_cases hi : i = id
            · subst hi
              rw [if_neg hik, hcs]
              obtain ⟨_, v, hv, hb⟩ := ho
              exact ⟨rfl, v, hv, hb⟩
            · rwa [if_neg hi] at ho
          refine ⟨U', ⟨⟨h.tm.len, fun j cc v hc hv => mono (h.tm.rv j cc v hc hv)⟩, ⟨fun i => ?_, fun i1 i2 b' o1 o2 => ?_, fun i b' o => ?_⟩, fun i hi => h.new i (by simpa using hi), h.df, h.r0⟩, hW'⟩
          · rw [hhp]
            by_cases hi : i = id
            · subst hi
              rw [if_pos rfl]
              refine ⟨b, T, vals, h1, h2, h3, ⟨by simp [h4.len], fun j cc v hc hv => ?_⟩, h5⟩
              rw [List.getElem?_set] at hc
              split at hc
              · rename_i hcj
                subst hcj
                cases hc
                have := h4.rv c _ v hc' hv
                cases this with
                | vec _ _ hr _ =>
                rw [hvk] at hr
                cases hr
                exact hrk
              · exact h4.rv j cc v hc hv
            · rw [if_neg hi]
              exact hH'.ob i
          · rw [hhp] at o1 o2
            exact hH'.inj i1 i2 b' (hown _ _ o1) (hown _ _ o2)
          · rw [hhp] at o
            exact hH'.blk i b' (hown _ _ o)
        · exact ⟨U, h, hW⟩
      · exact ⟨U, h, hW⟩
    · exact ⟨U, h, hW⟩
  · exact ⟨U, h, hW⟩

theorem setts_ok {gl : Nat → AV} : ∀ (ps : List (Nat × Nat)) {st : St} {U : Nat → Prop}, Cn C st a w U ρ → Wd gl C w U → ∃ U', Cn C (ps.foldl sett1 st) a w U' ρ ∧ Wd gl C w U'
  | [], _, U, h, hW => ⟨U, h, hW⟩
  | p :: ps, st, U, h, hW => by
    obtain ⟨U', h', hW'⟩ := sett1_ok p h hW
    exact setts_ok ps h' hW'

theorem renL_map (f : Nat → Nat) : ∀ cs : List AV, AV.renL f cs = cs.map (AV.ren f)
  | [] => rfl
  | c :: cs => by simp [AV.renL, renL_map f cs]

theorem explode_ren (f : Nat → Nat) : ∀ (e : Sh) (x : Sem e) (q : Nat) (c : AV), (explode e x)[q]? = some c → c.ren f = c := by
  intro e
  induction e with
  | unit => intro y q cc h; simp [explode] at h
  | bool => intro y q cc h; cases q <;> simp [explode] at h; subst h; simp [AV.ren]
  | int k => intro y q cc h; cases q <;> simp [explode] at h; subst h; simp [AV.ren]
  | str => intro y q cc h; cases q <;> simp [explode] at h; subst h; simp [AV.ren]
  | sl e ih => intro y q cc h; cases q <;> simp [explode] at h; subst h; simp [AV.ren]
  | pr a b iha ihb =>
    intro y q cc h
    simp only [explode] at h
    rcases Nat.lt_or_ge q (explode a y.1).length with hl | hl
    · rw [List.getElem?_append_left hl] at h; exact iha _ _ _ h
    · rw [List.getElem?_append_right hl] at h; exact ihb _ _ _ h
  | expr =>
    intro y q cc h
    match q with
    | 0 => simp [explode] at h; subst h; simp [AV.ren]
    | 1 => simp [explode] at h; subst h; simp [AV.ren]
    | 2 => simp [explode] at h; subst h; simp [AV.ren]
    | 3 => simp [explode] at h; subst h; simp [AV.ren]
    | 4 => simp [explode] at h; subst h; simp [AV.ren]
    | 5 => simp [explode] at h; subst h; simp [AV.ren]
    | _ + 6 => simp [explode] at h

theorem explode_ids : ∀ (e : Sh) (x : Sem e) (q : Nat) (c : AV), (explode e x)[q]? = some c → c.ids = [] := by
  intro e
  induction e with
  | unit => intro y q cc h; simp [explode] at h
  | bool => intro y q cc h; cases q <;> simp [explode] at h; subst h; simp [AV.ids]
  | int k => intro y q cc h; cases q <;> simp [explode] at h; subst h; simp [AV.ids]
  | str => intro y q cc h; cases q <;> simp [explode] at h; subst h; simp [AV.ids]
  | sl e ih => intro y q cc h; cases q <;> simp [explode] at h; subst h; simp [AV.ids]
  | pr a b iha ihb =>
    intro y q cc h
    simp only [explode] at h
    rcases Nat.lt_or_ge q (explode a y.1).length with hl | hl
    · rw [List.getElem?_append_left hl] at h; exact iha _ _ _ h
    · rw [List.getElem?_append_right hl] at h; exact ihb _ _ _ h
  | expr =>
    intro y q cc h
    match q with
    | 0 => simp [explode] at h; subst h; simp [AV.ids]
    | 1 => simp [explode] at h; subst h; simp [AV.ids]
    | 2 => simp [explode] at h; subst h; simp [AV.ids]
    | 3 => simp [explode] at h; subst h; simp [AV.ids]
    | 4 => simp [explode] at h; subst h; simp [AV.ids]
    | 5 => simp [explode] at h; subst h; simp [AV.ids]
    | _ + 6 => simp [explode] at h

theorem Rv.ren' {ρ' : Nat → Option Value} {f : Nat → Nat} {c : AV} {v : Value} (h : Rv w U ρ c v) (hf : ∀ id ∈ c.ids, ∀ v, ρ id = some v → ρ' (f id) = some v) : Rv w U ρ' (c.ren f) v := by
  induction h with
  | any v => simp only [AV.ren]; exact .any v
  | kb b => simp only [AV.ren]; exact .kb b
  | bool b => simp only [AV.ren]; exact .bool b
  | int k n h => simp only [AV.ren]; exact .int k n h
  | str s h => simp only [AV.ren]; exact .str s h
  | nils a => simp only [AV.ren]; exact .nils a
  | sl0 e a c => simp only [AV.ren]; exact .sl0 e a c
  | sl e l b o c vals hc hm hb hU hcl hr ih =>
    simp only [AV.ren]
    refine .sl e l b o c vals hc hm hb hU hcl (fun i hi j cc hcc => ?_)
    have := ih i hi j cc hcc (fun id hid => by rw [explode_ids e _ j cc hcc] at hid; simp at hid)
    rwa [explode_ren f e _ j cc hcc] at this
  | vec id v h h1 => simp only [AV.ren]; exact .vec _ v (hf id (by simp [AV.ids]) _ h) h1
  | ptr id off b h => simp only [AV.ren]; exact .ptr _ off b (hf id (by simp [AV.ids]) _ h)
  | vptr id sz i off b n c h => simp only [AV.ren]; exact .vptr _ sz i off b n c (hf id (by simp [AV.ids]) _ h)
  | eptr cs off b o vals hb hU hcl h1 hr ih =>
    simp only [AV.ren, renL_map]
    refine .eptr _ off b o vals hb hU (by simpa using hcl) (by simpa using h1) (fun j c hc => ?_)
    simp only [List.getElem?_map, Option.map_eq_some_iff] at hc
    obtain ⟨c', hc', rfl⟩ := hc
    exact ih j c' hc' (fun id hid => hf id (by simp only [AV.ids]; exact idsL_mem (List.mem_of_getElem? hc') hid))
  | nilp => simp only [AV.ren]; exact .nilp
  | agg cs vs hl h1 hr ih =>
    simp only [AV.ren, renL_map]
    refine .agg _ vs (by simpa using hl) h1 (fun j c v hc hv => ?_)
    simp only [List.getElem?_map, Option.map_eq_some_iff] at hc
    obtain ⟨c', hc', rfl⟩ := hc
    exact ih j c' v hc' hv (fun id hid => hf id (by simp only [AV.ids]; exact idsL_mem (List.mem_of_getElem? hc') hid))
  | tup cs vs hl hr ih =>
    simp only [AV.ren, renL_map]
    refine .tup _ vs (by simpa using hl) (fun j c v hc hv => ?_)
    simp only [List.getElem?_map, Option.map_eq_some_iff] at hc
    obtain ⟨c', hc', rfl⟩ := hc
    exact ih j c' v hc' hv (fun id hid => hf id (by simp only [AV.ids]; exact idsL_mem (List.mem_of_getElem? hc') hid))
  | clo fn fs cs vf vc hfl hcl hrf hrc ihf ihc =>
    simp only [AV.ren, renL_map]
    refine .clo fn _ _ vf vc (by simpa using hfl) (by simpa using hcl) (fun j c v hc hv => ?_) (fun j c v hc hv => ?_)
    · simp only [List.getElem?_map, Option.map_eq_some_iff] at hc
      obtain ⟨c', hc', rfl⟩ := hc
      exact ihf j c' v hc' hv (fun id hid => hf id (by simp only [AV.ids, List.mem_append]; exact .inl (idsL_mem (List.mem_of_getElem? hc') hid)))
    · simp only [List.getElem?_map, Option.map_eq_some_iff] at hc
      obtain ⟨c', hc', rfl⟩ := hc
      exact ihc j c' v hc' hv (fun id hid => hf id (by simp only [AV.ids, List.mem_append]; exact .inr (idsL_mem (List.mem_of_getElem? hc') hid)))
  | nilf => simp only [AV.ren]; exact .nilf
  | mp id v h h1 => simp only [AV.ren]; exact .mp _ v (hf id (by simp [AV.ids]) _ h) h1
  | ifcN => simp only [AV.ren]; exact .ifcN
  | ifcS t v => simp only [AV.ren]; exact .ifcS t v
  | tab k zs b T fr hb hU => simp only [AV.ren]; exact .tab k zs b T fr hb hU
  | gint m b T fr hm hb hU => simp only [AV.ren]; exact .gint m b T fr hm hb hU

theorem RvL.ren' {ρ' : Nat → Option Value} {f : Nat → Nat} {cs : List AV} {vs : List Value} (h : RvL w U ρ cs vs) (hf : ∀ id ∈ AV.idsL cs, ∀ v, ρ id = some v → ρ' (f id) = some v) : RvL w U ρ' (AV.renL f cs) vs := by
  rw [renL_map]
  refine ⟨by simpa using h.len, fun j c v hc hv => ?_⟩
  simp only [List.getElem?_map, Option.map_eq_some_iff] at hc
  obtain ⟨c', hc', rfl⟩ := hc
  exact (h.rv j c' v hc' hv).ren' (fun id hid => hf id (idsL_mem (List.mem_of_getElem? hc') hid))

theorem objOk.ren' {ρ' : Nat → Option Value} {f : Nat → Nat} {id id' : Nat} {o : AO} (h : objOk w U ρ id o) (hid : ∀ v, ρ id = some v → ρ' id' = some v) (hf : ∀ i ∈ o.ids, ∀ v, ρ i = some v → ρ' (f i) = some v) : objOk w U ρ' id' (o.ren f) := by
  have plain : ∀ (e : Sh) (x : Sem e) (j : Nat) (c : AV) (v : Value), (explode e x)[j]? = some c → Rv w U ρ c v → Rv w U ρ' c v := by
    intro e x j c v hc hr
    have := hr.ren' (ρ' := ρ') (f := f) (fun i hi => by rw [explode_ids e x j c hc] at hi; simp at hi)
    rwa [explode_ren f e x j c hc] at this
  cases o with
  | dead => trivial
  | box cs =>
    obtain ⟨b, T, vals, h1, h2, h3, h4, h5⟩ := h
    exact ⟨b, T, vals, hid _ h1, h2, h3, h4.ren' hf, h5⟩
  | vec e l =>
    obtain ⟨a, c, h1, h2, h3⟩ := h
    refine ⟨a, c, hid _ h1, h2, ?_⟩
    rcases h3 with h3 | ⟨b, T, arr, rfl, hc, hU, hb, hsz, hle, hr⟩
    · exact .inl h3
    · refine .inr ⟨b, T, arr, rfl, hc, hU, hb, hsz, hle, fun i hi j c hx => ?_⟩
      obtain ⟨v, hv, hrv⟩ := hr i hi j c hx
      exact ⟨v, hv, plain e _ j c v hx hrv⟩
  | frz e l =>
    obtain ⟨v, h1, h2⟩ := h
    refine ⟨v, hid _ h1, ?_⟩
    have := h2.ren' (ρ' := ρ') (f := f) (by simp [AV.ids])
    simpa [AV.ren] using this
  | fmap es =>
    obtain ⟨r, ents, clock, h1, h2, h3, h4, h5⟩ := h
    refine ⟨r, ents, clock, hid _ h1, h2, h3, ?_, by rw [h5]; simp⟩
    have := h4.ren' (ρ' := ρ') (f := f) hf
    rw [renL_map] at this
    simpa [List.map_map, Function.comp_def] using this
  | vmap u es =>
    obtain ⟨r, ents, clock, h1, h2, h3, h4, h5⟩ := h
    exact ⟨r, ents, clock, hid _ h1, h2, h3, h4, h5⟩

theorem Rv.ren {ρ' : Nat → Option Value} {f : Nat → Nat} {c : AV} {v : Value} (h : Rv w U ρ c v) (hf : ∀ id ∈ c.ids, ρ' (f id) = ρ id) : Rv w U ρ' (c.ren f) v :=
  h.ren' fun id hid v hv => by rw [hf id hid]; exact hv

theorem RvL.ren {ρ' : Nat → Option Value} {f : Nat → Nat} {cs : List AV} {vs : List Value} (h : RvL w U ρ cs vs) (hf : ∀ id ∈ AV.idsL cs, ρ' (f id) = ρ id) : RvL w U ρ' (AV.renL f cs) vs :=
  h.ren' fun id hid v hv => by rw [hf id hid]; exact hv

theorem objOk.ren {ρ' : Nat → Option Value} {f : Nat → Nat} {id id' : Nat} {o : AO} (h : objOk w U ρ id o) (hid : ρ' id' = ρ id) (hf : ∀ i ∈ o.ids, ρ' (f i) = ρ i) : objOk w U ρ' id' (o.ren f) :=
  h.ren' (fun v hv => by rw [hid]; exact hv) fun id hid v hv => by rw [hf id hid]; exact hv

theorem owns_ren {f : Nat → Nat} (o : AO) : (o.ren f).owns = o.owns := by cases o <;> rfl

theorem noDup_ok : ∀ {l : List Nat}, noDup l = true → l.Nodup
  | [], _ => List.nodup_nil
  | i :: r, h => by
    simp [noDup] at h
    exact List.nodup_cons.2 ⟨h.1, noDup_ok h.2⟩

theorem reId_ok {n0 : Nat} {ids from_ : List Nat} {hp : Nat → AO} (hC : ∀ id, n0 ≤ id → C.ρ0 id = none) (hcl : closedIds hp n0 from_ ids = true) (hH : HpOk C w U ρ hp) (hr0 : ∀ id v, C.ρ0 id = some v → ρ id = some v) :
    let ρ' := fun j => (ids[j]?).bind ρ
    (∀ id ∈ from_, ρ' (ids.idxOf id) = ρ id) ∧ HpOk C w U ρ' (fun j => (ids.map fun i => (hp i).ren fun i => ids.idxOf i).getD j .dead) ∧ (∀ id, ids.length ≤ id → ρ' id = none) ∧ ∀ id v, C.ρ0 id = some v → ρ' id = some v := by
  intro ρ'
  simp only [closedIds, Bool.and_eq_true, List.all_eq_true, List.contains_iff_mem, beq_iff_eq] at hcl
  obtain ⟨⟨⟨h1, h2⟩, h3⟩, h4⟩ := hcl
  have hnd := noDup_ok h3
  have hat : ∀ id ∈ ids, ρ' (ids.idxOf id) = ρ id := by
    intro id hid
    have hlt : ids.idxOf id < ids.length := List.idxOf_lt_length_iff.2 hid
    show (ids[ids.idxOf id]?).bind ρ = ρ id
    rw [List.getElem?_eq_getElem hlt, List.getElem_idxOf hlt]
    rfl
  have hj : ∀ j (hj : j < ids.length), ρ' j = ρ ids[j] := by
    intro j hj
    show (ids[j]?).bind ρ = ρ ids[j]
    rw [List.getElem?_eq_getElem hj]
    rfl
  have hhp : ∀ j (hj : j < ids.length), (ids.map fun i => (hp i).ren fun i => ids.idxOf i).getD j .dead = (hp ids[j]).ren fun i => ids.idxOf i := by
    intro j hj
    rw [List.getD_eq_getElem?_getD, List.getElem?_map, List.getElem?_eq_getElem hj]
    rfl
  have hhp' : ∀ j, ids.length ≤ j → (ids.map fun i => (hp i).ren fun i => ids.idxOf i).getD j .dead = .dead := by
    intro j hj
    rw [List.getD_eq_getElem?_getD, List.getElem?_eq_none (by simpa using hj)]
    rfl
  have howns : ∀ j b, ownsB ρ' j ((ids.map fun i => (hp i).ren fun i => ids.idxOf i).getD j .dead) b → ∃ hj : j < ids.length, ownsB ρ ids[j] (hp ids[j]) b := by
    rintro j b ⟨ho, v, hv, hb⟩
    by_cases hlt : j < ids.length
    · refine ⟨hlt, ?_, v, by rw [← hj j hlt]; exact hv, hb⟩
      rw [hhp j hlt, owns_ren] at ho
      exact ho
    · rw [hhp' j (by omega)] at ho
      simp [AO.owns] at ho
  refine ⟨fun id hid => hat id (h1 id hid), ⟨fun j => ?_, fun j1 j2 b o1 o2 => ?_, fun j b o => ?_⟩, fun j hge => ?_, fun id v hv => ?_⟩
  · by_cases hlt : j < ids.length
    · rw [hhp j hlt]
      exact (hH.ob ids[j]).ren (hj j hlt) (fun i hi => hat i (h2 ids[j] (List.getElem_mem hlt) i hi))
    · rw [hhp' j (by omega)]; trivial
  · obtain ⟨l1, q1⟩ := howns j1 b o1
    obtain ⟨l2, q2⟩ := howns j2 b o2
    exact (List.getElem_inj hnd).1 (hH.inj _ _ b q1 q2)
  · obtain ⟨l1, q1⟩ := howns j b o
    exact hH.blk _ b q1
  · show (ids[j]?).bind ρ = none
    rw [List.getElem?_eq_none hge]; rfl
  · have hlt : id < n0 := by
      apply Classical.byContradiction
      intro hge
      rw [hC id (by omega)] at hv; cases hv
    have hget : ids[id]? = some id := by
      have e1 : (ids.take n0)[id]? = some id := by rw [h4, List.getElem?_range hlt]
      rwa [List.getElem?_take, if_pos hlt] at e1
    show (ids[id]?).bind ρ = some v
    rw [hget]
    exact hr0 id v hv

theorem norm_ok {n0 : Nat} {k : Keep} {st st' : St} (hC : ∀ id, n0 ≤ id → C.ρ0 id = none) (h : norm n0 k st = some st') (hc : Cn C st a w U ρ) : ∃ ρ', Cn C st' a w U ρ' := by
  unfold norm at h
  obtain ⟨ρ1, h1⟩ := proms_ok k.prom (mask_ok k.slots hc)
  generalize k.prom.foldl prom1 { st with tmps := mask k.slots 0 st.tmps } = s1 at h h1
  unfold reNum at h
  simp only at h
  split at h
  · rename_i hcl
    cases h
    obtain ⟨e1, e2, e3, e4⟩ := reId_ok hC hcl h1.hp h1.r0
    exact ⟨_, h1.tm.ren e1, e2, by simpa using e3, h1.df, e4⟩
  · cases h

end
open Go

def Tr.Sat {α : Type} (Φ : α → Prop) : Tr α → Prop
  | .err => False
  | .chk c t => c = true ∧ t.Sat Φ
  | .br c t f => (c = true → t.Sat Φ) ∧ (c = false → f.Sat Φ)
  | .ok a => Φ a

theorem Tr.sat_val {α : Type} {Φ : α → Prop} : ∀ {t : Tr α}, t.Sat Φ → ∃ a, t.val = some a ∧ Φ a
  | .err, h => h.elim
  | .chk c t, ⟨hc, h⟩ => by subst hc; simpa [Tr.val] using sat_val h
  | .br c t f, ⟨h1, h2⟩ => by
    cases c
    · simpa [Tr.val] using sat_val (h2 rfl)
    · simpa [Tr.val] using sat_val (h1 rfl)
  | .ok a, h => ⟨a, rfl, h⟩

theorem Tr.sat_bind {α β : Type} {Φ : β → Prop} {k : α → Tr β} : ∀ {t : Tr α}, (t.bind k).Sat Φ → t.Sat fun a => (k a).Sat Φ
  | .err, h => h
  | .chk _ _, ⟨hc, h⟩ => ⟨hc, sat_bind h⟩
  | .br _ _ _, ⟨h1, h2⟩ => ⟨fun hc => sat_bind (h1 hc), fun hc => sat_bind (h2 hc)⟩
  | .ok _, h => h

def Post (E : Env) (C : Ctx) (Q : AV → List AO → Prop) (e : Ending) (w' : World) : Prop :=
  ∃ v r h' U' ρ', e = .returned v ∧ Q r h' ∧ Rv w' U' ρ' r v ∧ HpOk C w' U' ρ' (fun j => h'.getD j .dead) ∧ (∀ id, h'.length ≤ id → ρ' id = none) ∧ (∀ id v, C.ρ0 id = some v → ρ' id = some v) ∧ Wd E.gl C w' U'

def Reach (E : Env) (C : Ctx) (fn : FuncId) (todo : List Item) (st : St) (Q : AV → List AO → Prop) : Prop :=
  ∀ (b : Frame) (cs : List Frame) (a : Act) (w : World) (U : Nat → Prop) (ρ : Nat → Option Value), b.fn = fn → b.kind = .normal → Cn C st a w U ρ → Wd E.gl C w U →
    ∃ e w' fr, Post E C Q e w' ∧ Comes E.P (lone (b.at a todo) cs w) (lone fr cs w') e ∧ fr.fn = fn ∧ fr.leaving E.P w' e

def LeafOk (E : Env) (C : Ctx) (fn : FuncId) (Q : AV → List AO → Prop) : Leaf → Prop
  | .head _ k st => Reach E C fn k st Q
  | .ret v h => Q v h
  | .fork c k1 k2 st => (c = true → Reach E C fn k1 st Q) ∧ Reach E C fn k2 st Q

section
variable {E : Env} {C : Ctx} {fn : FuncId} {Q : AV → List AO → Prop}

theorem Reach.step {todo todo' : List Item} {st : St} (h : Reach E C fn todo' st Q) (hs : ∀ (b : Frame) (a : Act) (cs : List Frame) (w : World), step E.P (lone (b.at a todo) cs w) = .next (lone (b.at a todo') cs w)) : Reach E C fn todo st Q := by
  intro b cs a w U ρ h1 h2 hc hW
  obtain ⟨e, w', fr, hp, hcm, hf, hl⟩ := h b cs a w U ρ h1 h2 hc hW
  exact ⟨e, w', fr, hp, Comes.of_steps (.one (hs b a cs w)) hcm, hf, hl⟩

def resOne (tmps : Array Value) : ResultVar → Go.Sem Value
  | .tmp t => pure (tmps.getD t undef)
  | .cell x t => do loadVar t (← asAddr (tmps.getD x undef))

theorem results_eq (f : Func) (tmps : Array Value) : results f tmps = (do
    let vs ← f.results.mapM (resOne tmps)
    pure (if h : vs.size = 1 then vs[0] else .tuple vs)) := by
  unfold results
  congr 2

theorem retVals_ok {a : Act} {w : World} {U : Nat → Prop} {ρ : Nat → Option Value} {st : St} (hc : Cn C st a w U ρ) : ∀ (rs : List ResultVar) (vs : List AV), retVals E st rs = some vs →
    ∃ xs : List Value, (rs.mapM (resOne a.tmps)).run E.P w = .ok xs w ∧ RvL w U ρ vs xs
  | [], vs, h => by
    simp [retVals] at h; subst h
    exact ⟨[], by simp, rfl, by simp⟩
  | r :: rs, vs, h => by
    simp only [retVals] at h
    split at h
    · rename_i v vs' hv hvs
      cases h
      obtain ⟨xs, hrun, hrv⟩ := retVals_ok hc rs vs' hvs
      have hslot : ∀ t, Rv w U ρ (st.tmps.getD t .any) (a.tmps.getD t undef) := by
        intro t
        by_cases ht : t < st.tmps.length
        · have ht' : t < a.tmps.toList.length := by rw [← hc.tm.len]; exact ht
          refine hc.tm.rv t _ _ (by rw [List.getD_eq_getElem?_getD, List.getElem?_eq_getElem ht]; rfl) ?_
          rw [Array.getD_eq_getD_getElem?]
          have : t < a.tmps.size := by simpa using ht'
          simp [Array.getElem?_eq_getElem this]
        · rw [List.getD_eq_getElem?_getD, List.getElem?_eq_none (by omega)]
          exact .any _
      have one : ∃ x, (resOne a.tmps r).run E.P w = .ok x w ∧ Rv w U ρ v x := by
        cases r with
        | tmp t =>
          simp only [retVal1, Option.some.injEq] at hv
          subst hv
          exact ⟨_, rfl, hslot t⟩
        | cell x t =>
          simp only [retVal1] at hv
          have hs := hslot x
          split at hv
          · rename_i id off hp
            rw [hp] at hs
            generalize hvx : a.tmps.getD x undef = vx at hs
            split at hv
            · rename_i cs hcs
              have ho := hc.hp.ob id
              rw [hcs] at ho
              have := evLoad_ok (P := E.P) (w := w) (U := U) (ρ := ρ) (hp := st.hp) (t := t) (av := .ptr id off) (v := vx) (f := { val := v }) (by simp [evLoad, hcs, hv]) hs (fun i hi => hc.hp.ob i)
              obtain ⟨r', x', e1, hrun', hr'⟩ := this
              cases e1
              cases hs with
              | ptr _ _ b hb =>
              refine ⟨x', ?_, hr'⟩
              simp only [resOne, hvx, asAddr, Sem.run_bind, Sem.run_pure, Result.andThen_ok]
              simpa [Instr.loadAt, Instr.sureAddr] using hrun'
            · cases hv
          · cases hv
      obtain ⟨x, hx, hrx⟩ := one
      refine ⟨x :: xs, ?_, ⟨by simp [hrv.len], fun j c y hc' hy => ?_⟩⟩
      · simp only [List.mapM_cons, Sem.run_bind, hx, Result.andThen_ok, hrun, Sem.run_pure]
      · cases j with
        | zero => simp at hc' hy; subst hc'; subst hy; exact hrx
        | succ j => exact hrv.rv j c y (by simpa using hc') (by simpa using hy)
    · cases h

theorem ret_ok {n0 : Nat} {f : Func} (_ : E.P.funcs[fn]? = some f) (hC : ∀ id, n0 ≤ id → C.ρ0 id = none) {rs : List ResultVar} (hrs : f.results.toList = rs) {st : St} (h : (retLeaf E n0 rs st).Sat (LeafOk E C fn Q))
    {a : Act} {w : World} {U : Nat → Prop} {ρ : Nat → Option Value} (hc : Cn C st a w U ρ) (hW : Wd E.gl C w U) : ∃ v, (results f a.tmps).run E.P w = .ok v w ∧ Post E C Q (.returned v) w := by
  unfold retLeaf at h
  split at h
  · rename_i vs hvs
    obtain ⟨xs, hrun, hrv⟩ := retVals_ok hc rs vs hvs
    simp only at h
    have hres : (results f a.tmps).run E.P w = .ok (if h : xs.toArray.size = 1 then xs.toArray[0] else .tuple xs.toArray) w := by
      rw [results_eq, Sem.run_bind, Array.mapM_eq_mapM_toList, Sem.run_map, hrs, hrun]
      rfl
    have hval : Rv w U ρ (packed vs) (if h : xs.toArray.size = 1 then xs.toArray[0] else .tuple xs.toArray) := by
      clear h hvs hrun hres
      have hl := hrv.len
      match vs, xs, hl, hrv with
      | [c], [x], _, hrv => simpa [packed] using hrv.rv 0 c x rfl rfl
      | [], [], _, _ => simpa [packed] using Rv.tup (w := w) (U := U) (ρ := ρ) [] [] rfl (by simp)
      | c1 :: c2 :: cs, x1 :: x2 :: xs, hl, hrv =>
        rw [dif_neg (by simp)]
        exact .tup _ _ hl hrv.rv
    refine ⟨_, hres, ?_⟩
    split at h
    · rename_i hcl
      obtain ⟨e1, e2, e3, e4⟩ := reId_ok hC hcl hc.hp hc.r0
      exact ⟨_, _, _, U, _, rfl, h, hval.ren e1, e2, by simpa using e3, e4, hW⟩
    · exact h.elim
  · exact h.elim

theorem decided_ok {a : Act} {w : World} {U : Nat → Prop} {ρ : Nat → Option Value} {st : St} {c : Operand} {t : Bool} (hc : Cn C st a w U ρ) (hx : a.eval c = .bool t) : Cn C (decided st c t) a w U ρ := by
  unfold decided
  split
  · rename_i i
    refine { hc with tm := ⟨by simpa using hc.tm.len, fun j d v hd hv => ?_⟩ }
    rw [List.getElem?_set] at hd
    split at hd
    · rename_i hij
      subst hij
      split at hd
      · cases hd
        have : a.eval (.tmp i) = v := by
          simp only [Act.eval]
          rw [Array.getD_eq_getD_getElem?]
          have := List.getElem?_eq_some_iff.1 hv
          obtain ⟨h1, h2⟩ := this
          have h1' : i < a.tmps.size := by simpa using h1
          simp [Array.getElem?_eq_getElem h1', ← h2]
        rw [this] at hx
        subst hx
        exact .kb t
      · cases hd
    · exact hc.tm.rv j d v hd hv
  · exact hc

theorem emptyA_ok {w : World} {U : Nat → Prop} {ρ : Nat → Option Value} {hp : Nat → AO} {av : AV} {v : Value} {c : Bool} (h : emptyA hp av = some c) (hr : Rv w U ρ av v) (hob : ∀ id, objOk w U ρ id (hp id)) : ∃ a n cp, v = .slice a n cp ∧ (a = none → c = true) := by
  have fin : ∀ {e : Sh} {l : List (Sem e)} {v : Value}, Rv w U ρ (.sl e l) v → ∃ a n cp, v = .slice a n cp ∧ (a = none → l.isEmpty = true) := by
    intro e l v hr
    cases hr with
    | sl0 _ a c => exact ⟨a, 0, c, rfl, fun _ => rfl⟩
    | sl _ _ b o c _ _ _ _ _ _ _ => exact ⟨some ⟨b, o, none⟩, _, c, rfl, fun h => by cases h⟩
  cases av <;> simp [emptyA] at h
  case nils =>
    subst h
    cases hr with
    | nils a => exact ⟨a, 0, 0, rfl, fun _ => rfl⟩
  case sl e l =>
    subst h
    obtain ⟨a, n, cp, h1, h2⟩ := fin hr
    exact ⟨a, n, cp, h1, fun h => by simpa using h2 h⟩
  case vec id =>
    cases hr with
    | vec _ _ hv _ =>
    have ho := hob id
    split at h
    · rename_i e l hid
      simp only [Option.some.injEq] at h
      subst h
      rw [hid] at ho
      obtain ⟨a, c, h1, _, h3⟩ := ho
      rw [hv] at h1; cases h1
      refine ⟨a, _, c, rfl, fun ha => ?_⟩
      rcases h3 with ⟨rfl, _⟩ | ⟨b, T, arr, hb, _⟩
      · rfl
      · rw [ha] at hb; cases hb
    · rename_i e l hid
      simp only [Option.some.injEq] at h
      subst h
      rw [hid] at ho
      obtain ⟨v', h1, h2⟩ := ho
      rw [hv] at h1; cases h1
      exact fin h2
    · cases h

theorem nil_run {P : Program} {w : World} {t el : TypeId} (hu : P.underlying t = some (.slice el)) (px qx : Operand) (p : Option Addr) (n cp : Nat) :
    (do eqGuard .eql t px qx (.slice p n cp) (.slice none 0 0); binOp .eql t (.slice p n cp) (.slice none 0 0) : Go.Sem Value).run P w = .ok (.bool p.isNone) w := by
  have g : (eqGuard .eql t px qx (.slice p n cp) (.slice none 0 0)).run P w = .ok () w := by simp [eqGuard]
  have e : (Op.equal t (.slice p n cp) (.slice none 0 0)).run P w = .ok p.isNone w := by
    show (Op.equalIn (9999 + 1) t (.slice p n cp) (.slice none 0 0)).run P w = .ok p.isNone w
    unfold Op.equalIn
    rw [Sem.run_bind, run_underlying hu]
    cases p <;> rfl
  have hb : (binOp .eql t (.slice p n cp) (.slice none 0 0) : Go.Sem Value) = (do pure (.bool (← Op.equal t (.slice p n cp) (.slice none 0 0)))) := rfl
  rw [Sem.run_bind, g, Result.andThen_ok, hb, Sem.run_bind, e, Result.andThen_ok]
  rfl

theorem nilTest_ok {st : St} {ca cb thn els : Code} {s x d : Nat} {t : TypeId} {c : Bool} {k : List Item} (hn : nilTest ca cb = some (s, x, d, t, thn, els)) (he : emptyA st.hp (st.tmps.getD s .any) = some c) (ht : isSlT0 E.P t = true) (hd : d < st.tmps.length) (hx : x < st.tmps.length)
    (h1 : c = true → Reach E C fn (.code thn :: k) { st with tmps := (st.tmps.set x (st.tmps.getD s .any)).set d .any } Q) (h2 : Reach E C fn (.code els :: k) { st with tmps := (st.tmps.set x (st.tmps.getD s .any)).set d .any } Q) : Reach E C fn (.code (.seq ca cb) :: k) st Q := by
  unfold nilTest at hn
  split at hn
  · rename_i id ops d' a0 b0
    split at hn
    · rename_i o1 o2 hops
      split at hn
      · rename_i x' s' d0 t0 x1 ty e1 e2 e3 e4 e5 e6
        split at hn
        · rename_i hcond
          obtain ⟨rfl, rfl, hxd⟩ := hcond
          cases hn
          intro b cs a w U ρ hb1 hb2 hc hW
          have hsl : ∃ el, E.P.underlying t = some (.slice el) := by
            unfold isSlT0 at ht
            split at ht
            · exact ⟨_, ‹_›⟩
            · cases ht
          obtain ⟨el, hu⟩ := hsl
          have hev : Rv w U ρ (st.tmps.getD s .any) (a.eval (.tmp s)) := by
            have := evo_ok (E := E) (known := []) hc.tm (by simp) hW.gl (.tmp s)
            simpa [evo] using this
          obtain ⟨p, n, cp, hv, hnone⟩ := emptyA_ok he hev (fun id => hc.hp.ob id)
          have hlen : st.tmps.length = a.tmps.size := by have := hc.tm.len; simpa using this
          have hops' : ops = #[o1, o2] := by apply Array.ext'; simpa using hops
          generalize hA1 : a.put (some x) (a.eval (.tmp s)) = a1
          have hx1 : a1.eval (.tmp x) = .slice p n cp := by
            rw [← hA1, hv]
            simp only [Act.eval, Act.put]
            rw [Array.getD_eq_getD_getElem?]
            simp [hlen ▸ hx]
          have hreg : (Code.region id ops false).wp E.P (fun e a' w' => e = .normal ∧ w' = w ∧ a' = a1.put (some d) (.bool p.isNone)) a w := by
            refine wp_region ?_
            rw [hops']
            show wpOps E.P #[o1, o2] _ [0, 1] a w
            simp only [wpOps, List.getElem?_toArray, List.getElem?_cons_zero, Region.wanted, e3, if_true]
            refine .inl (wp_value (v := a.eval (.tmp s)) (w' := w) (by simp [execOp, e2]) ?_)
            rw [e1, hA1]
            simp only [List.getElem?_cons_succ, List.getElem?_cons_zero, e6, if_true]
            refine .inl (wp_value (v := .bool p.isNone) (w' := w) ?_ ?_)
            · have hx1' : a1.tmps.getD x undef = .slice p n cp := hx1
              have hnr := nil_run (w := w) hu (.tmp x) (.const (.slice none 0 0)) p n cp
              have h1e : a1.eval (.tmp x) = .slice p n cp := hx1
              have h2e : a1.eval (.const (.slice none 0 0)) = .slice none 0 0 := rfl
              unfold execOp
              rw [e5]
              simp only [h1e, h2e]
              simp only [Sem.run_bind] at hnr ⊢
              simp [hnr]
            · rw [e4]; exact ⟨trivial, rfl, rfl⟩
          obtain ⟨e, a', w', ⟨rfl, rfl, rfl⟩, harr⟩ := hreg b (.code (.cond (.tmp d) thn els) :: k) cs
          have hcn : Cn C { st with tmps := (st.tmps.set x (st.tmps.getD s .any)).set d .any } (a1.put (some d) (.bool p.isNone)) w' U ρ := by
            refine ⟨?_, hc.hp, hc.new, ?_, hc.r0⟩
            · have r1 := putT_rv (d := some x) hc.tm hev
              rw [hA1] at r1
              exact putT_rv (d := some d) r1 (.any (.bool p.isNone))
            · rw [← hA1]; exact hc.df
          have hd1 : (a1.put (some d) (.bool p.isNone)).eval (.tmp d) = .bool p.isNone := by
            have hl1 : d < a1.tmps.size := by rw [← hA1]; simp [Act.put]; omega
            simp only [Act.eval, Act.put]
            rw [Array.getD_eq_getD_getElem?]
            simp [hl1]
          cases hp : p with
          | none =>
            rw [hp] at hd1 harr hcn
            obtain ⟨e, w'', fr, q1, q2, q3⟩ := h1 (hnone hp) b cs _ w' U ρ hb1 hb2 hcn hW
            exact ⟨e, w'', fr, q1, Comes.of_steps (.one step_seq) (Comes.of_steps harr (Comes.of_steps (.one (step_cond hd1)) q2)), q3⟩
          | some pa =>
            rw [hp] at hd1 harr hcn
            obtain ⟨e, w'', fr, q1, q2, q3⟩ := h2 b cs _ w' U ρ hb1 hb2 hcn hW
            exact ⟨e, w'', fr, q1, Comes.of_steps (.one step_seq) (Comes.of_steps harr (Comes.of_steps (.one (step_cond hd1)) q2)), q3⟩
        · cases hn
      · cases hn
    · cases hn
  · cases hn

theorem run_sound (hE : EnvAll E) (hm : E.P.follows .mixedOrders = true) {n0 : Nat} {f : Func} (hf : E.P.funcs[fn]? = some f) (hC : ∀ id, n0 ≤ id → C.ρ0 id = none) {rs : List ResultVar} (hrs : f.results.toList = rs) {keep : Nat → Keep} :
    ∀ (n : Nat) (todo : List Item) (st : St), (run E n0 keep rs n todo st).Sat (LeafOk E C fn Q) → Reach E C fn todo st Q
  | 0, _, _, h => h.elim
  | n + 1, todo, st, h => by
    have ih := run_sound hE hm hf hC hrs (keep := keep) n
    have head : ∀ (c : Code) (k : List Item), (headLeaf n0 (keep (firstReg c)) (firstReg c) (.code c :: .inLoop c :: k) st).Sat (LeafOk E C fn Q) → Reach E C fn (.code c :: .inLoop c :: k) st Q := by
      intro c k h
      unfold headLeaf at h
      split at h
      · rename_i st' hn
        intro b cs a w U ρ h1 h2 hc hW
        obtain ⟨ρ', hc'⟩ := norm_ok hC hn hc
        exact h b cs a w U ρ' h1 h2 hc' hW
      · exact h.elim
    have cut : ∀ (kp : Keep) (key : Nat) (todo : List Item) (st : St), (headLeaf n0 kp key todo st).Sat (LeafOk E C fn Q) → Reach E C fn todo st Q := by
      intro kp key todo st h
      unfold headLeaf at h
      split at h
      · rename_i st' hn
        intro b cs a w U ρ h1 h2 hc hW
        obtain ⟨ρ', hc'⟩ := norm_ok hC hn hc
        exact h b cs a w U ρ' h1 h2 hc' hW
      · exact h.elim
    have ending : (retLeaf E n0 rs ((keep 1000000).sett.foldl sett1 ((keep 1000000).prom.foldl prom1 st))).Sat (LeafOk E C fn Q) → ∀ (todo : List Item), (∀ (b : Frame) (a : Act) (cs : List Frame) (w : World), step E.P (lone (b.at a todo) cs w) = .next (lone { b.at a todo with mode := .returning } cs w)) → Reach E C fn todo st Q := by
      intro h todo hs b cs a w U ρ h1 h2 hc hW
      obtain ⟨ρ', hc'⟩ := proms_ok (keep 1000000).prom hc
      obtain ⟨U', hc2, hW2⟩ := setts_ok (gl := E.gl) (keep 1000000).sett hc' hW
      obtain ⟨v, hr, hp⟩ := ret_ok hf hC hrs h hc2 hW2
      refine ⟨.returned v, w, { b.at a todo with mode := .returning }, hp, .one (hs b a cs w), h1, rfl, hc.df, h2, f, ?_, hr⟩
      show E.P.funcs[b.fn]? = some f
      rw [h1]; exact hf
    unfold run at h
    split at h
    · exact ending h [] (fun b a cs w => step_end)
    · exact (ih _ _ h).step (fun b a cs w => step_inBlock)
    · split at h
      · exact (ih _ _ h).step (fun b a cs w => step_inLoop)
      · exact (head _ _ h).step (fun b a cs w => step_inLoop)
    · rename_i c k
      split at h
      · exact (ih _ _ h).step (fun b a cs w => step_skip)
      · exact (ih _ _ h).step (fun b a cs w => step_label)
      · split at h
        · rename_i hn
          split at h
          · rename_i c he
            split at h
            · rename_i hcond
              simp only [Bool.and_eq_true, decide_eq_true_eq] at hcond
              exact nilTest_ok hn he hcond.1 hcond.2.1 hcond.2.2 h.1 h.2
            · exact h.elim
          · exact h.elim
        · exact (ih _ _ h).step (fun b a cs w => step_seq)
      · rename_i co x y
        intro b cs a w U ρ h1 h2 hc hW
        have hev := evo_ok (E := E) (known := []) hc.tm (by simp) hW.gl co
        generalize hx : a.eval co = v at hev
        split at h
        · rename_i hco
          rw [hco] at hev; cases hev
          obtain ⟨e, w', fr, q1, q2, q3⟩ := ih _ _ h b cs a w U ρ h1 h2 hc hW
          exact ⟨e, w', fr, q1, Comes.of_steps (.one (step_cond hx)) q2, q3⟩
        · rename_i hco
          rw [hco] at hev; cases hev
          obtain ⟨e, w', fr, q1, q2, q3⟩ := ih _ _ h b cs a w U ρ h1 h2 hc hW
          exact ⟨e, w', fr, q1, Comes.of_steps (.one (step_cond hx)) q2, q3⟩
        · rename_i t hco
          rw [hco] at hev; cases hev
          cases t
          · obtain ⟨e, w', fr, q1, q2, q3⟩ := ih _ _ (h.2 rfl) b cs a w U ρ h1 h2 (decided_ok hc hx) hW
            exact ⟨e, w', fr, q1, Comes.of_steps (.one (step_cond hx)) q2, q3⟩
          · obtain ⟨e, w', fr, q1, q2, q3⟩ := ih _ _ (h.1 rfl) b cs a w U ρ h1 h2 (decided_ok hc hx) hW
            exact ⟨e, w', fr, q1, Comes.of_steps (.one (step_cond hx)) q2, q3⟩
        · exact h.elim
      · exact (ih _ _ h).step (fun b a cs w => step_block)
      · split at h
        · exact (ih _ _ h).step (fun b a cs w => step_loop)
        · exact (head _ _ h).step (fun b a cs w => step_loop)
      · rename_i id
        split at h
        · rename_i k' hk
          exact (ih _ _ h).step (fun b a cs w => step_exit hk)
        · exact h.elim
      · exact ending h _ (fun b a cs w => step_ret)
      · rename_i id ops draw
        intro b cs a w U ρ h1 h2 hc hW
        obtain ⟨st', hv, hs⟩ := Tr.sat_val (Tr.sat_bind h)
        obtain ⟨e, a', w', ⟨rfl, U', ρ', hc', hW'⟩, harr⟩ := evalRegion_ok (id := id) hE hm hv hc hW b k cs
        have hR : Reach E C fn k st' Q := by
          split at hs
          · exact cut _ _ _ _ hs
          · exact ih _ _ hs
        obtain ⟨e, w'', fr, q1, q2, q3⟩ := hR b cs a' w' U' ρ' h1 h2 hc' hW'
        exact ⟨e, w'', fr, q1, Comes.of_steps harr q2, q3⟩
      · exact h.elim
    · exact h.elim

end
open Go

@[reducible] def HArgs : List (Option Sh) → Type
  | [] => Unit
  | some s :: ks => Sem s × HArgs ks
  | none :: ks => AV × HArgs ks

def avs : (ks : List (Option Sh)) → HArgs ks → List AV
  | [], _ => []
  | some s :: ks, x => datum s x.1 :: avs ks x.2
  | none :: ks, x => x.1 :: avs ks x.2

abbrev GSem (ks : List (Option Sh)) := HArgs ks → List AO → Tr (AV × List AO)

def packT (hp : Nat → AO) (f : Nat → Nat) : (ks : List (Option Sh)) → List AV → Option (HArgs ks)
  | [], [] => some ()
  | some s :: ks, a :: as => match argOf hp s a, packT hp f ks as with
    | some x, some r => some (x, r)
    | _, _ => none
  | none :: ks, a :: as => match packT hp f ks as with
    | some r => some (a.ren f, r)
    | none => none
  | _, _ => none

def packArgs (hp : Nat → AO) : List (Option Sh) → List AV → Option (List (Bool × AV))
  | [], [] => some []
  | some s :: ks, a :: as => match argOf hp s a, packArgs hp ks as with
    | some x, some r => some ((false, datum s x) :: r)
    | _, _ => none
  | none :: ks, a :: as => match packArgs hp ks as with
    | some r => some ((true, a) :: r)
    | none => none
  | _, _ => none

def pureIds : List (Option Sh) → List AV → List Nat
  | some _ :: ks, a :: as => partIds a ++ pureIds ks as
  | none :: ks, _ :: as => pureIds ks as
  | _, _ => []

def scalar1 : AV → Bool
  | .bool _ | .kb _ | .int _ _ | .str _ | .ifc _ => true
  | _ => false

def scalarA : AV → Bool
  | .tup vs => vs.all scalar1
  | v => scalar1 v

def objArgs (ps : List (Bool × AV)) : List AV := (ps.filter (·.1)).map (·.2)

def gNum (π : List Nat) (n : Nat) (j : Nat) : Nat := if j < π.length then π.getD j 0 else n + (j - π.length)

def liftEff (hp : Nat → AO) (n : Nat) (π z : List Nat) (r : AV) (h' : List AO) : Tr Eff :=
  if π.length ≤ h'.length then
    .ok { val := r.ren (gNum π n), wr := (π.zip h').map (fun p => (p.1, p.2.ren (gNum π n))) ++ (if scalarA r && π.isEmpty && h'.isEmpty then [] else frzIds hp z),
          nw := (h'.drop π.length).map (AO.ren (gNum π n)) }
  else .err

def live : AO → Bool
  | .dead => false
  | _ => true

def liftF (kinds : List (Option Sh)) (G : GSem kinds) : FSem := fun args hp n =>
  match packArgs hp kinds args with
  | some ps =>
    let π := collect hp 400 (AV.idsL (objArgs ps)) []
    let z := pureIds kinds args
    if closedIds hp 0 (AV.idsL (objArgs ps)) π && z.all (fun i => isVF (hp i) && !π.contains i) && π.all (fun i => decide (i < n) && live (hp i)) then
      match packT hp (fun i => π.idxOf i) kinds args with
      | some x => (G x (π.map fun i => (hp i).ren fun i => π.idxOf i)).bind fun p => liftEff hp n π z p.1 p.2
      | none => .err
    else .err
  | none => .err

def Base (E : Env) (k : FuncId) (args : List AV) (h0 : List AO) (Q : AV → List AO → Prop) : Prop :=
  ∃ f c, E.P.funcs[k]? = some f ∧ f.body = some c ∧ (f.name == "runtime.NumGoroutine") = false ∧ args.length ≤ f.ntmps ∧
    ∀ C : Ctx, (∀ id, h0.length ≤ id → C.ρ0 id = none) → Reach E C k [.code c] (initSt f.ntmps args h0) Q

section
variable {E : Env} {w : World} {U : Nat → Prop} {ρ : Nat → Option Value}

theorem datum_rv {U' : Nat → Prop} {ρ' : Nat → Option Value} {hp : Nat → AO} {s : Sh} {av : AV} {x : Sem s} {v : Value} (h : argOf hp s av = some x) (hr : Rv w U ρ av v) (hsub : ∀ b, U' b → U b)
    (hob : ∀ id ∈ partIds av, objOk w U ρ id (hp id) ∧ ∀ b, ownsB ρ id (hp id) b → ¬ U' b) : Rv w U' ρ' (datum s x) v := by
  have plain : ∀ (c : AV) (v : Value) (j : Nat), (explode s x)[j]? = some c → Rv w U' ρ c v → Rv w U' ρ' c v := by
    intro c v j hc hr
    have := hr.ren (ρ' := ρ') (f := fun i => i) (fun i hi => by rw [explode_ids s x j c hc] at hi; simp at hi)
    rwa [explode_ren _ s x j c hc] at this
  obtain ⟨cs, hcs, himp⟩ := argOf_cells h
  obtain ⟨hcv, hcv1⟩ := cellsOf_ok hcs hr
  obtain ⟨q1, q2, q3⟩ := implode_ok (w := w) (U := U) (U' := U') (ρ := ρ) (hp := hp) hsub s cs x [] (fun j => (v.cells.toList[j]?).getD undef) himp
    (fun j c hj => by
      have hlt : j < v.cells.toList.length := by rw [← hcv.len]; exact (List.getElem?_eq_some_iff.1 hj).1
      exact hcv.rv j c _ hj (by simp [List.getElem?_eq_getElem hlt]))
    (fun id hid => hob id (by simpa [partIds, hcs] using hid))
  have hsz : v.cells.toList.length = s.size := by rw [← hcv.len]; simpa using q1
  have hagg : s.isAgg = av.isAgg := by
    unfold argOf at h
    split at h
    · rename_i he; simpa using he
    · cases h
  unfold datum
  cases ha : s.isAgg with
  | true =>
    rw [ha] at hagg
    have hvagg : v = .agg v.cells.toList.toArray := by
      cases hr with
      | agg cs' vs hl h1 hr => simp [Value.cells]
      | _ => simp [AV.isAgg] at hagg
    rw [hvagg]
    refine .agg _ _ (by rw [explode_length, hsz]) hcv1 (fun j c y hc hy => ?_)
    have := plain c _ j hc (q3 j c hc)
    rw [hy] at this
    exact this
  | false =>
    have hone : ∃ c, explode s x = [c] := by
      cases s <;> simp [Sh.isAgg] at ha <;> simp [explode]
    obtain ⟨c, hc⟩ := hone
    have hs1 : s.size = 1 := by rw [← explode_length s x, hc]; rfl
    rw [hc]
    have h0 := plain c _ 0 (by rw [hc]; rfl) (q3 0 c (by rw [hc]; rfl))
    rw [ha] at hagg
    have hv : v.cells.toList[0]? = some v := by
      cases v with
      | agg arr =>
        cases hr with
        | agg => simp [AV.isAgg] at hagg
        | any => simp [cellsOf] at hcs
        | vec _ _ _ h1 => simp [Value.oneCell'] at h1
        | mp _ _ _ h1 => simp [Value.oneCell'] at h1
      | _ => rfl
    rw [hv] at h0
    exact h0

theorem packArgs_ok {U' : Nat → Prop} {ρ' : Nat → Option Value} {hp : Nat → AO} {f : Nat → Nat} (hsub : ∀ b, U' b → U b) : ∀ (kinds : List (Option Sh)) (args : List AV) (vals : List Value) (ps : List (Bool × AV)), packArgs hp kinds args = some ps →
    RvL w U ρ args vals → (∀ id ∈ pureIds kinds args, objOk w U ρ id (hp id) ∧ ∀ b, ownsB ρ id (hp id) b → ¬ U' b) → (∀ id ∈ AV.idsL (objArgs ps), ρ' (f id) = ρ id) →
    RvL w U' ρ' (ps.map fun p => if p.1 then p.2.ren f else p.2) vals ∧ ∀ id ∈ AV.idsL (objArgs ps), id ∈ AV.idsL args
  | [], [], vals, ps, h, hr, _, _ => by
    simp [packArgs] at h; subst h
    exact ⟨by simpa using ⟨hr.len, fun j c v hc => by simp at hc⟩, by simp [objArgs, AV.idsL]⟩
  | some s :: ks, a :: as, [], ps, _, hr, _, _ => by have := hr.len; simp at this
  | none :: ks, a :: as, [], ps, _, hr, _, _ => by have := hr.len; simp at this
  | some s :: ks, a :: as, v :: vals, ps, h, hr, hob, hρ => by
    simp only [packArgs] at h
    split at h
    · rename_i x r hx hrr
      cases h
      have htl : RvL w U ρ as vals := ⟨by have := hr.len; simpa using this, fun j c v hc hv => hr.rv (j + 1) c v hc hv⟩
      obtain ⟨h1, h2⟩ := packArgs_ok hsub ks as vals r hrr htl (fun id hid => hob id (by simp [pureIds, hid])) (fun id hid => hρ id (by simpa [objArgs] using hid))
      refine ⟨⟨by simp [h1.len.symm], fun j c y hc hy => ?_⟩, fun id hid => ?_⟩
      · cases j with
        | zero =>
          simp at hc hy; subst hc; subst hy
          exact datum_rv hx (hr.rv 0 a v rfl rfl) hsub (fun id hid => hob id (by simp [pureIds, hid]))
        | succ j => exact h1.rv j c y (by simpa using hc) (by simpa using hy)
      · simp only [AV.idsL, List.mem_append]
        exact .inr (h2 id (by simpa [objArgs] using hid))
    · cases h
  | none :: ks, a :: as, v :: vals, ps, h, hr, hob, hρ => by
    simp only [packArgs] at h
    split at h
    · rename_i r hrr
      cases h
      have htl : RvL w U ρ as vals := ⟨by have := hr.len; simpa using this, fun j c v hc hv => hr.rv (j + 1) c v hc hv⟩
      obtain ⟨h1, h2⟩ := packArgs_ok hsub ks as vals r hrr htl (fun id hid => hob id (by simpa [pureIds] using hid)) (fun id hid => hρ id (by simp [objArgs, AV.idsL] at hid ⊢; exact .inr hid))
      refine ⟨⟨by simp [h1.len.symm], fun j c y hc hy => ?_⟩, fun id hid => ?_⟩
      · cases j with
        | zero =>
          simp at hc hy; subst hc; subst hy
          exact ((hr.rv 0 a v rfl rfl).weak hsub).ren (fun id hid => hρ id (by simp [objArgs, AV.idsL]; exact .inl hid))
        | succ j => exact h1.rv j c y (by simpa using hc) (by simpa using hy)
      · simp [objArgs, AV.idsL] at hid ⊢
        rcases hid with hid | hid
        · exact .inl hid
        · exact .inr (h2 id (by simpa [objArgs] using hid))
    · cases h
  | [], _ :: _, _, _, h, _, _, _ => by simp [packArgs] at h
  | some _ :: _, [], _, _, h, _, _, _ => by simp [packArgs] at h
  | none :: _, [], _, _, h, _, _, _ => by simp [packArgs] at h

theorem packT_avs {hp : Nat → AO} {f : Nat → Nat} : ∀ (kinds : List (Option Sh)) (args : List AV) (ps : List (Bool × AV)) (x : HArgs kinds), packArgs hp kinds args = some ps → packT hp f kinds args = some x →
    avs kinds x = ps.map fun p => if p.1 then p.2.ren f else p.2
  | [], [], ps, x, h, _ => by simp [packArgs] at h; subst h; rfl
  | some s :: ks, a :: as, ps, x, h, hx => by
    simp only [packArgs] at h
    simp only [packT] at hx
    split at h
    · rename_i y r hy hr
      cases h
      rw [hy] at hx
      split at hx
      · rename_i y' r' hy' hr'
        cases hy'
        cases hx
        simp [avs, packT_avs ks as r r' hr hr']
      · cases hx
    · cases h
  | none :: ks, a :: as, ps, x, h, hx => by
    simp only [packArgs] at h
    simp only [packT] at hx
    split at h
    · rename_i r hr
      cases h
      split at hx
      · rename_i r' hr'
        cases hx
        simp [avs, packT_avs ks as r r' hr hr']
      · cases hx
    · cases h
  | [], _ :: _, _, _, h, _ => by simp [packArgs] at h
  | some _ :: _, [], _, _, h, _ => by simp [packArgs] at h
  | none :: _, [], _, _, h, _ => by simp [packArgs] at h

theorem pureIds_mem : ∀ (kinds : List (Option Sh)) (args : List AV) (id : Nat), id ∈ pureIds kinds args → id ∈ AV.idsL args
  | some _ :: ks, a :: as, id, h => by
    simp only [pureIds, List.mem_append] at h
    simp only [AV.idsL, List.mem_append]
    exact h.imp partIds_ids (pureIds_mem ks as id)
  | none :: ks, _ :: as, id, h => by
    simp only [pureIds] at h
    simp only [AV.idsL, List.mem_append]
    exact .inr (pureIds_mem ks as id h)
  | [], _, _, h => by simp [pureIds] at h
  | some _ :: _, [], _, h => by simp [pureIds] at h
  | none :: _, [], _, h => by simp [pureIds] at h

theorem scalar_any {w' : World} {U' : Nat → Prop} {ρ' : Nat → Option Value} {r : AV} {v : Value} {f : Nat → Nat} (h : scalarA r = true) (hr : Rv w U ρ r v) : Rv w' U' ρ' (r.ren f) v := by
  have one : ∀ (r : AV) (v : Value), scalar1 r = true → Rv w U ρ r v → Rv w' U' ρ' (r.ren f) v := by
    intro r v h hr
    cases hr <;> simp [scalar1] at h <;> simp only [AV.ren]
    · exact .kb _
    · exact .bool _
    · exact .int _ _ ‹_›
    · exact .str _ ‹_›
    · exact .ifcN
    · exact .ifcS _ _
  cases r with
  | tup vs =>
    cases hr with
    | tup _ xs hl hrr =>
    simp only [scalarA, List.all_eq_true] at h
    simp only [AV.ren, renL_map]
    refine .tup _ xs (by simpa using hl) (fun j c v hc hv => ?_)
    simp only [List.getElem?_map, Option.map_eq_some_iff] at hc
    obtain ⟨c', hc', rfl⟩ := hc
    exact one c' v (h c' (List.mem_of_getElem? hc')) (hrr j c' v hc' hv)
  | _ => exact one _ v (by simpa [scalarA] using h) hr

theorem collect_in {hp : Nat → AO} {S : List Nat} (hcl : ∀ id ∈ S, ∀ j ∈ (hp id).ids, j ∈ S) : ∀ (fuel : Nat) (todo seen : List Nat), (∀ i ∈ todo, i ∈ S) → (∀ i ∈ seen, i ∈ S) → ∀ i ∈ collect hp fuel todo seen, i ∈ S
  | 0, _, _, _, hs => hs
  | _ + 1, [], _, _, hs => hs
  | n + 1, i :: r, seen, ht, hs => by
    simp only [collect]
    split
    · exact collect_in hcl n r seen (fun j hj => ht j (by simp [hj])) hs
    · refine collect_in hcl n _ _ (fun j hj => ?_) (fun j hj => ?_)
      · rcases List.mem_append.1 hj with hj | hj
        · exact ht j (by simp [hj])
        · exact hcl i (ht i (by simp)) j hj
      · rcases List.mem_append.1 hj with hj | hj
        · exact hs j hj
        · simp at hj; rw [hj]; exact ht i (by simp)

theorem live_rho {id : Nat} {o : AO} (h : live o = true) (ho : objOk w U ρ id o) : ∃ v, ρ id = some v := by
  cases o with
  | dead => simp [live] at h
  | box cs => obtain ⟨b, T, vals, h1, _⟩ := ho; exact ⟨_, h1⟩
  | vec e l => obtain ⟨a, c, h1, _⟩ := ho; exact ⟨_, h1⟩
  | frz e l => obtain ⟨v, h1, _⟩ := ho; exact ⟨_, h1⟩
  | fmap es => obtain ⟨r, ents, clock, h1, _⟩ := ho; exact ⟨_, h1⟩
  | vmap u es => obtain ⟨r, ents, clock, h1, _⟩ := ho; exact ⟨_, h1⟩

theorem calls_of_reach {C : Ctx} {k : FuncId} {f : Func} {c : Code} {args : List AV} {vals : List Value} {h0 : List AO} {Q : AV → List AO → Prop} (hf : E.P.funcs[k]? = some f) (hb : f.body = some c) (_ : args.length ≤ f.ntmps)
    (hR : Reach E C k [.code c] (initSt f.ntmps args h0) Q) (hr : RvL w U ρ args vals) (hH : HpOk C w U ρ (fun j => h0.getD j .dead)) (hnew : ∀ id, h0.length ≤ id → ρ id = none) (hr0 : ∀ id v, C.ρ0 id = some v → ρ id = some v)
    (hW : Wd E.gl C w U) : Calls E.P k vals.toArray w (Post E C Q) := by
  intro cs
  let b : Frame := { (default : Frame) with fn := k, kind := .normal }
  have henter : Frame.enter E.P k vals.toArray .normal = b.at { tmps := vals.toArray ++ Array.replicate (f.ntmps - vals.toArray.size) undef, defers := [] } [.code c] := by
    simp [Frame.enter, Frame.at, hf, hb, b]
  rw [henter]
  refine hR b cs _ w U ρ rfl rfl ⟨?_, hH, hnew, rfl, hr0⟩ hW
  have hl := hr.len
  simp only [initSt, Array.toList_append, Array.toList_replicate, List.size_toArray]
  rw [← hl]
  refine hr.append ⟨by simp, fun j c v hc hv => ?_⟩
  have e1 : c = .tup [] := by
    have := List.mem_of_getElem? hc
    simpa using (List.mem_replicate.1 this).2
  have e2 : v = undef := by
    have := List.mem_of_getElem? hv
    simpa using (List.mem_replicate.1 this).2
  rw [e1, e2]
  exact .tup [] [] rfl (by simp)

def CallsOk (E : Env) (k : FuncId) (args : List AV) (h0 : List AO) (Q : AV → List AO → Prop) : Prop :=
  ∀ (C : Ctx) (w : World) (U : Nat → Prop) (ρ : Nat → Option Value) (vals : List Value), (∀ id, h0.length ≤ id → C.ρ0 id = none) → RvL w U ρ args vals → HpOk C w U ρ (fun j => h0.getD j .dead) → (∀ id, h0.length ≤ id → ρ id = none) →
    (∀ id v, C.ρ0 id = some v → ρ id = some v) → Wd E.gl C w U → Calls E.P k vals.toArray w (Post E C Q)

theorem Base.calls {k : FuncId} {args : List AV} {h0 : List AO} {Q : AV → List AO → Prop} (h : Base E k args h0 Q) : CallsOk E k args h0 Q := by
  intro C w U ρ vals h1 h2 h3 h4 h5 h6
  obtain ⟨f, c, hf, hb, _, hl, hR⟩ := h
  exact calls_of_reach hf hb hl (hR C h1) h2 h3 h4 h5 h6

theorem FOk_calls {k : FuncId} {kinds : List (Option Sh)} {G : GSem kinds} (hfn : ∃ fn, E.P.funcs[k]? = some fn ∧ (fn.name == "runtime.NumGoroutine") = false ∧ fn.body.isNone = false)
    (hG : ∀ x h0 res, (G x h0).val = some res → CallsOk E k (avs kinds x) h0 (fun r h => (r, h) = res)) : FOk E.P E.gl k (liftF kinds G) := by
  refine ⟨hfn, ?_⟩
  intro w U ρ hp n args vals f fp h hr hub hgl hfp hin hcl hn
  unfold liftF at h
  split at h
  · rename_i ps hps
    simp only at h
    generalize hπ : collect hp 400 (AV.idsL (objArgs ps)) [] = π at h
    generalize hz : pureIds kinds args = z at h
    split at h
    · rename_i hcond
      simp only [Bool.and_eq_true, List.all_eq_true, decide_eq_true_eq, Bool.not_eq_true', List.contains_eq_mem, decide_eq_false_iff_not] at hcond
      obtain ⟨⟨hclosed, hzz⟩, hππ⟩ := hcond
      split at h
      rotate_left
      · simp at h
      rename_i xs hxs
      have hxa := packT_avs kinds args ps xs hps hxs
      simp only [Tr.val_bind, Option.bind_eq_some_iff] at h
      obtain ⟨⟨r, h'⟩, hGv, h⟩ := h
      unfold liftEff at h
      split at h
      · rename_i hle
        simp only [Tr.val_ok, Option.some.injEq] at h
        simp only [closedIds, Bool.and_eq_true, List.all_eq_true, List.contains_iff_mem] at hclosed
        obtain ⟨⟨⟨hc1, hc2⟩, hc3⟩, _⟩ := hclosed
        have hnd := noDup_ok hc3
        have hzfp : ∀ i ∈ z, i ∈ fp := fun i hi => hin i (pureIds_mem kinds args i (by rw [hz]; exact hi))
        generalize hU1 : (fun b => U b ∧ ¬ ∃ j ∈ z, ownsB ρ j (hp j) b) = U1
        have hU1sub : ∀ b, U1 b → U b := by intro b h; rw [← hU1] at h; exact h.1
        have hzU : ∀ j ∈ z, ∀ b, ownsB ρ j (hp j) b → ¬ U1 b := fun j hj b ho h => by rw [← hU1] at h; exact h.2 ⟨j, hj, ho⟩
        have hpk := packArgs_ok (w := w) (U := U) (ρ := ρ) (U' := U1) (ρ' := fun j => (π[j]?).bind ρ) (hp := hp) (f := fun i => π.idxOf i) hU1sub kinds args vals ps hps hr
          (fun id hid => ⟨hfp.ob id (hzfp id (by rw [← hz]; exact hid)), hzU id (by rw [← hz]; exact hid)⟩)
          (fun id hid => by
            have hlt : π.idxOf id < π.length := List.idxOf_lt_length_iff.2 (hc1 id hid)
            rw [List.getElem?_eq_getElem hlt, List.getElem_idxOf hlt]
            rfl)
        obtain ⟨hargs, hobjin⟩ := hpk
        rw [← hxa] at hargs
        have hπfp : ∀ i ∈ π, i ∈ fp := by
          rw [← hπ]
          exact collect_in hcl 400 _ [] (fun i hi => hin i (hobjin i hi)) (by simp)
        have hat : ∀ id ∈ π, ((π[π.idxOf id]?).bind ρ) = ρ id := by
          intro id hid
          have hlt : π.idxOf id < π.length := List.idxOf_lt_length_iff.2 hid
          rw [List.getElem?_eq_getElem hlt, List.getElem_idxOf hlt]
          rfl
        let C : Ctx := { w0 := w, U0 := U1, B0 := fun b => ∃ i ∈ π, ownsB ρ i (hp i) b, ρ0 := fun j => (π[j]?).bind ρ }
        have hownU1 : ∀ i ∈ π, ∀ b, ownsB ρ i (hp i) b → U1 b ∧ b < w.heap.size := by
          intro i hi b ho
          have := (hfp.ob i (hπfp i hi)).inU ho
          refine ⟨?_, this.2⟩
          rw [← hU1]
          refine ⟨this.1, fun ⟨j, hj, ho'⟩ => ?_⟩
          have e := hfp.inj i (hπfp i hi) j (hzfp j hj) b ho ho'
          subst e
          exact (hzz i hj).2 hi
        have hobj1 : ∀ i ∈ π, objOk w U1 ρ i (hp i) := fun i hi =>
          (hfp.ob i (hπfp i hi)).mono (Nat.le_refl _) (fun _ _ _ => rfl) (fun b _ h => hU1sub b h) (fun _ _ h => h) (fun b ho => ⟨rfl, (hownU1 i hi b ho).1⟩)
        have hheap : ∀ j (hj : j < π.length), (π.map fun i => (hp i).ren fun i => π.idxOf i).getD j .dead = (hp π[j]).ren fun i => π.idxOf i := by
          intro j hj
          rw [List.getD_eq_getElem?_getD, List.getElem?_map, List.getElem?_eq_getElem hj]
          rfl
        have hheap' : ∀ j, π.length ≤ j → (π.map fun i => (hp i).ren fun i => π.idxOf i).getD j .dead = .dead := by
          intro j hj
          rw [List.getD_eq_getElem?_getD, List.getElem?_eq_none (by simpa using hj)]
          rfl
        have hρl : ∀ j (hj : j < π.length), ((π[j]?).bind ρ) = ρ π[j] := fun j hj => by rw [List.getElem?_eq_getElem hj]; rfl
        have hown0 : ∀ j b, ownsB (fun j => (π[j]?).bind ρ) j ((π.map fun i => (hp i).ren fun i => π.idxOf i).getD j .dead) b → ∃ hj : j < π.length, ownsB ρ π[j] (hp π[j]) b := by
          rintro j b ⟨ho, v, hv, hb⟩
          by_cases hlt : j < π.length
          · refine ⟨hlt, ?_, v, by rw [← hρl j hlt]; exact hv, hb⟩
            rw [hheap j hlt, owns_ren] at ho
            exact ho
          · rw [hheap' j (by omega)] at ho
            simp [AO.owns] at ho
        have hH0 : HpOk C w U1 (fun j => (π[j]?).bind ρ) (fun j => (π.map fun i => (hp i).ren fun i => π.idxOf i).getD j .dead) := by
          refine ⟨fun j => ?_, fun j1 j2 b o1 o2 => ?_, fun j b o => ?_⟩
          · by_cases hlt : j < π.length
            · rw [hheap j hlt]
              exact (hobj1 π[j] (List.getElem_mem hlt)).ren (hρl j hlt) (fun i hi => hat i (hc2 π[j] (List.getElem_mem hlt) i hi))
            · rw [hheap' j (by omega)]; trivial
          · obtain ⟨l1, q1⟩ := hown0 j1 b o1
            obtain ⟨l2, q2⟩ := hown0 j2 b o2
            exact (List.getElem_inj hnd).1 (hfp.inj _ (hπfp _ (List.getElem_mem l1)) _ (hπfp _ (List.getElem_mem l2)) b q1 q2)
          · obtain ⟨l1, q1⟩ := hown0 j b o
            exact .inl ⟨π[j], List.getElem_mem l1, q1⟩
        have hW0 : Wd E.gl C w U1 := ⟨Ext.refl w, fun _ _ _ => rfl, fun b hb => hub b (hU1sub b hb), fun _ _ h => h, fun _ _ h _ => h, fun g => (hgl g).weak hU1sub⟩
        have hcalls := hG _ _ _ hGv C w U1 _ vals (fun id hid => by
            simp only [List.length_map] at hid
            show (π[id]?).bind ρ = none
            rw [List.getElem?_eq_none hid]; rfl) hargs hH0 (fun id hid => by
            simp only [List.length_map] at hid
            rw [List.getElem?_eq_none hid]; rfl) (fun _ _ h => h) hW0
        have hwrfp : ∀ id o, (id, o) ∈ f.wr → id ∈ fp := by
          intro id o hio
          rw [← h] at hio
          simp only [List.mem_append, List.mem_map] at hio
          rcases hio with ⟨p, hp', he⟩ | hio
          · have : p.1 ∈ π := (List.of_mem_zip hp').1
            cases he
            exact hπfp _ this
          · split at hio
            · simp at hio
            · exact hzfp id (frzIds_mem hio).1
        refine ⟨hcalls.mono ?_, hwrfp⟩
        rintro e w' ⟨v, r', h'', U', ρ', rfl, hq, hrv, hH', hnew', hr0', hW'⟩
        cases hq
        by_cases hbor : (scalarA r && π.isEmpty && h'.isEmpty) = true
        · -- nothing but a number: what was lent comes back
          rw [if_pos hbor] at h
          simp only [Bool.and_eq_true, List.isEmpty_iff] at hbor
          obtain ⟨⟨hsc, rfl⟩, rfl⟩ := hbor
          simp at h
          subst h
          refine ⟨v, U, ρ, rfl, ⟨hW'.ext, scalar_any hsc hrv, by simp, by simp, fun _ _ => rfl, fun _ _ h => h, fun b hb _ => hW'.same b hb (by simp [C]), fun b hb => Nat.lt_of_lt_of_le (hub b hb) hW'.ext.sz, fun _ _ h => h, fun _ _ h _ => h, by simp, by simp⟩⟩
        · rw [if_neg hbor] at h
          let ρf : Nat → Option Value := fun id => if n ≤ id ∧ id < n + (h'.length - π.length) then ρ' (π.length + (id - n)) else ρ id
          have hlive : ∀ j (hj : j < π.length), ρ' j = ρ π[j] := by
            intro j hj
            obtain ⟨x, hx⟩ := live_rho (hππ π[j] (List.getElem_mem hj)).2 (hfp.ob π[j] (hπfp _ (List.getElem_mem hj)))
            rw [hx]
            exact hr0' j x (by show (π[j]?).bind ρ = some x; rw [hρl j hj]; exact hx)
          have hg : ∀ j, j < h'.length → ρf (gNum π n j) = ρ' j := by
            intro j hj
            unfold gNum
            split
            · rename_i hlt
              rw [List.getD_eq_getElem?_getD, List.getElem?_eq_getElem hlt]
              show (if n ≤ π[j] ∧ π[j] < n + (h'.length - π.length) then ρ' (π.length + (π[j] - n)) else ρ π[j]) = ρ' j
              rw [if_neg (by have := (hππ π[j] (List.getElem_mem hlt)).1; omega), hlive j hlt]
            · rename_i hge
              show (if n ≤ n + (j - π.length) ∧ n + (j - π.length) < n + (h'.length - π.length) then ρ' (π.length + (n + (j - π.length) - n)) else ρ (n + (j - π.length))) = ρ' j
              rw [if_pos (by omega), show π.length + (n + (j - π.length) - n) = j by omega]
          have hnwl : f.nw.length = h'.length - π.length := by rw [← h]; simp
          have hrhon : ∀ id x, ρ id = some x → ρf id = some x := by
            intro id x hx
            show (if n ≤ id ∧ id < n + (h'.length - π.length) then ρ' (π.length + (id - n)) else ρ id) = some x
            rw [if_neg]
            · exact hx
            · rintro ⟨h1, h2⟩
              have := hn (id - n) (by omega)
              rw [show n + (id - n) = id by omega, hx] at this
              cases this
          have hg' : ∀ j x, ρ' j = some x → ρf (gNum π n j) = some x := by
            intro j x hx
            by_cases hj : j < h'.length
            · rw [hg j hj]; exact hx
            · rw [hnew' j (by omega)] at hx; cases hx
          have hloc : ∀ j (hj : j < h'.length), objOk w' U' ρf (gNum π n j) (h'[j].ren (gNum π n)) := by
            intro j hj
            have := hH'.ob j
            rw [show h'.getD j .dead = h'[j] by simp [List.getD_eq_getElem?_getD, hj]] at this
            exact this.ren' (fun x hx => hg' j x hx) (fun i _ x hx => hg' i x hx)
          have hwr : ∀ id o, (id, o) ∈ f.wr → (∃ j, ∃ hj : j < h'.length, j < π.length ∧ id = gNum π n j ∧ o = h'[j].ren (gNum π n)) ∨ (id ∈ z ∧ o = frzO (hp id)) := by
            intro id o hio
            rw [← h] at hio
            simp only [List.mem_append, List.mem_map] at hio
            rcases hio with ⟨p, hp', he⟩ | hio
            · obtain ⟨j, hj, hjp⟩ := List.getElem_of_mem hp'
              have hj' : j < π.length ∧ j < h'.length := by rw [List.length_zip] at hj; omega
              rw [List.getElem_zip] at hjp
              subst hjp
              cases he
              refine .inl ⟨j, hj'.2, hj'.1, ?_, rfl⟩
              simp [gNum, hj'.1]
            · exact .inr (frzIds_mem hio)
          have hnw : ∀ (k : Nat) o, f.nw[k]? = some o → ∃ hj : π.length + k < h'.length, n + k = gNum π n (π.length + k) ∧ o = h'[π.length + k].ren (gNum π n) := by
            intro k o hk
            rw [← h] at hk
            simp only [List.getElem?_map, List.getElem?_drop, Option.map_eq_some_iff] at hk
            obtain ⟨a, ha, rfl⟩ := hk
            obtain ⟨hj, ha⟩ := List.getElem?_eq_some_iff.1 ha
            exact ⟨hj, by unfold gNum; rw [if_neg (by omega)]; omega, by rw [ha]⟩
          have hfz0 : ∀ (id : Nat), (frzO (hp id)).owns = true → isVF (hp id) = true → False := by
            intro id h1 h2
            cases hh : hp id <;> rw [hh] at h1 h2 <;> simp [frzO, AO.owns, isVF] at h1 h2
          have key : ∀ id o b, ((id, o) ∈ f.wr ∨ (n ≤ id ∧ f.nw[id - n]? = some o)) → ownsB ρf id o b → ∃ j, id = gNum π n j ∧ ownsB ρ' j (h'.getD j .dead) b := by
            intro id o b hio ho
            have fin : ∀ j (hj : j < h'.length), id = gNum π n j → o = h'[j].ren (gNum π n) → ∃ j, id = gNum π n j ∧ ownsB ρ' j (h'.getD j .dead) b := by
              rintro j hj rfl rfl
              refine ⟨j, rfl, ?_⟩
              obtain ⟨h1, x, h2, h3⟩ := ho
              rw [owns_ren] at h1
              rw [hg j hj] at h2
              refine ⟨?_, x, h2, h3⟩
              rw [show h'.getD j .dead = h'[j] by simp [List.getD_eq_getElem?_getD, hj]]
              exact h1
            rcases hio with hio | ⟨hge, hio⟩
            · rcases hwr id o hio with ⟨j, hj, _, h1, h2⟩ | ⟨h1, rfl⟩
              · exact fin j hj h1 h2
              · exact (hfz0 id ho.1 (hzz id h1).1).elim
            · obtain ⟨hj, h1, h2⟩ := hnw _ o hio
              exact fin _ hj (by rw [← h1]; omega) h2
          have hB0 : ∀ b, C.B0 b → ∃ id o, (id, o) ∈ f.wr ∧ ownsB ρ id (hp id) b := by
            rintro b ⟨i, hi, ho⟩
            obtain ⟨j, hj, rfl⟩ := List.getElem_of_mem hi
            refine ⟨π[j], h'[j].ren (gNum π n), ?_, ho⟩
            rw [← h]
            simp only [List.mem_append, List.mem_map]
            refine .inl ⟨(π[j], h'[j]), ?_, rfl⟩
            have : (π.zip h')[j]? = some (π[j], h'[j]) := by simp [List.getElem?_zip_eq_some, hj, Nat.lt_of_lt_of_le hj hle]
            exact List.mem_of_getElem? this
          have hzwr : ∀ i ∈ z, (i, frzO (hp i)) ∈ f.wr := by
            intro i hi
            rw [← h]
            simp only [List.mem_append]
            exact .inr (frzIds_of hi)
          refine ⟨v, U', ρf, rfl, ⟨hW'.ext, ?_, ?_, ?_, ?_, hrhon, ?_, hW'.ub, ?_, ?_, ?_, ?_⟩⟩
          · rw [← h]; exact hrv.ren' (fun i _ x hx => hg' i x hx)
          · intro id o hio
            rcases hwr id o hio with ⟨j, hj, _, rfl, rfl⟩ | ⟨hiz, rfl⟩
            · exact hloc j hj
            · refine (freeze_ok (hfp.ob id (hzfp id hiz)) (hzz id hiz).1 hU1sub (hzU id hiz)).mono hW'.ext.sz (fun b hb hnu => ?_) hW'.u1 hrhon (fun b ho => (hfz0 id ho.1 (hzz id hiz).1).elim)
              exact hW'.same b hb (fun ⟨i, hi, ho⟩ => hnu (hownU1 i hi b ho).1)
          · intro k o hk
            obtain ⟨hj, h1, rfl⟩ := hnw k o hk
            rw [h1]; exact hloc _ hj
          · intro id hid
            show (if n ≤ id ∧ id < n + (h'.length - π.length) then ρ' (π.length + (id - n)) else ρ id) = ρ id
            rw [hnwl] at hid
            rw [if_neg (by omega)]
          · intro b hb hno
            refine hW'.same b hb (fun hB => ?_)
            obtain ⟨id, o, h1, h2⟩ := hB0 b hB
            exact hno id o h1 h2
          · intro b hb hu
            exact hU1sub b (hW'.u1 b hb hu)
          · intro b hb hu hno
            refine hW'.u2 b hb ?_ (fun hB => ?_)
            · show U1 b
              rw [← hU1]
              exact ⟨hu, fun ⟨j, hj, ho⟩ => hno j _ (hzwr j hj) ho⟩
            · obtain ⟨id, o, h1, h2⟩ := hB0 b hB
              exact hno id o h1 h2
          · intro id o b hio ho
            obtain ⟨j, _, hj⟩ := key id o b hio ho
            rcases hH'.blk j b hj with hB | hB
            · exact .inr (hB0 b hB)
            · exact .inl hB
          · intro id1 o1 id2 o2 b h1 h2 ho1 ho2
            obtain ⟨j1, e1, q1⟩ := key id1 o1 b h1 ho1
            obtain ⟨j2, e2, q2⟩ := key id2 o2 b h2 ho2
            rw [e1, e2, hH'.inj j1 j2 b q1 q2]
      · simp at h
    · simp at h
  · simp at h

theorem FOk_lift {k : FuncId} {kinds : List (Option Sh)} {G : GSem kinds} (hfn : ∃ fn, E.P.funcs[k]? = some fn ∧ (fn.name == "runtime.NumGoroutine") = false ∧ fn.body.isNone = false)
    (hG : ∀ x h0 res, (G x h0).val = some res → Base E k (avs kinds x) h0 (fun r h => (r, h) = res)) : FOk E.P E.gl k (liftF kinds G) :=
  FOk_calls hfn fun x h0 res hx => (hG x h0 res hx).calls

end
end Cad
