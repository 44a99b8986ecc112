/- A function's contract, lifted to whatever calls it. -/
import Derived.Test.YthpdpmhdaadgcaaGreatDoorG04
namespace Cad
open Go

@[reducible] def HArgs : List (Option Sh) → Type
 | [] => Unit
 | some s :: ks => Sem s × HArgs ks
 | none :: ks => AV × HArgs ks

def avs : (ks : List (Option Sh)) → HArgs ks → List AV
 | [], _ => []
 | some s :: ks, x => datum s x.1 :: avs ks x.2
 | none :: ks, x => x.1 :: avs ks x.2

abbrev GSem (ks : List (Option Sh)) := HArgs ks → List AO → Tr (AV × List AO)

def packT (hp : Nat → AO) (f : Nat → Nat) : (ks : List (Option Sh)) → List AV → Option (HArgs ks)
 | [], [] => some ()
 | some s :: ks, a :: as => match argOf hp s a, packT hp f ks as with
  | some x, some r => some (x, r)
  | _, _ => none
 | none :: ks, a :: as => match packT hp f ks as with
  | some r => some (a.ren f, r)
  | none => none
 | _, _ => none

def packArgs (hp : Nat → AO) : List (Option Sh) → List AV → Option (List (Bool × AV))
 | [], [] => some []
 | some s :: ks, a :: as => match argOf hp s a, packArgs hp ks as with
  | some x, some r => some ((false, datum s x) :: r)
  | _, _ => none
 | none :: ks, a :: as => match packArgs hp ks as with
  | some r => some ((true, a) :: r)
  | none => none
 | _, _ => none

def pureIds : List (Option Sh) → List AV → List Nat
 | some _ :: ks, a :: as => partIds a ++ pureIds ks as
 | none :: ks, _ :: as => pureIds ks as
 | _, _ => []

def scalar1 : AV → Bool
 | .bool _ | .kb _ | .int _ _ | .str _ | .ifc _ => true
 | _ => false

def scalarA : AV → Bool
 | .tup vs => vs.all scalar1
 | v => scalar1 v

def objArgs (ps : List (Bool × AV)) : List AV := (ps.filter (·.1)).map (·.2)

def gNum (π : List Nat) (n : Nat) (j : Nat) : Nat := if j < π.length then π.getD j 0 else n + (j - π.length)

def liftEff (hp : Nat → AO) (n : Nat) (π z : List Nat) (r : AV) (h' : List AO) : Tr Eff :=
  if π.length ≤ h'.length then
    .ok { val := r.ren (gNum π n), wr := (π.zip h').map (fun p => (p.1, p.2.ren (gNum π n))) ++ (if scalarA r && π.isEmpty && h'.isEmpty then [] else frzIds hp z),
          nw := (h'.drop π.length).map (AO.ren (gNum π n)) }
  else .err

def live : AO → Bool
 | .dead => false
 | _ => true

def liftF (kinds : List (Option Sh)) (G : GSem kinds) : FSem := fun args hp n =>
 match packArgs hp kinds args with
 | some ps =>
  let π := collect hp 400 (AV.idsL (objArgs ps)) []
  let z := pureIds kinds args
  if closedIds hp 0 (AV.idsL (objArgs ps)) π && z.all (fun i => isVF (hp i) && !π.contains i) && π.all (fun i => decide (i < n) && live (hp i)) then
   match packT hp (fun i => π.idxOf i) kinds args with
   | some x => (G x (π.map fun i => (hp i).ren fun i => π.idxOf i)).bind fun p => liftEff hp n π z p.1 p.2
   | none => .err
  else .err
 | none => .err

def Base (E : Env) (k : FuncId) (args : List AV) (h0 : List AO) (Q : AV → List AO → Prop) : Prop :=
 ∃ f c, E.P.funcs[k]? = some f ∧ f.body = some c ∧ (f.name == "runtime.NumGoroutine") = false ∧ args.length ≤ f.ntmps ∧
  ∀ C : Ctx, (∀ id, h0.length ≤ id → C.ρ0 id = none) → Reach E C k [.code c] (initSt f.ntmps args h0) Q

section
variable {E : Env} {w : World} {U : Nat → Prop} {ρ : Nat → Option Value}

theorem datum_rv {U' : Nat → Prop} {ρ' : Nat → Option Value} {hp : Nat → AO} {s : Sh} {av : AV} {x : Sem s} {v : Value} (h : argOf hp s av = some x) (hr : Rv w U ρ av v) (hsub : ∀ b, U' b → U b)
  (hob : ∀ id ∈ partIds av, objOk w U ρ id (hp id) ∧ ∀ b, ownsB ρ id (hp id) b → ¬ U' b) : Rv w U' ρ' (datum s x) v := by
 have plain : ∀ (c : AV) (v : Value) (j : Nat), (explode s x)[j]? = some c → Rv w U' ρ c v → Rv w U' ρ' c v := by
  intro c v j hc hr
  have := hr.ren (ρ' := ρ') (f := fun i => i) (fun i hi => by rw [explode_ids s x j c hc] at hi; simp at hi)
  rwa [explode_ren _ s x j c hc] at this
 obtain ⟨cs, hcs, himp⟩ := argOf_cells h
 obtain ⟨hcv, hcv1⟩ := cellsOf_ok hcs hr
 obtain ⟨q1, q2, q3⟩ := implode_ok (w := w) (U := U) (U' := U') (ρ := ρ) (hp := hp) hsub s cs x [] (fun j => (v.cells.toList[j]?).getD undef) himp
  (fun j c hj => by
   have hlt : j < v.cells.toList.length := by rw [← hcv.len]; exact (List.getElem?_eq_some_iff.1 hj).1
   exact hcv.rv j c _ hj (by simp [List.getElem?_eq_getElem hlt]))
  (fun id hid => hob id (by simpa [partIds, hcs] using hid))
 have hsz : v.cells.toList.length = s.size := by rw [← hcv.len]; simpa using q1
 have hagg : s.isAgg = av.isAgg := by
  unfold argOf at h
  split at h
  ·rename_i he; simpa using he
  ·cases h
 unfold datum
 cases ha : s.isAgg with
 | true =>
  rw [ha] at hagg
  have hvagg : v = .agg v.cells.toList.toArray := by
   cases hr with
   | agg cs' vs hl h1 hr => simp [Value.cells]
   | _ => simp [AV.isAgg] at hagg
  rw [hvagg]
  refine .agg _ _ (by rw [explode_length, hsz]) hcv1 (fun j c y hc hy => ?_)
  have := plain c _ j hc (q3 j c hc)
  rw [hy] at this
  exact this
 | false =>
  have hone : ∃ c, explode s x = [c] := by
   cases s <;> simp [Sh.isAgg] at ha <;> simp [explode]
  obtain ⟨c, hc⟩ := hone
  have hs1 : s.size = 1 := by rw [← explode_length s x, hc]; rfl
  rw [hc]
  have h0 := plain c _ 0 (by rw [hc]; rfl) (q3 0 c (by rw [hc]; rfl))
  rw [ha] at hagg
  have hv : v.cells.toList[0]? = some v := by
   cases v with
   | agg arr =>
    cases hr with
    | agg => simp [AV.isAgg] at hagg
    | any => simp [cellsOf] at hcs
    | vec _ _ _ h1 => simp [Value.oneCell'] at h1
    | mp _ _ _ h1 => simp [Value.oneCell'] at h1
   | _ => rfl
  rw [hv] at h0
  exact h0

theorem packArgs_ok {U' : Nat → Prop} {ρ' : Nat → Option Value} {hp : Nat → AO} {f : Nat → Nat} (hsub : ∀ b, U' b → U b) : ∀ (kinds : List (Option Sh)) (args : List AV) (vals : List Value) (ps : List (Bool × AV)), packArgs hp kinds args = some ps →
  RvL w U ρ args vals → (∀ id ∈ pureIds kinds args, objOk w U ρ id (hp id) ∧ ∀ b, ownsB ρ id (hp id) b → ¬ U' b) → (∀ id ∈ AV.idsL (objArgs ps), ρ' (f id) = ρ id) →
  RvL w U' ρ' (ps.map fun p => if p.1 then p.2.ren f else p.2) vals ∧ ∀ id ∈ AV.idsL (objArgs ps), id ∈ AV.idsL args
 | [], [], vals, ps, h, hr, _, _ => by
  simp [packArgs] at h; subst h
  exact ⟨by simpa using ⟨hr.len, fun j c v hc => by simp at hc⟩, by simp [objArgs, AV.idsL]⟩
 | some s :: ks, a :: as, [], ps, _, hr, _, _ => by have := hr.len; simp at this
 | none :: ks, a :: as, [], ps, _, hr, _, _ => by have := hr.len; simp at this
 | some s :: ks, a :: as, v :: vals, ps, h, hr, hob, hρ => by
  simp only [packArgs] at h
  split at h
  ·rename_i x r hx hrr
   cases h
   have htl : RvL w U ρ as vals := ⟨by have := hr.len; simpa using this, fun j c v hc hv => hr.rv (j + 1) c v hc hv⟩
   obtain ⟨h1, h2⟩ := packArgs_ok hsub ks as vals r hrr htl (fun id hid => hob id (by simp [pureIds, hid])) (fun id hid => hρ id (by simpa [objArgs] using hid))
   refine ⟨⟨by simp [h1.len.symm], fun j c y hc hy => ?_⟩, fun id hid => ?_⟩
   ·cases j with
    | zero =>
     simp at hc hy; subst hc; subst hy
     exact datum_rv hx (hr.rv 0 a v rfl rfl) hsub (fun id hid => hob id (by simp [pureIds, hid]))
    | succ j => exact h1.rv j c y (by simpa using hc) (by simpa using hy)
   ·simp only [AV.idsL, List.mem_append]
    exact .inr (h2 id (by simpa [objArgs] using hid))
  ·cases h
 | none :: ks, a :: as, v :: vals, ps, h, hr, hob, hρ => by
  simp only [packArgs] at h
  split at h
  ·rename_i r hrr
   cases h
   have htl : RvL w U ρ as vals := ⟨by have := hr.len; simpa using this, fun j c v hc hv => hr.rv (j + 1) c v hc hv⟩
   obtain ⟨h1, h2⟩ := packArgs_ok hsub ks as vals r hrr htl (fun id hid => hob id (by simpa [pureIds] using hid)) (fun id hid => hρ id (by simp [objArgs, AV.idsL] at hid ⊢; exact .inr hid))
   refine ⟨⟨by simp [h1.len.symm], fun j c y hc hy => ?_⟩, fun id hid => ?_⟩
   ·cases j with
    | zero =>
     simp at hc hy; subst hc; subst hy
     exact ((hr.rv 0 a v rfl rfl).weak hsub).ren (fun id hid => hρ id (by simp [objArgs, AV.idsL]; exact .inl hid))
    | succ j => exact h1.rv j c y (by simpa using hc) (by simpa using hy)
   ·simp [objArgs, AV.idsL] at hid ⊢
    rcases hid with hid | hid
    ·exact .inl hid
    ·exact .inr (h2 id (by simpa [objArgs] using hid))
  ·cases h
 | [], _ :: _, _, _, h, _, _, _ => by simp [packArgs] at h
 | some _ :: _, [], _, _, h, _, _, _ => by simp [packArgs] at h
 | none :: _, [], _, _, h, _, _, _ => by simp [packArgs] at h

theorem packT_avs {hp : Nat → AO} {f : Nat → Nat} : ∀ (kinds : List (Option Sh)) (args : List AV) (ps : List (Bool × AV)) (x : HArgs kinds), packArgs hp kinds args = some ps → packT hp f kinds args = some x →
  avs kinds x = ps.map fun p => if p.1 then p.2.ren f else p.2
 | [], [], ps, x, h, _ => by simp [packArgs] at h; subst h; rfl
 | some s :: ks, a :: as, ps, x, h, hx => by
  simp only [packArgs] at h
  simp only [packT] at hx
  split at h
  ·rename_i y r hy hr
   cases h
   rw [hy] at hx
   split at hx
   ·rename_i y' r' hy' hr'
    cases hy'
    cases hx
    simp [avs, packT_avs ks as r r' hr hr']
   ·cases hx
  ·cases h
 | none :: ks, a :: as, ps, x, h, hx => by
  simp only [packArgs] at h
  simp only [packT] at hx
  split at h
  ·rename_i r hr
   cases h
   split at hx
   ·rename_i r' hr'
    cases hx
    simp [avs, packT_avs ks as r r' hr hr']
   ·cases hx
  ·cases h
 | [], _ :: _, _, _, h, _ => by simp [packArgs] at h
 | some _ :: _, [], _, _, h, _ => by simp [packArgs] at h
 | none :: _, [], _, _, h, _ => by simp [packArgs] at h

theorem pureIds_mem : ∀ (kinds : List (Option Sh)) (args : List AV) (id : Nat), id ∈ pureIds kinds args → id ∈ AV.idsL args
 | some _ :: ks, a :: as, id, h => by
  simp only [pureIds, List.mem_append] at h
  simp only [AV.idsL, List.mem_append]
  exact h.imp partIds_ids (pureIds_mem ks as id)
 | none :: ks, _ :: as, id, h => by
  simp only [pureIds] at h
  simp only [AV.idsL, List.mem_append]
  exact .inr (pureIds_mem ks as id h)
 | [], _, _, h => by simp [pureIds] at h
 | some _ :: _, [], _, h => by simp [pureIds] at h
 | none :: _, [], _, h => by simp [pureIds] at h

theorem scalar_any {w' : World} {U' : Nat → Prop} {ρ' : Nat → Option Value} {r : AV} {v : Value} {f : Nat → Nat} (h : scalarA r = true) (hr : Rv w U ρ r v) : Rv w' U' ρ' (r.ren f) v := by
 have one : ∀ (r : AV) (v : Value), scalar1 r = true → Rv w U ρ r v → Rv w' U' ρ' (r.ren f) v := by
  intro r v h hr
  cases hr <;> simp [scalar1] at h <;> simp only [AV.ren]
  ·exact .kb _
  ·exact .bool _
  ·exact .int _ _ ‹_›
  ·exact .str _ ‹_›
  ·exact .ifcN
  ·exact .ifcS _ _
 cases r with
 | tup vs =>
  cases hr with
  | tup _ xs hl hrr =>
  simp only [scalarA, List.all_eq_true] at h
  simp only [AV.ren, renL_map]
  refine .tup _ xs (by simpa using hl) (fun j c v hc hv => ?_)
  simp only [List.getElem?_map, Option.map_eq_some_iff] at hc
  obtain ⟨c', hc', rfl⟩ := hc
  exact one c' v (h c' (List.mem_of_getElem? hc')) (hrr j c' v hc' hv)
 | _ => exact one _ v (by simpa [scalarA] using h) hr

theorem collect_in {hp : Nat → AO} {S : List Nat} (hcl : ∀ id ∈ S, ∀ j ∈ (hp id).ids, j ∈ S) : ∀ (fuel : Nat) (todo seen : List Nat), (∀ i ∈ todo, i ∈ S) → (∀ i ∈ seen, i ∈ S) → ∀ i ∈ collect hp fuel todo seen, i ∈ S
 | 0, _, _, _, hs => hs
 | _ + 1, [], _, _, hs => hs
 | n + 1, i :: r, seen, ht, hs => by
  simp only [collect]
  split
  ·exact collect_in hcl n r seen (fun j hj => ht j (by simp [hj])) hs
  ·refine collect_in hcl n _ _ (fun j hj => ?_) (fun j hj => ?_)
   ·rcases List.mem_append.1 hj with hj | hj
    ·exact ht j (by simp [hj])
    ·exact hcl i (ht i (by simp)) j hj
   ·rcases List.mem_append.1 hj with hj | hj
    ·exact hs j hj
    ·simp at hj; rw [hj]; exact ht i (by simp)

theorem live_rho {id : Nat} {o : AO} (h : live o = true) (ho : objOk w U ρ id o) : ∃ v, ρ id = some v := by
 cases o with
 | dead => simp [live] at h
 | box cs => obtain ⟨b, T, vals, h1, _⟩ := ho; exact ⟨_, h1⟩
 | vec e l => obtain ⟨a, c, h1, _⟩ := ho; exact ⟨_, h1⟩
 | frz e l => obtain ⟨v, h1, _⟩ := ho; exact ⟨_, h1⟩
 | fmap es => obtain ⟨r, ents, clock, h1, _⟩ := ho; exact ⟨_, h1⟩
 | vmap u es => obtain ⟨r, ents, clock, h1, _⟩ := ho; exact ⟨_, h1⟩

theorem calls_of_reach {C : Ctx} {k : FuncId} {f : Func} {c : Code} {args : List AV} {vals : List Value} {h0 : List AO} {Q : AV → List AO → Prop} (hf : E.P.funcs[k]? = some f) (hb : f.body = some c) (_ : args.length ≤ f.ntmps)
  (hR : Reach E C k [.code c] (initSt f.ntmps args h0) Q) (hr : RvL w U ρ args vals) (hH : HpOk C w U ρ (fun j => h0.getD j .dead)) (hnew : ∀ id, h0.length ≤ id → ρ id = none) (hr0 : ∀ id v, C.ρ0 id = some v → ρ id = some v)
  (hW : Wd E.gl C w U) : Calls E.P k vals.toArray w (Post E C Q) := by
 intro cs
 let b : Frame := { (default : Frame) with fn := k, kind := .normal }
 have henter : Frame.enter E.P k vals.toArray .normal = b.at { tmps := vals.toArray ++ Array.replicate (f.ntmps - vals.toArray.size) undef, defers := [] } [.code c] := by
  simp [Frame.enter, Frame.at, hf, hb, b]
 rw [henter]
 refine hR b cs _ w U ρ rfl rfl ⟨?_, hH, hnew, rfl, hr0⟩ hW
 have hl := hr.len
 simp only [initSt, Array.toList_append, Array.toList_replicate, List.size_toArray]
 rw [← hl]
 refine hr.append ⟨by simp, fun j c v hc hv => ?_⟩
 have e1 : c = .tup [] := by
  have := List.mem_of_getElem? hc
  simpa using (List.mem_replicate.1 this).2
 have e2 : v = undef := by
  have := List.mem_of_getElem? hv
  simpa using (List.mem_replicate.1 this).2
 rw [e1, e2]
 exact .tup [] [] rfl (by simp)

def CallsOk (E : Env) (k : FuncId) (args : List AV) (h0 : List AO) (Q : AV → List AO → Prop) : Prop :=
 ∀ (C : Ctx) (w : World) (U : Nat → Prop) (ρ : Nat → Option Value) (vals : List Value), (∀ id, h0.length ≤ id → C.ρ0 id = none) → RvL w U ρ args vals → HpOk C w U ρ (fun j => h0.getD j .dead) → (∀ id, h0.length ≤ id → ρ id = none) →
  (∀ id v, C.ρ0 id = some v → ρ id = some v) → Wd E.gl C w U → Calls E.P k vals.toArray w (Post E C Q)

theorem Base.calls {k : FuncId} {args : List AV} {h0 : List AO} {Q : AV → List AO → Prop} (h : Base E k args h0 Q) : CallsOk E k args h0 Q := by
 intro C w U ρ vals h1 h2 h3 h4 h5 h6
 obtain ⟨f, c, hf, hb, _, hl, hR⟩ := h
 exact calls_of_reach hf hb hl (hR C h1) h2 h3 h4 h5 h6

theorem FOk_calls {k : FuncId} {kinds : List (Option Sh)} {G : GSem kinds} (hfn : ∃ fn, E.P.funcs[k]? = some fn ∧ (fn.name == "runtime.NumGoroutine") = false ∧ fn.body.isNone = false)
    (hG : ∀ x h0 res, (G x h0).val = some res → CallsOk E k (avs kinds x) h0 (fun r h => (r, h) = res)) : FOk E.P E.gl k (liftF kinds G) := by
  refine ⟨hfn, ?_⟩
  intro w U ρ hp n args vals f fp h hr hub hgl hfp hin hcl hn
  unfold liftF at h
  split at h
  · rename_i ps hps
    simp only at h
    generalize hπ : collect hp 400 (AV.idsL (objArgs ps)) [] = π at h
    generalize hz : pureIds kinds args = z at h
    split at h
    · rename_i hcond
      simp only [Bool.and_eq_true, List.all_eq_true, decide_eq_true_eq, Bool.not_eq_true', List.contains_eq_mem, decide_eq_false_iff_not] at hcond
      obtain ⟨⟨hclosed, hzz⟩, hππ⟩ := hcond
      split at h
      rotate_left
      · simp at h
      rename_i xs hxs
      have hxa := packT_avs kinds args ps xs hps hxs
      simp only [Tr.val_bind, Option.bind_eq_some_iff] at h
      obtain ⟨⟨r, h'⟩, hGv, h⟩ := h
      unfold liftEff at h
      split at h
      · rename_i hle
        simp only [Tr.val_ok, Option.some.injEq] at h
        simp only [closedIds, Bool.and_eq_true, List.all_eq_true, List.contains_iff_mem] at hclosed
        obtain ⟨⟨⟨hc1, hc2⟩, hc3⟩, _⟩ := hclosed
        have hnd := noDup_ok hc3
        have hzfp : ∀ i ∈ z, i ∈ fp := fun i hi => hin i (pureIds_mem kinds args i (by rw [hz]; exact hi))
        generalize hU1 : (fun b => U b ∧ ¬ ∃ j ∈ z, ownsB ρ j (hp j) b) = U1
        have hU1sub : ∀ b, U1 b → U b := by intro b h; rw [← hU1] at h; exact h.1
        have hzU : ∀ j ∈ z, ∀ b, ownsB ρ j (hp j) b → ¬ U1 b := fun j hj b ho h => by rw [← hU1] at h; exact h.2 ⟨j, hj, ho⟩
        have hpk := packArgs_ok (w := w) (U := U) (ρ := ρ) (U' := U1) (ρ' := fun j => (π[j]?).bind ρ) (hp := hp) (f := fun i => π.idxOf i) hU1sub kinds args vals ps hps hr
          (fun id hid => ⟨hfp.ob id (hzfp id (by rw [← hz]; exact hid)), hzU id (by rw [← hz]; exact hid)⟩)
          (fun id hid => by
            have hlt : π.idxOf id < π.length := List.idxOf_lt_length_iff.2 (hc1 id hid)
            rw [List.getElem?_eq_getElem hlt, List.getElem_idxOf hlt]
            rfl)
        obtain ⟨hargs, hobjin⟩ := hpk
        rw [← hxa] at hargs
        have hπfp : ∀ i ∈ π, i ∈ fp := by
          rw [← hπ]
          exact collect_in hcl 400 _ [] (fun i hi => hin i (hobjin i hi)) (by simp)
        have hat : ∀ id ∈ π, ((π[π.idxOf id]?).bind ρ) = ρ id := by
          intro id hid
          have hlt : π.idxOf id < π.length := List.idxOf_lt_length_iff.2 hid
          rw [List.getElem?_eq_getElem hlt, List.getElem_idxOf hlt]
          rfl
        let C : Ctx := { w0 := w, U0 := U1, B0 := fun b => ∃ i ∈ π, ownsB ρ i (hp i) b, ρ0 := fun j => (π[j]?).bind ρ }
        have hownU1 : ∀ i ∈ π, ∀ b, ownsB ρ i (hp i) b → U1 b ∧ b < w.heap.size := by
          intro i hi b ho
          have := (hfp.ob i (hπfp i hi)).inU ho
          refine ⟨?_, this.2⟩
          rw [← hU1]
          refine ⟨this.1, fun ⟨j, hj, ho'⟩ => ?_⟩
          have e := hfp.inj i (hπfp i hi) j (hzfp j hj) b ho ho'
          subst e
          exact (hzz i hj).2 hi
        have hobj1 : ∀ i ∈ π, objOk w U1 ρ i (hp i) := fun i hi =>
          (hfp.ob i (hπfp i hi)).mono (Nat.le_refl _) (fun _ _ _ => rfl) (fun b _ h => hU1sub b h) (fun _ _ h => h) (fun b ho => ⟨rfl, (hownU1 i hi b ho).1⟩)
        have hheap : ∀ j (hj : j < π.length), (π.map fun i => (hp i).ren fun i => π.idxOf i).getD j .dead = (hp π[j]).ren fun i => π.idxOf i := by
          intro j hj
          rw [List.getD_eq_getElem?_getD, List.getElem?_map, List.getElem?_eq_getElem hj]
          rfl
        have hheap' : ∀ j, π.length ≤ j → (π.map fun i => (hp i).ren fun i => π.idxOf i).getD j .dead = .dead := by
          intro j hj
          rw [List.getD_eq_getElem?_getD, List.getElem?_eq_none (by simpa using hj)]
          rfl
        have hρl : ∀ j (hj : j < π.length), ((π[j]?).bind ρ) = ρ π[j] := fun j hj => by rw [List.getElem?_eq_getElem hj]; rfl
        have hown0 : ∀ j b, ownsB (fun j => (π[j]?).bind ρ) j ((π.map fun i => (hp i).ren fun i => π.idxOf i).getD j .dead) b → ∃ hj : j < π.length, ownsB ρ π[j] (hp π[j]) b := by
          rintro j b ⟨ho, v, hv, hb⟩
          by_cases hlt : j < π.length
          · refine ⟨hlt, ?_, v, by rw [← hρl j hlt]; exact hv, hb⟩
            rw [hheap j hlt, owns_ren] at ho
            exact ho
          · rw [hheap' j (by omega)] at ho
            simp [AO.owns] at ho
        have hH0 : HpOk C w U1 (fun j => (π[j]?).bind ρ) (fun j => (π.map fun i => (hp i).ren fun i => π.idxOf i).getD j .dead) := by
          refine ⟨fun j => ?_, fun j1 j2 b o1 o2 => ?_, fun j b o => ?_⟩
          · by_cases hlt : j < π.length
            · rw [hheap j hlt]
              exact (hobj1 π[j] (List.getElem_mem hlt)).ren (hρl j hlt) (fun i hi => hat i (hc2 π[j] (List.getElem_mem hlt) i hi))
            · rw [hheap' j (by omega)]; trivial
          · obtain ⟨l1, q1⟩ := hown0 j1 b o1
            obtain ⟨l2, q2⟩ := hown0 j2 b o2
            exact (List.getElem_inj hnd).1 (hfp.inj _ (hπfp _ (List.getElem_mem l1)) _ (hπfp _ (List.getElem_mem l2)) b q1 q2)
          · obtain ⟨l1, q1⟩ := hown0 j b o
            exact .inl ⟨π[j], List.getElem_mem l1, q1⟩
        have hW0 : Wd E.gl C w U1 := ⟨Ext.refl w, fun _ _ _ => rfl, fun b hb => hub b (hU1sub b hb), fun _ _ h => h, fun _ _ h _ => h, fun g => (hgl g).weak hU1sub⟩
        have hcalls := hG _ _ _ hGv C w U1 _ vals (fun id hid => by
            simp only [List.length_map] at hid
            show (π[id]?).bind ρ = none
            rw [List.getElem?_eq_none hid]; rfl) hargs hH0 (fun id hid => by
            simp only [List.length_map] at hid
            rw [List.getElem?_eq_none hid]; rfl) (fun _ _ h => h) hW0
        have hwrfp : ∀ id o, (id, o) ∈ f.wr → id ∈ fp := by
          intro id o hio
          rw [← h] at hio
          simp only [List.mem_append, List.mem_map] at hio
          rcases hio with ⟨p, hp', he⟩ | hio
          · have : p.1 ∈ π := (List.of_mem_zip hp').1
            cases he
            exact hπfp _ this
          · split at hio
            · simp at hio
            · exact hzfp id (frzIds_mem hio).1
        refine ⟨hcalls.mono ?_, hwrfp⟩
        rintro e w' ⟨v, r', h'', U', ρ', rfl, hq, hrv, hH', hnew', hr0', hW'⟩
        cases hq
        by_cases hbor : (scalarA r && π.isEmpty && h'.isEmpty) = true
        · -- nothing but a number: what was lent comes back
          rw [if_pos hbor] at h
          simp only [Bool.and_eq_true, List.isEmpty_iff] at hbor
          obtain ⟨⟨hsc, rfl⟩, rfl⟩ := hbor
          simp at h
          subst h
          refine ⟨v, U, ρ, rfl, ⟨hW'.ext, scalar_any hsc hrv, by simp, by simp, fun _ _ => rfl, fun _ _ h => h, fun b hb _ => hW'.same b hb (by simp [C]), fun b hb => Nat.lt_of_lt_of_le (hub b hb) hW'.ext.sz, fun _ _ h => h, fun _ _ h _ => h, by simp, by simp⟩⟩
        · rw [if_neg hbor] at h
          let ρf : Nat → Option Value := fun id => if n ≤ id ∧ id < n + (h'.length - π.length) then ρ' (π.length + (id - n)) else ρ id
          have hlive : ∀ j (hj : j < π.length), ρ' j = ρ π[j] := by
            intro j hj
            obtain ⟨x, hx⟩ := live_rho (hππ π[j] (List.getElem_mem hj)).2 (hfp.ob π[j] (hπfp _ (List.getElem_mem hj)))
            rw [hx]
            exact hr0' j x (by show (π[j]?).bind ρ = some x; rw [hρl j hj]; exact hx)
          have hg : ∀ j, j < h'.length → ρf (gNum π n j) = ρ' j := by
            intro j hj
            unfold gNum
            split
            · rename_i hlt
              rw [List.getD_eq_getElem?_getD, List.getElem?_eq_getElem hlt]
              show (if n ≤ π[j] ∧ π[j] < n + (h'.length - π.length) then ρ' (π.length + (π[j] - n)) else ρ π[j]) = ρ' j
              rw [if_neg (by have := (hππ π[j] (List.getElem_mem hlt)).1; omega), hlive j hlt]
            · rename_i hge
              show (if n ≤ n + (j - π.length) ∧ n + (j - π.length) < n + (h'.length - π.length) then ρ' (π.length + (n + (j - π.length) - n)) else ρ (n + (j - π.length))) = ρ' j
              rw [if_pos (by omega), show π.length + (n + (j - π.length) - n) = j by omega]
          have hnwl : f.nw.length = h'.length - π.length := by rw [← h]; simp
          have hrhon : ∀ id x, ρ id = some x → ρf id = some x := by
            intro id x hx
            show (if n ≤ id ∧ id < n + (h'.length - π.length) then ρ' (π.length + (id - n)) else ρ id) = some x
            rw [if_neg]
            · exact hx
            · rintro ⟨h1, h2⟩
              have := hn (id - n) (by omega)
              rw [show n + (id - n) = id by omega, hx] at this
              cases this
          have hg' : ∀ j x, ρ' j = some x → ρf (gNum π n j) = some x := by
            intro j x hx
            by_cases hj : j < h'.length
            · rw [hg j hj]; exact hx
            · rw [hnew' j (by omega)] at hx; cases hx
          have hloc : ∀ j (hj : j < h'.length), objOk w' U' ρf (gNum π n j) (h'[j].ren (gNum π n)) := by
            intro j hj
            have := hH'.ob j
            rw [show h'.getD j .dead = h'[j] by simp [List.getD_eq_getElem?_getD, hj]] at this
            exact this.ren' (fun x hx => hg' j x hx) (fun i _ x hx => hg' i x hx)
          have hwr : ∀ id o, (id, o) ∈ f.wr → (∃ j, ∃ hj : j < h'.length, j < π.length ∧ id = gNum π n j ∧ o = h'[j].ren (gNum π n)) ∨ (id ∈ z ∧ o = frzO (hp id)) := by
            intro id o hio
            rw [← h] at hio
            simp only [List.mem_append, List.mem_map] at hio
            rcases hio with ⟨p, hp', he⟩ | hio
            · obtain ⟨j, hj, hjp⟩ := List.getElem_of_mem hp'
              have hj' : j < π.length ∧ j < h'.length := by rw [List.length_zip] at hj; omega
              rw [List.getElem_zip] at hjp
              subst hjp
              cases he
              refine .inl ⟨j, hj'.2, hj'.1, ?_, rfl⟩
              simp [gNum, hj'.1]
            · exact .inr (frzIds_mem hio)
          have hnw : ∀ (k : Nat) o, f.nw[k]? = some o → ∃ hj : π.length + k < h'.length, n + k = gNum π n (π.length + k) ∧ o = h'[π.length + k].ren (gNum π n) := by
            intro k o hk
            rw [← h] at hk
            simp only [List.getElem?_map, List.getElem?_drop, Option.map_eq_some_iff] at hk
            obtain ⟨a, ha, rfl⟩ := hk
            obtain ⟨hj, ha⟩ := List.getElem?_eq_some_iff.1 ha
            exact ⟨hj, by unfold gNum; rw [if_neg (by omega)]; omega, by rw [ha]⟩
          have hfz0 : ∀ (id : Nat), (frzO (hp id)).owns = true → isVF (hp id) = true → False := by
            intro id h1 h2
            cases hh : hp id <;> rw [hh] at h1 h2 <;> simp [frzO, AO.owns, isVF] at h1 h2
          have key : ∀ id o b, ((id, o) ∈ f.wr ∨ (n ≤ id ∧ f.nw[id - n]? = some o)) → ownsB ρf id o b → ∃ j, id = gNum π n j ∧ ownsB ρ' j (h'.getD j .dead) b := by
            intro id o b hio ho
            have fin : ∀ j (hj : j < h'.length), id = gNum π n j → o = h'[j].ren (gNum π n) → ∃ j, id = gNum π n j ∧ ownsB ρ' j (h'.getD j .dead) b := by
              rintro j hj rfl rfl
              refine ⟨j, rfl, ?_⟩
              obtain ⟨h1, x, h2, h3⟩ := ho
              rw [owns_ren] at h1
              rw [hg j hj] at h2
              refine ⟨?_, x, h2, h3⟩
              rw [show h'.getD j .dead = h'[j] by simp [List.getD_eq_getElem?_getD, hj]]
              exact h1
            rcases hio with hio | ⟨hge, hio⟩
            · rcases hwr id o hio with ⟨j, hj, _, h1, h2⟩ | ⟨h1, rfl⟩
              · exact fin j hj h1 h2
              · exact (hfz0 id ho.1 (hzz id h1).1).elim
            · obtain ⟨hj, h1, h2⟩ := hnw _ o hio
              exact fin _ hj (by rw [← h1]; omega) h2
          have hB0 : ∀ b, C.B0 b → ∃ id o, (id, o) ∈ f.wr ∧ ownsB ρ id (hp id) b := by
            rintro b ⟨i, hi, ho⟩
            obtain ⟨j, hj, rfl⟩ := List.getElem_of_mem hi
            refine ⟨π[j], h'[j].ren (gNum π n), ?_, ho⟩
            rw [← h]
            simp only [List.mem_append, List.mem_map]
            refine .inl ⟨(π[j], h'[j]), ?_, rfl⟩
            have : (π.zip h')[j]? = some (π[j], h'[j]) := by simp [List.getElem?_zip_eq_some, hj, Nat.lt_of_lt_of_le hj hle]
            exact List.mem_of_getElem? this
          have hzwr : ∀ i ∈ z, (i, frzO (hp i)) ∈ f.wr := by
            intro i hi
            rw [← h]
            simp only [List.mem_append]
            exact .inr (frzIds_of hi)
          refine ⟨v, U', ρf, rfl, ⟨hW'.ext, ?_, ?_, ?_, ?_, hrhon, ?_, hW'.ub, ?_, ?_, ?_, ?_⟩⟩
          · rw [← h]; exact hrv.ren' (fun i _ x hx => hg' i x hx)
          · intro id o hio
            rcases hwr id o hio with ⟨j, hj, _, rfl, rfl⟩ | ⟨hiz, rfl⟩
            · exact hloc j hj
            · refine (freeze_ok (hfp.ob id (hzfp id hiz)) (hzz id hiz).1 hU1sub (hzU id hiz)).mono hW'.ext.sz (fun b hb hnu => ?_) hW'.u1 hrhon (fun b ho => (hfz0 id ho.1 (hzz id hiz).1).elim)
              exact hW'.same b hb (fun ⟨i, hi, ho⟩ => hnu (hownU1 i hi b ho).1)
          · intro k o hk
            obtain ⟨hj, h1, rfl⟩ := hnw k o hk
            rw [h1]; exact hloc _ hj
          · intro id hid
            show (if n ≤ id ∧ id < n + (h'.length - π.length) then ρ' (π.length + (id - n)) else ρ id) = ρ id
            rw [hnwl] at hid
            rw [if_neg (by omega)]
          · intro b hb hno
            refine hW'.same b hb (fun hB => ?_)
            obtain ⟨id, o, h1, h2⟩ := hB0 b hB
            exact hno id o h1 h2
          · intro b hb hu
            exact hU1sub b (hW'.u1 b hb hu)
          · intro b hb hu hno
            refine hW'.u2 b hb ?_ (fun hB => ?_)
            · show U1 b
              rw [← hU1]
              exact ⟨hu, fun ⟨j, hj, ho⟩ => hno j _ (hzwr j hj) ho⟩
            · obtain ⟨id, o, h1, h2⟩ := hB0 b hB
              exact hno id o h1 h2
          · intro id o b hio ho
            obtain ⟨j, _, hj⟩ := key id o b hio ho
            rcases hH'.blk j b hj with hB | hB
            · exact .inr (hB0 b hB)
            · exact .inl hB
          · intro id1 o1 id2 o2 b h1 h2 ho1 ho2
            obtain ⟨j1, e1, q1⟩ := key id1 o1 b h1 ho1
            obtain ⟨j2, e2, q2⟩ := key id2 o2 b h2 ho2
            rw [e1, e2, hH'.inj j1 j2 b q1 q2]
      · simp at h
    · simp at h
  · simp at h

theorem FOk_lift {k : FuncId} {kinds : List (Option Sh)} {G : GSem kinds} (hfn : ∃ fn, E.P.funcs[k]? = some fn ∧ (fn.name == "runtime.NumGoroutine") = false ∧ fn.body.isNone = false)
  (hG : ∀ x h0 res, (G x h0).val = some res → Base E k (avs kinds x) h0 (fun r h => (r, h) = res)) : FOk E.P E.gl k (liftF kinds G) :=
 FOk_calls hfn fun x h0 res hx => (hG x h0 res hx).calls

end
end Cad
