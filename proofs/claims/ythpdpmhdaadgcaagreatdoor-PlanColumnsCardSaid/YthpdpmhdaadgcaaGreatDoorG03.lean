/- What each operation says: maps with texts as keys. What each operation says: all of them. Regions: one operation behind the other. -/
import Derived.Test.YthpdpmhdaadgcaaGreatDoorG02
import Derived.MapKept
namespace Cad
open Go
section
variable {P : Program} {w : World} {U : Nat → Prop} {ρ : Nat → Option Value}

theorem str_beq (a b : Str) : ((⟨a.toArray⟩ : ByteArray) == ⟨b.toArray⟩) = (a == b) := by
 show (a.toArray == b.toArray) = (a == b)
 simp

abbrev keysOf (es : List (Str × AV)) : List Value := es.map fun p => Value.string ⟨p.1.toArray⟩

theorem find_none : ∀ (es : List (Str × AV)) (ents : List MapEntry) (s : Str) (i : Nat), ents.map (·.key) = keysOf es → es.any (fun p => p.1 == s) = false →
  Instr.findNow .string (.string ⟨s.toArray⟩) ents i = some none
 | [], [], _, _, _, _ => rfl
 | [], _ :: _, _, _, h, _ => by simp at h
 | _ :: _, [], _, _, h, _ => by simp at h
 | p :: es, e :: ents, s, i, h, hn => by
  simp only [keysOf, List.map_cons, List.cons.injEq] at h
  simp only [List.any_cons, Bool.or_eq_false_iff] at hn
  have hne : (s == p.1) = false := by
   have := hn.1
   simp only [beq_eq_false_iff_ne, ne_eq] at this ⊢
   exact fun e => this e.symm
  simp only [Instr.findNow, h.1, Instr.sameNow, str_beq, hne]
  exact find_none es ents s (i + 1) h.2 hn.2

theorem find_look : ∀ (es : List (Str × AV)) (ents : List MapEntry) (s : Str) (i : Nat) (z : Tr Eff) (f : Eff), ents.map (·.key) = keysOf es → RvL w U ρ (es.map (·.2)) (ents.map (·.val)) → (lookT es s z).val = some f →
  (∃ j v av, Instr.findNow .string (.string ⟨s.toArray⟩) ents i = some (some (j, v)) ∧ Rv w U ρ av v ∧ f = { val := av }) ∨ (Instr.findNow .string (.string ⟨s.toArray⟩) ents i = some none ∧ z.val = some f)
 | [], [], _, _, _, _, _, _, hv => .inr ⟨rfl, hv⟩
 | [], _ :: _, _, _, _, _, h, _, _ => by simp at h
 | _ :: _, [], _, _, _, _, h, _, _ => by simp at h
 | p :: es, e :: ents, s, i, z, f, h, hr, hv => by
  simp only [keysOf, List.map_cons, List.cons.injEq] at h
  obtain ⟨k, av⟩ := p
  simp only [lookT, Tr.val] at hv
  simp only [Instr.findNow, h.1, Instr.sameNow, str_beq]
  cases hk : s == k with
  | true =>
   rw [hk] at hv
   simp [ret] at hv
   subst hv
   exact .inl ⟨i, e.val, av, rfl, hr.rv 0 av e.val rfl rfl, rfl⟩
  | false =>
   rw [hk] at hv
   simp at hv
   refine find_look es ents s (i + 1) z f h.2 ⟨by have := hr.len; simpa using this, fun j c v hc hv' => hr.rv (j + 1) c v (by simpa using hc) (by simpa using hv')⟩ hv

theorem Ext.allocO (w : World) (o : Obj) : Ext w (w.alloc o) where
 sz := by rw [heap_push_size]; omega
 os := rfl
 out := rfl
 tape := rfl
 fr := fun a h => World.frozen?_of_block (heap_push_old w _ _ h)

theorem Ef.mkMap {n : Nat} {hp : Nat → AO} {o0 : AO} (ho0 : o0 = .fmap [] ∨ ∃ u, o0 = .vmap u []) (hub : ∀ b, U b → b < w.heap.size) (hn : ρ n = none) :
  Ef n hp { val := .mp n, nw := [o0] } w U ρ (.map (some w.heap.size)) (w.alloc (.map #[] 0)) (fun b => U b ∨ b = w.heap.size) (upd ρ n (.map (some w.heap.size))) := by
 have hu : ∀ b, b < w.heap.size → (U b ∨ b = w.heap.size) → U b := fun b hb h => h.elim id (fun e => by omega)
 refine ⟨Ext.allocO w _, .mp n _ (by simp [upd]) rfl, by simp, ?_, ?_, upd_old hn, fun b hb _ => heap_push_old w _ b hb, ?_, fun b hb h => hu b hb h, fun b _ h _ => .inl h, ?_, ?_⟩
 ·intro j o hj
  cases j with
  | succ j => simp at hj
  | zero =>
   simp at hj; subst hj
   rcases ho0 with rfl | ⟨u, rfl⟩
   ·exact ⟨w.heap.size, #[], 0, by simp [upd], .inr rfl, heap_push_new w _, ⟨rfl, by simp⟩, rfl⟩
   ·exact ⟨w.heap.size, #[], 0, by simp [upd], .inr rfl, heap_push_new w _, rfl, by simp, rfl, by simp⟩
 ·intro id h
  unfold upd
  rw [if_neg (by simp at h; omega)]
 ·intro b h
  rw [heap_push_size]
  rcases h with h | h
  ·have := hub b h; omega
  ·omega
 ·rintro id o b (h | ⟨h1, h2⟩) ho
  ·simp at h
  ·have e1 : id - n < 1 := by have := (List.getElem?_eq_some_iff.1 h2).1; simpa using this
   have hid : id = n := by omega
   subst hid
   obtain ⟨_, v, hv, hb⟩ := ho
   simp [upd] at hv; subst hv
   simp [blkOf] at hb
   exact .inl (by omega)
 ·rintro id1 o1 id2 o2 b (h | ⟨h1, h2⟩) (h' | ⟨h1', h2'⟩) _ _
  ·simp at h
  ·simp at h
  ·simp at h'
  ·have e1 : id1 - n < 1 := by have := (List.getElem?_eq_some_iff.1 h2).1; simpa using this
   have e2 : id2 - n < 1 := by have := (List.getElem?_eq_some_iff.1 h2').1; simpa using this
   omega

/-! Keys that are values. -/

def kav (k : Int × Int × Str) : AV := .agg [.int .i64 k.1, .int .i64 k.2.1, .str k.2.2]

theorem vkey_eq {a : AV} {k : Int × Int × Str} (h : vkey a = some k) : a = kav k := by
 unfold vkey at h
 split at h
 ·cases h; rfl
 ·cases h

theorem kav_rv {k : Int × Int × Str} {v : Value} (h : Rv w U ρ (kav k) v) : v = encV k ∧ KeyOk k := by
 unfold kav at h
 cases h with
 | agg _ vs hl h1 hr =>
 match vs, hl, hr with
 | [v1, v2, v3], _, hr =>
  have e1 := hr 0 _ v1 rfl rfl
  have e2 := hr 1 _ v2 rfl rfl
  have e3 := hr 2 _ v3 rfl rfl
  cases e1 with
  | int _ _ q1 =>
  cases e2 with
  | int _ _ q2 =>
  cases e3 with
  | str _ q3 =>
  exact ⟨rfl, q1, q2, q3⟩

theorem rv_kav {k : Int × Int × Str} (h : KeyOk k) : Rv w U ρ (kav k) (encV k) := by
 refine .agg _ [.int .i64 k.1, .int .i64 k.2.1, .string ⟨k.2.2.toArray⟩] rfl (by simp [Value.oneCell']) ?_
 intro j c v hc hv
 match j, hc, hv with
 | 0, hc, hv => cases hc; cases hv; exact .int _ _ h.1
 | 1, hc, hv => cases hc; cases hv; exact .int _ _ h.2.1
 | 2, hc, hv => cases hc; cases hv; exact .str _ h.2.2

theorem vKeyT_eq {kt : TypeId} (h : vKeyT P kt = true) (a b : Int × Int × Str) : eqA P kt (kav a) (kav b) = some (a == b) := by
 unfold vKeyT at h
 split at h
 ·rename_i fs hu
  simp only [Bool.and_eq_true] at h
  obtain ⟨⟨h1, h2⟩, h3⟩ := h
  split at h3
  ·rename_i f1 f2 f3 hfs
   simp only [Bool.and_eq_true, beq_iff_eq, isIntT, isStrT] at h3
   obtain ⟨⟨⟨⟨n1, o1⟩, t1⟩, ⟨⟨n2, o2⟩, t2⟩⟩, ⟨⟨n3, o3⟩, t3⟩⟩ := h3
   split at t1
   ·rename_i k1 u1
    split at t2
    ·rename_i k2 u2
     split at t3
     ·rename_i u3
      simp only [kav, eqA, hu, h1, h2, hfs, eqFs, n1, o1, n2, o2, n3, o3, eqT, u1, u2, u3, beq_self_eq_true, Bool.and_self, if_true, Bool.and_true]
      rfl
     ·cases t3
    ·cases t2
   ·cases t1
  ·cases h3
 ·cases h

theorem run_equal_v {kt : TypeId} (h : vKeyT P kt = true) {a b : Int × Int × Str} (ha : KeyOk a) (hb : KeyOk b) : (Op.equal kt (encV a) (encV b)).run P w = .ok (a == b) w :=
 (eqA_ok (U := fun _ => False) (ρ := fun _ => none) (vKeyT_eq h a b) (rv_kav ha) (rv_kav hb) (by intro _ _ _ _ h; cases h) (by intro _ _ h; cases h)).1

theorem run_checkKey_v {kt : TypeId} (h : vKeyT P kt = true) (k : Int × Int × Str) (em : Bool) : (Instr.checkKey em 10000 kt (encV k)).run P w = .ok () w := by
 unfold vKeyT at h
 split at h
 ·rename_i fs hu
  simp only [Bool.and_eq_true] at h
  obtain ⟨⟨h1, h2⟩, h3⟩ := h
  split at h3
  ·rename_i f1 f2 f3 hfs
   simp only [Bool.and_eq_true, beq_iff_eq, isIntT, isStrT] at h3
   obtain ⟨⟨⟨⟨n1, o1⟩, t1⟩, ⟨⟨n2, o2⟩, t2⟩⟩, ⟨⟨n3, o3⟩, t3⟩⟩ := h3
   split at t1
   ·rename_i k1 u1
    split at t2
    ·rename_i k2 u2
     split at t3
     ·rename_i u3
      have e : fs = #[f1, f2, f3] := by apply Array.ext'; simpa using hfs
      subst e
      have a1 : tagg P f1.type = some false := by simp [tagg, u1]
      have a2 : tagg P f2.type = some false := by simp [tagg, u2]
      have a3 : tagg P f3.type = some false := by simp [tagg, u3]
      show (Instr.checkKey em (9999 + 1) kt (encV k)).run P w = _
      rw [Instr.checkKey.eq_2]
      have p1 : (part f1.type #[Value.int .i64 k.1, .int .i64 k.2.1, .string ⟨k.2.2.toArray⟩] f1.offset).run P w = .ok (.int .i64 k.1) w := by simp [part, run_tagg a1, o1]
      have p2 : (part f2.type #[Value.int .i64 k.1, .int .i64 k.2.1, .string ⟨k.2.2.toArray⟩] f2.offset).run P w = .ok (.int .i64 k.2.1) w := by simp [part, run_tagg a2, o2]
      have p3 : (part f3.type #[Value.int .i64 k.1, .int .i64 k.2.1, .string ⟨k.2.2.toArray⟩] f3.offset).run P w = .ok (.string ⟨k.2.2.toArray⟩) w := by simp [part, run_tagg a3, o3]
      have c1 : (Instr.checkKey em (9998 + 1) f1.type (.int .i64 k.1)).run P w = .ok () w := by
       rw [Instr.checkKey.eq_2]; simp [run_underlying u1, Result.andThen]
      have c2 : (Instr.checkKey em (9998 + 1) f2.type (.int .i64 k.2.1)).run P w = .ok () w := by
       rw [Instr.checkKey.eq_2]; simp [run_underlying u2, Result.andThen]
      have c3 : (Instr.checkKey em (9998 + 1) f3.type (.string ⟨k.2.2.toArray⟩)).run P w = .ok () w := by
       rw [Instr.checkKey.eq_2]; simp [run_underlying u3, Result.andThen]
      have m1 : f1.name ≠ "_" := by simpa using n1
      have m2 : f2.name ≠ "_" := by simpa using n2
      have m3 : f3.name ≠ "_" := by simpa using n3
      simp [encV, run_underlying hu, Result.andThen, p1, p2, p3, c1, c2, c3, m1, m2, m3]
     ·cases t3
    ·cases t2
   ·cases t1
  ·cases h3
 ·cases h

def vfindI (es : List ((Int × Int × Str) × Int)) (k : Int × Int × Str) (i : Nat) : Option (Nat × Int) := match es with
 | [] => none
 | p :: r => bif k == p.1 then some (i, p.2) else vfindI r k (i + 1)

abbrev encE (u : Bool) (es : List ((Int × Int × Str) × Int)) : List (Value × Value) := es.map fun p => (encV p.1, encU u p.2)

theorem run_findAsking_v {kt : TypeId} (h : vKeyT P kt = true) {k : Int × Int × Str} (hk : KeyOk k) (u : Bool) : ∀ (es : List ((Int × Int × Str) × Int)) (ents : List MapEntry) (i : Nat), (ents.map fun e => (e.key, e.val)) = encE u es → (∀ p ∈ es, IntOk .i64 p.2 ∧ KeyOk p.1) →
  (Instr.findAsking kt (encV k) ents i).run P w = .ok ((vfindI es k i).map fun q => (q.1, encU u q.2)) w
 | [], [], _, _, _ => by simp [Instr.findAsking, vfindI]
 | [], _ :: _, _, h, _ => by simp at h
 | _ :: _, [], _, h, _ => by simp at h
 | p :: es, e :: ents, i, he, ho => by
  simp only [encE, List.map_cons, List.cons.injEq, Prod.mk.injEq] at he
  obtain ⟨⟨e1, e2⟩, e3⟩ := he
  have hp := ho p (List.mem_cons_self ..)
  have ih := run_findAsking_v h hk u es ents (i + 1) e3 (fun q hq => ho q (List.mem_cons_of_mem _ hq))
  simp only [Instr.findAsking, e1, Sem.run_bind, run_equal_v h hk hp.2, Result.andThen_ok, vfindI]
  cases hq : k == p.1
  ·simpa using ih
  ·simp [e2]

theorem run_findKey_v {kt : TypeId} (h : vKeyT P kt = true) {k : Int × Int × Str} (hk : KeyOk k) (u : Bool) (es : List ((Int × Int × Str) × Int)) (ents : List MapEntry) (he : (ents.map fun e => (e.key, e.val)) = encE u es) (ho : ∀ p ∈ es, IntOk .i64 p.2 ∧ KeyOk p.1) :
  (Instr.findKey kt (encV k) ents).run P w = .ok ((vfindI es k 0).map fun q => (q.1, encU u q.2)) w := by
 have hu : ∃ fs, P.underlying kt = some (.struct fs) := by
  unfold vKeyT at h
  split at h
  ·rename_i fs hu; exact ⟨fs, hu⟩
  ·cases h
 obtain ⟨fs, hu⟩ := hu
 have hf := run_findAsking_v (w := w) h hk u es ents 0 he ho
 cases ents with
 | nil =>
  cases es with
  | nil => simp [Instr.findKey, run_underlying hu, Result.andThen, Instr.findNow, vfindI]
  | cons p r => simp at he
 | cons e r =>
  have hs : Instr.findNow (.struct fs) (encV k) (e :: r) 0 = none := by
   simp only [Instr.findNow]
   have : Instr.sameNow (.struct fs) (encV k) e.key = none := by simp [Instr.sameNow]
   rw [this]
  simp only [Instr.findKey, Sem.run_bind, run_underlying hu, Result.andThen_ok, hs]
  exact hf

theorem vfind_none : ∀ {es : List ((Int × Int × Str) × Int)} {k : Int × Int × Str} {i : Nat}, vfindI es k i = none → vhas es k = false ∧ vget es k = 0 ∧ ∀ x, vput es k x = es ++ [(k, x)]
 | [], _, _, _ => ⟨rfl, rfl, fun _ => rfl⟩
 | p :: r, k, i, h => by
  unfold vfindI at h
  cases hq : k == p.1
  ·rw [hq] at h
   obtain ⟨h1, h2, h3⟩ := vfind_none (i := i + 1) (by simpa using h)
   refine ⟨by simpa [vhas, hq] using h1, by simpa [vget, hq] using h2, fun x => ?_⟩
   rw [vput, hq, h3]
   rfl
  ·rw [hq] at h; cases h

theorem vfind_some : ∀ {es : List ((Int × Int × Str) × Int)} {k : Int × Int × Str} {i j : Nat} {n : Int}, vfindI es k i = some (j, n) → i ≤ j ∧ vhas es k = true ∧ vget es k = n ∧ (∃ p, es[j - i]? = some p ∧ p.1 = k ∧ p.2 = n) ∧ ∀ x, vput es k x = es.set (j - i) (k, x)
 | [], _, _, _, _, h => by cases h
 | p :: r, k, i, j, n, h => by
  unfold vfindI at h
  cases hq : k == p.1
  ·rw [hq] at h
   obtain ⟨h0, h1, h2, ⟨q, h4, h5⟩, h3⟩ := vfind_some (i := i + 1) (by simpa using h)
   have e : j - i = (j - (i + 1)) + 1 := by omega
   refine ⟨by omega, by simpa [vhas] using .inr (by simpa [vhas] using h1), by simpa [vget, hq] using h2, ⟨q, by rw [e]; simpa using h4, h5⟩, fun x => ?_⟩
   rw [vput, hq, h3, e]
   rfl
  ·rw [hq] at h
   simp only [cond_true, Option.some.injEq, Prod.mk.injEq] at h
   obtain ⟨rfl, rfl⟩ := h
   have hk : k = p.1 := by simpa using hq
   refine ⟨Nat.le_refl _, by simp [vhas, hq], by simp [vget, hq], ⟨p, by simp, hk.symm, rfl⟩, fun x => ?_⟩
   rw [vput, hq]
   simp

theorem sameBits_encV (k : Int × Int × Str) : Instr.sameBits 10000 (encV k) (encV k) = true := by
 show Instr.sameBits (9999 + 1) (encV k) (encV k) = true
 simp [encV, Instr.sameBits, str_beq]

theorem Ef.setMap {n : Nat} {hp : Nat → AO} {id r : Nat} {ents ents' : Array MapEntry} {clock clock' : Nat} {o' : AO} (h1 : ρ id = some (.map (some r))) (_ : U r) (h3 : w.heap[r]? = some (.map ents clock)) (hown : (hp id).owns = true)
  (hok : objOk { w with heap := w.heap.setIfInBounds r (.map ents' clock') } U ρ id o') (hub : ∀ b, U b → b < w.heap.size) {rv : AV} {vv : Value} (hrv : Rv { w with heap := w.heap.setIfInBounds r (.map ents' clock') } U ρ rv vv) :
  Ef n hp { val := rv, wr := [(id, o')] } w U ρ vv { w with heap := w.heap.setIfInBounds r (.map ents' clock') } U ρ := by
 obtain ⟨e1, e2⟩ := MapKept.heap_set (o' := Obj.map ents' clock') h3
 have hrlt : r < w.heap.size := (Array.getElem?_eq_some_iff.1 h3).1
 have hown' : ownsB ρ id (hp id) r := ⟨hown, _, h1, rfl⟩
 refine ⟨⟨by simp, rfl, rfl, rfl, ?_⟩, hrv, ?_, by simp, fun _ _ => rfl, fun _ _ h => h, ?_, ?_, fun _ _ h => h, fun _ _ h _ => h, ?_, ?_⟩
 ·intro a _
  by_cases hab : a.block = r
  ·unfold World.frozen?
   simp only [hab, e1, h3]
  ·exact World.frozen?_of_block (e2 a.block hab)
 ·intro id' o'' h'
  simp only [List.mem_singleton, Prod.mk.injEq] at h'
  obtain ⟨rfl, rfl⟩ := h'
  exact hok
 ·intro b _ hno
  by_cases hbr : b = r
  ·exfalso
   exact hno id o' (List.mem_singleton.2 rfl) (hbr ▸ hown')
  ·exact e2 b hbr
 ·intro b hb
  have := hub b hb
  simpa using this
 ·rintro id' o'' b (h' | ⟨_, h'⟩) ho'
  ·simp only [List.mem_singleton, Prod.mk.injEq] at h'
   obtain ⟨rfl, rfl⟩ := h'
   refine .inr ⟨id', _, List.mem_singleton.2 rfl, ?_⟩
   obtain ⟨_, v, hv, hb⟩ := ho'
   exact ⟨hown, v, hv, hb⟩
  ·simp at h'
 ·rintro id1 o1 id2 o2 b (h' | ⟨_, h'⟩) (h'' | ⟨_, h''⟩) _ _
  ·simp only [List.mem_singleton, Prod.mk.injEq] at h' h''
   rw [h'.1, h''.1]
  ·simp at h''
  ·simp at h'
  ·simp at h'

theorem vval_rv {u : Bool} {a : AV} {n : Int} {v : Value} (h : vval u a = some n) (hr : Rv w U ρ a v) : v = encU u n ∧ IntOk .i64 n := by
 unfold vval at h
 split at h
 ·cases h
  cases hr with
  | int _ _ h1 => exact ⟨rfl, h1⟩
 ·cases h
  cases hr with
  | agg _ vs hl h1 hr =>
  match vs, hl with
  | [], _ => exact ⟨rfl, by unfold IntOk; decide⟩
 ·cases h

theorem StampOk.push {ents : Array MapEntry} {clock : Nat} (h : StampOk ents clock) (k v : Value) : StampOk (ents.push { key := k, val := v, born := clock }) (clock + 1) := by
 refine ⟨by simp [h.1], fun i e he => ?_⟩
 rw [Array.getElem?_push] at he
 split at he
 ·rename_i hi
  cases he
  rw [hi]; exact h.1
 ·exact h.2 i e he

theorem StampOk.modify {ents : Array MapEntry} {clock : Nat} (h : StampOk ents clock) (j : Nat) (f : MapEntry → MapEntry) (hf : ∀ e, (f e).born = e.born) : StampOk (ents.modify j f) clock := by
 refine ⟨by simp [h.1], fun i e he => ?_⟩
 rw [Array.getElem?_modify] at he
 split at he
 ·cases hx : ents[i]? with
  | none => rw [hx] at he; simp at he
  | some e0 =>
   rw [hx] at he
   simp at he
   subst he
   rw [hf]; exact h.2 i e0 hx
 ·exact h.2 i e he

theorem evInsert_ok {n : Nat} {hp : Nat → AO} {t : TypeId} {am ak ax : AV} {vm vk vx : Value} {f : Eff} {fp : List Nat} (h : (evInsert P hp t am ak ax).val = some f)
  (hm : Rv w U ρ am vm) (hk : Rv w U ρ ak vk) (hx : Rv w U ρ ax vx) (hub : ∀ b, U b → b < w.heap.size) (hfp : FpOk w U ρ hp fp) (hin : ∀ id ∈ am.ids, id ∈ fp) :
  ∃ w', (Instr.mapUpdate t vm vk vx).run P w = .ok () w' ∧ Ef n hp f w U ρ undef w' U ρ ∧ ∀ id o, (id, o) ∈ f.wr → id ∈ fp := by
 unfold evInsert at h
 split at h
 ·rename_i kt et ht
  split at h
  ·rename_i hkt
   split at h
   ·rename_i id s
    have hid := hin id (by simp [AV.ids])
    have ho := hfp.ob id hid
    split at h
    ·rename_i es hes
     simp only [Tr.val] at h
     split at h
     ·rename_i hnone
      simp only [Bool.not_eq_true'] at hnone
      simp only [Option.some.injEq] at h
      subst h
      rw [hes] at ho
      obtain ⟨r, ents, clock, h1, h2, h3, h4, h5⟩ := ho
      cases hm with
      | mp _ _ hv _ =>
      rw [h1] at hv; cases hv
      cases hk with
      | str _ hs =>
      have hf := find_none es ents.toList s 0 h5 hnone
      obtain ⟨e1, e2⟩ := MapKept.heap_set (o' := Obj.map (ents.push { key := .string ⟨s.toArray⟩, val := vx, born := clock }) (clock + 1)) h3
      have hrlt : r < w.heap.size := (Array.getElem?_eq_some_iff.1 h3).1
      have hown : ownsB ρ id (hp id) r := ⟨by rw [hes]; rfl, _, h1, rfl⟩
      have hkk : ∀ b', b' < w.heap.size → ¬ U b' → (w.heap.setIfInBounds r (Obj.map (ents.push { key := .string ⟨s.toArray⟩, val := vx, born := clock }) (clock + 1)))[b']? = w.heap[b']? := fun b' _ hb' => e2 b' (fun e => hb' (e ▸ h2))
      refine ⟨{ w with heap := w.heap.setIfInBounds r (.map (ents.push { key := .string ⟨s.toArray⟩, val := vx, born := clock }) (clock + 1)) }, ?_, ?_, ?_⟩
      ·simp [Instr.mapUpdate, run_underlying ht, MapKept.run_getObj_map h3, MapKept.run_checkKey hkt (k := .string ⟨s.toArray⟩) trivial, MapKept.run_findKey hkt hf, MapKept.run_setObj_map _ h3, Result.andThen]
      ·refine ⟨⟨by simp, rfl, rfl, rfl, ?_⟩, .tup [] [] rfl (by simp), ?_, by simp, fun _ _ => rfl, fun _ _ h => h, ?_, ?_, fun _ _ h => h, fun _ _ h _ => h, ?_, ?_⟩
       ·intro a _
        by_cases hab : a.block = r
        ·unfold World.frozen?
         simp only [hab, e1, h3]
        ·exact World.frozen?_of_block (e2 a.block hab)
       ·intro id' o' h'
        simp only [List.mem_singleton, Prod.mk.injEq] at h'
        obtain ⟨rfl, rfl⟩ := h'
        refine ⟨r, _, _, h1, h2, e1, ?_, ?_⟩
        ·have hm1 : RvL { w with heap := w.heap.setIfInBounds r (.map (ents.push { key := .string ⟨s.toArray⟩, val := vx, born := clock }) (clock + 1)) } U ρ (es.map (·.2)) (ents.toList.map (·.val)) :=
          h4.mono (by simp) hkk (fun _ _ h => h) (fun _ _ h => h)
         have hx1 : Rv { w with heap := w.heap.setIfInBounds r (.map (ents.push { key := .string ⟨s.toArray⟩, val := vx, born := clock }) (clock + 1)) } U ρ ax vx :=
          hx.mono (by simp) hkk (fun _ _ h => h) (fun _ _ h => h)
         refine ⟨by have := hm1.len; simp at this ⊢; exact this, fun j c v hc hv => ?_⟩
         simp only [List.map_append, List.map_cons, List.map_nil, Array.toList_push] at hc hv
         by_cases hj : j < (es.map (·.2)).length
         ·rw [List.getElem?_append_left hj] at hc
          rw [List.getElem?_append_left (by rw [← hm1.len]; exact hj)] at hv
          exact hm1.rv j c v hc hv
         ·rw [List.getElem?_append_right (by omega)] at hc
          rw [List.getElem?_append_right (by rw [← hm1.len]; omega), ← hm1.len] at hv
          cases hj0 : j - (es.map (·.2)).length with
          | zero =>
           rw [hj0] at hc hv
           simp at hc hv
           subst hc; subst hv
           exact hx1
          | succ q => rw [hj0] at hc; simp at hc
        ·simp only [Array.toList_push, List.map_append, h5, List.map_cons, List.map_nil]
       ·intro b _ hno
        exact e2 b (fun e => hno id (.fmap (es ++ [(s, ax)])) (List.mem_singleton.2 rfl) (e ▸ hown))
       ·intro b hb
        have := hub b hb
        simpa using this
       ·rintro id' o' b (h' | ⟨_, h'⟩) ho'
        ·simp only [List.mem_singleton, Prod.mk.injEq] at h'
         obtain ⟨rfl, rfl⟩ := h'
         refine .inr ⟨id', _, List.mem_singleton.2 rfl, ?_⟩
         obtain ⟨_, v, hv, hb⟩ := ho'
         exact ⟨by rw [hes]; rfl, v, hv, hb⟩
        ·simp at h'
       ·rintro id1 o1 id2 o2 b (h' | ⟨_, h'⟩) (h'' | ⟨_, h''⟩) _ _
        ·simp only [List.mem_singleton, Prod.mk.injEq] at h' h''
         rw [h'.1, h''.1]
        ·simp at h''
        ·simp at h'
        ·simp at h'
      ·intro id' o' h'
       simp only [List.mem_singleton, Prod.mk.injEq] at h'
       rw [h'.1]; exact hid
     ·cases h
    ·simp at h
   ·simp at h
  ·split at h
   ·rename_i hvk
    split at h
    ·rename_i id v hvk2
     have hid := hin id (by simp [AV.ids])
     have ho := hfp.ob id hid
     split at h
     ·rename_i u es hes
      split at h
      ·rename_i nn hnn
       simp only [Tr.val_ok, Option.some.injEq] at h
       subst h
       rw [hes] at ho
       obtain ⟨r, ents, clock, h1, h2, h3, h4, h5⟩ := ho
       cases hm with
       | mp _ _ hv _ =>
       rw [h1] at hv; cases hv
       rw [vkey_eq hvk2] at hk
       obtain ⟨rfl, hko⟩ := kav_rv hk
       obtain ⟨rfl, hno⟩ := vval_rv hnn hx
       have hfk := run_findKey_v (w := w) hvk hko u es ents.toList h4 h5.1
       have hown : (hp id).owns = true := by rw [hes]; rfl
       have hwrs : ∀ id' o', (id', o') ∈ [(id, AO.vmap u (vput es v nn))] → id' ∈ fp := by
        intro id' o' h'
        simp only [List.mem_singleton, Prod.mk.injEq] at h'
        rw [h'.1]; exact hid
       cases hfi : vfindI es v 0 with
       | none =>
        rw [hfi] at hfk
        obtain ⟨_, _, hput⟩ := vfind_none hfi
        refine ⟨{ w with heap := w.heap.setIfInBounds r (.map (ents.push { key := encV v, val := encU u nn, born := clock }) (clock + 1)) }, ?_, ?_, hwrs⟩
        ·simp [Instr.mapUpdate, run_underlying ht, MapKept.run_getObj_map h3, run_checkKey_v hvk, hfk, MapKept.run_setObj_map _ h3, Result.andThen]
        ·refine Ef.setMap h1 h2 h3 hown ?_ hub (.tup [] [] rfl (by simp))
         refine ⟨r, _, _, h1, h2, (MapKept.heap_set h3).1, ?_, ?_, h5.2.push _ _⟩
         ·rw [hput]
          simp only [Array.toList_push, List.map_append, h4, List.map_cons, List.map_nil]
         ·rw [hput]
          intro p hp
          rcases List.mem_append.1 hp with hp | hp
          ·exact h5.1 p hp
          ·simp at hp; subst hp; exact ⟨hno, hko⟩
       | some q =>
        obtain ⟨j, m⟩ := q
        rw [hfi] at hfk
        obtain ⟨_, _, _, ⟨p, hpj, hpk, hpn⟩, hput⟩ := vfind_some hfi
        rw [Nat.sub_zero] at hpj hput
        have hent : ∃ e, ents.toList[j]? = some e ∧ e.key = encV v := by
         have : (ents.toList.map fun e => (e.key, e.val))[j]? = some (encV p.1, encU u p.2) := by
          rw [h4]; simp [hpj]
         rw [List.getElem?_map, Option.map_eq_some_iff] at this
         obtain ⟨e, he1, he2⟩ := this
         simp only [Prod.mk.injEq] at he2
         exact ⟨e, he1, by rw [he2.1, hpk]⟩
        obtain ⟨e, he1, he2⟩ := hent
        have he3 : ents[j]? = some e := by rw [← Array.getElem?_toList]; exact he1
        refine ⟨{ w with heap := w.heap.setIfInBounds r (.map (ents.modify j fun e => { e with key := encV v, val := encU u nn }) clock) }, ?_, ?_, hwrs⟩
        ·have hst : (Instr.keyThatStays (encV v) (encV v)).run P w = .ok (encV v) w := by
          simp [Instr.keyThatStays, sameBits_encV]
         simp [Instr.mapUpdate, run_underlying ht, MapKept.run_getObj_map h3, run_checkKey_v hvk, hfk, he3, he2, hst, MapKept.run_setObj_map _ h3, Result.andThen]
        ·refine Ef.setMap h1 h2 h3 hown ?_ hub (.tup [] [] rfl (by simp))
         refine ⟨r, _, _, h1, h2, (MapKept.heap_set h3).1, ?_, ?_, h5.2.modify _ _ (fun _ => rfl)⟩
         ·rw [hput]
          apply List.ext_getElem?
          intro q
          have h4q : (ents.toList.map fun e => (e.key, e.val))[q]? = (encE u es)[q]? := by rw [h4]
          simp only [List.getElem?_map, Array.getElem?_toList, Array.getElem?_modify, List.getElem?_set, encE] at h4q ⊢
          by_cases hq : j = q
          ·subst hq
           have hjl : j < es.length := (List.getElem?_eq_some_iff.1 hpj).1
           simp [he3, hjl]
          ·simp only [hq, if_false]
           rw [h4q]
         ·rw [hput]
          intro p' hp'
          rcases List.mem_or_eq_of_mem_set hp' with hp' | rfl
          ·exact h5.1 p' hp'
          ·exact ⟨hno, hko⟩
      ·simp at h
     ·simp at h
    ·simp at h
   ·simp at h
  ·simp at h
 ·simp at h

theorem find_look2 : ∀ (es : List (Str × AV)) (ents : List MapEntry) (s : Str) (i : Nat) (z : Tr Eff) (f : Eff), ents.map (·.key) = keysOf es → RvL w U ρ (es.map (·.2)) (ents.map (·.val)) → (lookT2 es s z).val = some f →
  (∃ j v av, Instr.findNow .string (.string ⟨s.toArray⟩) ents i = some (some (j, v)) ∧ Rv w U ρ av v ∧ f = { val := .tup [av, .kb true] }) ∨ (Instr.findNow .string (.string ⟨s.toArray⟩) ents i = some none ∧ z.val = some f)
 | [], [], _, _, _, _, _, _, hv => .inr ⟨rfl, hv⟩
 | [], _ :: _, _, _, _, _, h, _, _ => by simp at h
 | _ :: _, [], _, _, _, _, h, _, _ => by simp at h
 | p :: es, e :: ents, s, i, z, f, h, hr, hv => by
  simp only [keysOf, List.map_cons, List.cons.injEq] at h
  obtain ⟨k, av⟩ := p
  simp only [lookT2, Tr.val] at hv
  simp only [Instr.findNow, h.1, Instr.sameNow, str_beq]
  cases hk : s == k with
  | true =>
   rw [hk] at hv
   simp [ret] at hv
   subst hv
   exact .inl ⟨i, e.val, av, rfl, hr.rv 0 av e.val rfl rfl, rfl⟩
  | false =>
   rw [hk] at hv
   simp at hv
   refine find_look2 es ents s (i + 1) z f h.2 ⟨by have := hr.len; simpa using this, fun j c v hc hv' => hr.rv (j + 1) c v (by simpa using hc) (by simpa using hv')⟩ hv

theorem rv_pair {a b : AV} {x y : Value} (ha : Rv w U ρ a x) (hb : Rv w U ρ b y) : Rv w U ρ (.tup [a, b]) (.tuple #[x, y]) := by
 refine .tup _ [x, y] rfl ?_
 intro j c v hc hv
 match j, hc, hv with
 | 0, hc, hv => cases hc; cases hv; exact ha
 | 1, hc, hv => cases hc; cases hv; exact hb

theorem tzero_ok {et : TypeId} {z : AV} (hz : tzero P et = some z) : ∃ i zv, P.info? et = some i ∧ i.zero = some zv ∧ z = absV zv := by
 unfold tzero at hz
 split at hz
 ·rename_i i hinfo
  simp only [Option.map_eq_some_iff] at hz
  obtain ⟨zv, hz1, rfl⟩ := hz
  exact ⟨i, zv, hinfo, hz1, rfl⟩
 ·cases hz

theorem absS_int {zv : Value} {k : IntKind} {n : Int} (h : absS zv = .int k n) : zv = .int k n := by
 unfold absS at h
 split at h
 case h_2 k' n' =>
  split at h
  ·simp at h; obtain ⟨rfl, rfl⟩ := h; rfl
  ·cases h
 case h_3 => split at h <;> cases h
 all_goals cases h

theorem absV_int {zv : Value} {k : IntKind} {n : Int} (h : absV zv = .int k n) : zv = .int k n := by
 unfold absV at h
 split at h
 ·split at h <;> cases h
 ·exact absS_int h

theorem absV_agg0 {zv : Value} {cs : List AV} (h : absV zv = .agg cs) (h0 : cs.isEmpty = true) : zv = .agg #[] := by
 unfold absV at h
 split at h
 ·rename_i cs'
  split at h
  ·simp at h
   subst h
   simp at h0
   rw [h0]
  ·cases h
 ·unfold absS at h
  split at h
  case h_2 => split at h <;> cases h
  case h_3 => split at h <;> cases h
  all_goals cases h

theorem evLookup_ok {hp : Nat → AO} {t : TypeId} {ax ai : AV} {vx vi : Value} {two : Bool} {f : Eff} (h : (evLookup P hp t ax ai two).val = some f) (hx : Rv w U ρ ax vx) (hi : Rv w U ρ ai vi) (hob : ∀ id ∈ ax.ids, objOk w U ρ id (hp id)) :
  ∃ r v, f = { val := r } ∧ (Instr.lookup t vx vi two).run P w = .ok v w ∧ Rv w U ρ r v := by
 unfold evLookup at h
 split at h
 ·rename_i kt et ht
  split at h
  ·rename_i hkt
   split at h
   ·rename_i id s
    have ho := hob id (by simp [AV.ids])
    split at h
    ·rename_i es hes
     rw [hes] at ho
     obtain ⟨r, ents, clock, h1, h2, h3, h4, h5⟩ := ho
     cases hx with
     | mp _ _ hv _ =>
     rw [h1] at hv; cases hv
     cases hi with
     | str _ hs =>
     cases two with
     | false =>
      simp only [Bool.false_eq_true, if_false] at h
      rcases find_look es ents.toList s 0 _ f h5 h4 h with ⟨j, v, av, hf, hr, rfl⟩ | ⟨hf, hz⟩
      ·refine ⟨av, v, rfl, ?_, hr⟩
       simp [Instr.lookup, run_underlying ht, MapKept.run_getObj_map h3, MapKept.run_checkKey hkt (k := .string ⟨s.toArray⟩) trivial, MapKept.run_findKey hkt hf, Result.andThen]
      ·simp at hz
       obtain ⟨z, hz, rfl⟩ := hz
       obtain ⟨i, zv, hinfo, hz1, rfl⟩ := tzero_ok hz
       refine ⟨_, zv, rfl, ?_, absV_ok zv⟩
       simp [Instr.lookup, run_underlying ht, MapKept.run_getObj_map h3, MapKept.run_checkKey hkt (k := .string ⟨s.toArray⟩) trivial, MapKept.run_findKey hkt hf, Result.andThen, zeroValue, typeInfo, hinfo, hz1]
     | true =>
      simp only [if_true] at h
      rcases find_look2 es ents.toList s 0 _ f h5 h4 h with ⟨j, v, av, hf, hr, rfl⟩ | ⟨hf, hz⟩
      ·refine ⟨_, .tuple #[v, .bool true], rfl, ?_, rv_pair hr (.kb true)⟩
       simp [Instr.lookup, run_underlying ht, MapKept.run_getObj_map h3, MapKept.run_checkKey hkt (k := .string ⟨s.toArray⟩) trivial, MapKept.run_findKey hkt hf, Result.andThen]
      ·unfold zeroT at hz
       split at hz
       ·rename_i z hz0
        simp [ret] at hz
        subst hz
        obtain ⟨i, zv, hinfo, hz1, rfl⟩ := tzero_ok hz0
        refine ⟨_, .tuple #[zv, .bool false], rfl, ?_, rv_pair (absV_ok zv) (.kb false)⟩
        simp [Instr.lookup, run_underlying ht, MapKept.run_getObj_map h3, MapKept.run_checkKey hkt (k := .string ⟨s.toArray⟩) trivial, MapKept.run_findKey hkt hf, Result.andThen, zeroValue, typeInfo, hinfo, hz1]
       ·simp at hz
    ·simp at h
   ·simp at h
  ·split at h
   ·rename_i hvk
    split at h
    ·rename_i id v hvk2
     have ho := hob id (by simp [AV.ids])
     split at h
     ·rename_i u es hes
      rw [hes] at ho
      obtain ⟨r, ents, clock, h1, h2, h3, h4, h5⟩ := ho
      cases hx with
      | mp _ _ hv _ =>
      rw [h1] at hv; cases hv
      rw [vkey_eq hvk2] at hi
      obtain ⟨rfl, hko⟩ := kav_rv hi
      have hfk := run_findKey_v (w := w) hvk hko u es ents.toList h4 h5.1
      have hrun : ∀ (i : TypeInfo) (zv : Value), P.info? et = some i → i.zero = some zv → zv = encU u 0 →
        (Instr.lookup t (.map (some r)) (encV v) two).run P w = .ok (if two then .tuple #[encU u (vget es v), .bool (vhas es v)] else encU u (vget es v)) w := by
       intro i zv hinfo hz1 hz2
       subst hz2
       cases hfi : vfindI es v 0 with
       | none =>
        rw [hfi] at hfk
        obtain ⟨e1, e2, _⟩ := vfind_none hfi
        cases two <;> simp [Instr.lookup, run_underlying ht, MapKept.run_getObj_map h3, run_checkKey_v hvk, hfk, Result.andThen, zeroValue, typeInfo, hinfo, hz1, e1, e2]
       | some q =>
        obtain ⟨j, m⟩ := q
        rw [hfi] at hfk
        obtain ⟨_, e1, e2, _, _⟩ := vfind_some hfi
        cases two <;> simp [Instr.lookup, run_underlying ht, MapKept.run_getObj_map h3, run_checkKey_v hvk, hfk, Result.andThen, e1, e2]
      have hio : IntOk .i64 (vget es v) := by
       cases hfi : vfindI es v 0 with
       | none => rw [(vfind_none hfi).2.1]; unfold IntOk; decide
       | some q =>
        obtain ⟨j, m⟩ := q
        obtain ⟨_, _, e2, ⟨p, hp, _, hpn⟩, _⟩ := vfind_some hfi
        rw [e2, ← hpn]
        exact (h5.1 p (List.mem_of_getElem? hp)).1
      split at h
      ·rename_i z hz
       split at h
       ·rename_i hc
        obtain ⟨rfl, rfl⟩ := hc
        obtain ⟨i, zv, hinfo, hz1, hz2⟩ := tzero_ok hz
        have := absV_int hz2.symm
        subst this
        simp [ret] at h
        subst h
        refine ⟨_, _, rfl, hrun i _ hinfo hz1 rfl, ?_⟩
        cases two
        ·exact .int _ _ hio
        ·exact rv_pair (.int _ _ hio) (.bool _)
       ·simp at h
      ·rename_i cs hz
       split at h
       ·rename_i hc
        obtain ⟨rfl, hcs⟩ := hc
        obtain ⟨i, zv, hinfo, hz1, hz2⟩ := tzero_ok hz
        have := absV_agg0 hz2.symm hcs
        subst this
        simp [ret] at h
        subst h
        have hag : Rv w U ρ (.agg []) (.agg #[]) := .agg [] [] rfl (by simp) (by simp)
        refine ⟨_, _, rfl, hrun i _ hinfo hz1 rfl, ?_⟩
        cases two
        ·exact hag
        ·exact rv_pair hag (.bool _)
       ·simp at h
      ·simp at h
     ·simp at h
    ·simp at h
   ·simp at h
  ·simp at h
 ·simp at h

theorem vidx_find : ∀ {es : List ((Int × Int × Str) × Int)} {k : Int × Int × Str} {i : Nat}, (vfindI es k i = none → vidx es k = es.length) ∧ ∀ j n, vfindI es k i = some (j, n) → j = i + vidx es k
 | [], k, i => ⟨fun _ => rfl, fun j n h => by cases h⟩
 | p :: r, k, i => by
  obtain ⟨h1, h2⟩ := vidx_find (es := r) (k := k) (i := i + 1)
  unfold vfindI vidx
  cases hq : k == p.1
  ·refine ⟨fun h => ?_, fun j n h => ?_⟩
   ·simp only [cond_false] at h ⊢
    rw [h1 h]; simp
   ·simp only [cond_false] at h ⊢
    rw [h2 j n h]; omega
  ·refine ⟨fun h => by simp at h, fun j n h => ?_⟩
   simp only [cond_true, Option.some.injEq, Prod.mk.injEq] at h
   rw [← h.1]; rfl

theorem vidx_le : ∀ (es : List ((Int × Int × Str) × Int)) (k : Int × Int × Str), vidx es k ≤ es.length
 | [], _ => Nat.le_refl _
 | p :: r, k => by
  have := vidx_le r k
  unfold vidx
  cases k == p.1
  ·simp; omega
  ·simp

theorem evEntry_ok {n : Nat} {hp : Nat → AO} {t : TypeId} {am ak : AV} {vm vk : Value} {f : Eff} {fp : List Nat} (h : (evEntry P hp t am ak).val = some f)
  (hm : Rv w U ρ am vm) (hk : Rv w U ρ ak vk) (hub : ∀ b, U b → b < w.heap.size) (hfp : FpOk w U ρ hp fp) (hin : ∀ id ∈ am.ids, id ∈ fp) :
  ∃ v w', (Instr.mapEntry t vm vk).run P w = .ok v w' ∧ Ef n hp f w U ρ v w' U ρ ∧ ∀ id o, (id, o) ∈ f.wr → id ∈ fp := by
 unfold evEntry at h
 split at h
 ·rename_i kt et ht
  split at h
  ·rename_i hvk
   split at h
   ·rename_i id v hvk2
    have hid := hin id (by simp [AV.ids])
    have ho := hfp.ob id hid
    split at h
    ·rename_i es hes
     split at h
     ·rename_i z hz
      split at h
      ·rename_i hz0
       subst hz0
       simp only [Tr.val] at h
       split at h
       ·rename_i hlen
        have hlen : es.length ≤ 1073741824 := of_decide_eq_true hlen
        simp only [Option.some.injEq] at h
        subst h
        rw [hes] at ho
        obtain ⟨r, ents, clock, h1, h2, h3, h4, h5⟩ := ho
        cases hm with
        | mp _ _ hv _ =>
        rw [h1] at hv; cases hv
        rw [vkey_eq hvk2] at hk
        obtain ⟨rfl, hko⟩ := kav_rv hk
        obtain ⟨i0, zv, hinfo, hz1, hz2⟩ := tzero_ok hz
        have := absV_int hz2.symm
        subst this
        have hfk := run_findKey_v (w := w) hvk hko false es ents.toList h4 h5.1
        have hown : (hp id).owns = true := by rw [hes]; rfl
        have hesz : ents.size = es.length := by have := congrArg List.length h4; simpa using this
        have hwrs : ∀ id' o', (id', o') ∈ [(id, AO.vmap false (vent es v))] → id' ∈ fp := by
         intro id' o' h'
         simp only [List.mem_singleton, Prod.mk.injEq] at h'
         rw [h'.1]; exact hid
        have hix : IntOk .i64 (vidx es v : Int) := by
         have := vidx_le es v
         unfold IntOk
         exact ⟨by show (-9223372036854775808 : Int) ≤ _; omega, by show _ ≤ (9223372036854775807 : Int); omega⟩
        cases hfi : vfindI es v 0 with
        | none =>
         rw [hfi] at hfk
         obtain ⟨e1, e2, _⟩ := vfind_none hfi
         have e3 := (vidx_find (es := es) (k := v) (i := 0)).1 hfi
         have hvent : vent es v = es ++ [(v, 0)] := by simp [vent, e1]
         refine ⟨.tuple #[.int .i64 0, goInt clock], { w with heap := w.heap.setIfInBounds r (.map (ents.push { key := encV v, val := .int .i64 0, born := clock }) (clock + 1)) }, ?_, ?_, hwrs⟩
         ·simp [Instr.mapEntry, run_underlying ht, MapKept.run_getObj_map h3, run_checkKey_v hvk, hfk, MapKept.run_setObj_map _ h3, Result.andThen, zeroValue, typeInfo, hinfo, hz1]
         ·refine Ef.setMap h1 h2 h3 hown ?_ hub ?_
          ·refine ⟨r, _, _, h1, h2, (MapKept.heap_set h3).1, ?_, ?_, h5.2.push _ _⟩
           ·rw [hvent]
            simp only [Array.toList_push, List.map_append, h4, List.map_cons, List.map_nil]
            rfl
           ·rw [hvent]
            intro p hp
            rcases List.mem_append.1 hp with hp | hp
            ·exact h5.1 p hp
            ·simp at hp; subst hp; exact ⟨(show IntOk .i64 0 by unfold IntOk; decide), hko⟩
          ·rw [e2]
           have hc : goInt clock = .int .i64 (vidx es v : Int) := by rw [e3, h5.2.1, hesz]; rfl
           rw [hc]
           exact rv_pair (.int _ _ (by unfold IntOk; decide)) (.int _ _ hix)
        | some q =>
         obtain ⟨j, m⟩ := q
         rw [hfi] at hfk
         obtain ⟨_, e1, e2, ⟨p, hpj, hpk, hpn⟩, _⟩ := vfind_some hfi
         have e3 := (vidx_find (es := es) (k := v) (i := 0)).2 j m hfi
         rw [Nat.zero_add] at e3
         rw [Nat.sub_zero] at hpj
         have hvent : vent es v = es := by simp [vent, e1]
         have hent : ∃ e, ents.toList[j]? = some e ∧ e.key = encV v := by
          have : (ents.toList.map fun e => (e.key, e.val))[j]? = some (encV p.1, encU false p.2) := by
           rw [h4]; simp [hpj]
          rw [List.getElem?_map, Option.map_eq_some_iff] at this
          obtain ⟨e, he1, he2⟩ := this
          simp only [Prod.mk.injEq] at he2
          exact ⟨e, he1, by rw [he2.1, hpk]⟩
         obtain ⟨e, he1, he2⟩ := hent
         have he3 : ents[j]? = some e := by rw [← Array.getElem?_toList]; exact he1
         have hst : (Instr.keyThatStays (encV v) (encV v)).run P w = .ok (encV v) w := by
          simp [Instr.keyThatStays, sameBits_encV]
         refine ⟨.tuple #[.int .i64 m, goInt e.born], { w with heap := w.heap.setIfInBounds r (.map (ents.modify j fun e => { e with key := encV v }) clock) }, ?_, ?_, hwrs⟩
         ·simp [Instr.mapEntry, run_underlying ht, MapKept.run_getObj_map h3, run_checkKey_v hvk, hfk, he3, he2, hst, MapKept.run_setObj_map _ h3, Result.andThen, encU]
         ·refine Ef.setMap h1 h2 h3 hown ?_ hub ?_
          ·refine ⟨r, _, _, h1, h2, (MapKept.heap_set h3).1, ?_, by rw [hvent]; exact h5.1, h5.2.modify _ _ (fun _ => rfl)⟩
           rw [hvent]
           apply List.ext_getElem?
           intro q
           have h4q : (ents.toList.map fun e => (e.key, e.val))[q]? = (encE false es)[q]? := by rw [h4]
           simp only [List.getElem?_map, Array.getElem?_toList, Array.getElem?_modify, encE] at h4q ⊢
           by_cases hq : j = q
           ·subst hq
            rw [he3] at h4q
            simp only [Option.map_some, he2] at h4q
            simp only [if_true, he3, Option.map_some]
            exact h4q
           ·simp only [hq, if_false]
            rw [h4q]
          ·rw [e2]
           have hc : goInt e.born = .int .i64 (vidx es v : Int) := by rw [h5.2.2 j e he3, e3]; rfl
           rw [hc]
           have hm : IntOk .i64 m := by rw [← hpn]; exact (h5.1 p (List.mem_of_getElem? hpj)).1
           exact rv_pair (.int _ _ hm) (.int _ _ hix)
       ·cases h
      ·simp at h
     ·simp at h
    ·simp at h
   ·simp at h
  ·simp at h
 ·simp at h

theorem vsetAt_set : ∀ (es : List ((Int × Int × Str) × Int)) (n : Nat) (x : Int) (p : (Int × Int × Str) × Int), es[n]? = some p → vsetAt es n x = es.set n (p.1, x)
 | [], _, _, _, h => by simp at h
 | q :: r, 0, x, p, h => by simp at h; subst h; rfl
 | q :: r, n + 1, x, p, h => by
  rw [vsetAt, vsetAt_set r n x p (by simpa using h)]
  rfl

theorem evEntryStore_ok {n : Nat} {hp : Nat → AO} {t : TypeId} {am as_ ax : AV} {vm vs vx : Value} {f : Eff} {fp : List Nat} (h : (evEntryStore hp am as_ ax).val = some f)
  (hm : Rv w U ρ am vm) (hs : Rv w U ρ as_ vs) (hx : Rv w U ρ ax vx) (hub : ∀ b, U b → b < w.heap.size) (hfp : FpOk w U ρ hp fp) (hin : ∀ id ∈ am.ids, id ∈ fp) :
  ∃ w', (Instr.entryStore t vm vs vx).run P w = .ok () w' ∧ Ef n hp f w U ρ undef w' U ρ ∧ ∀ id o, (id, o) ∈ f.wr → id ∈ fp := by
 unfold evEntryStore at h
 split at h
 ·rename_i id nn yy
  have hid := hin id (by simp [AV.ids])
  have ho := hfp.ob id hid
  split at h
  ·rename_i es hes
   simp only [Tr.val] at h
   split at h
   ·rename_i hinb
    obtain ⟨hb0, hb1⟩ := inB_iff.1 hinb
    simp only [Option.some.injEq] at h
    subst h
    rw [hes] at ho
    obtain ⟨r, ents, clock, h1, h2, h3, h4, h5⟩ := ho
    cases hm with
    | mp _ _ hv _ =>
    rw [h1] at hv; cases hv
    cases hs
    cases hx with
    | int _ _ hy =>
    have hown : (hp id).owns = true := by rw [hes]; rfl
    have hesz : ents.size = es.length := by have := congrArg List.length h4; simpa using this
    have hlt : nn.toNat < ents.size := by omega
    have hfi : ents.findIdx? (fun e => (e.born : Int) == nn) = some nn.toNat := by
     rw [Array.findIdx?_eq_some_iff_getElem]
     refine ⟨hlt, ?_, fun j hj => ?_⟩
     ·have := h5.2.2 nn.toNat ents[nn.toNat] (Array.getElem?_eq_getElem hlt)
      rw [this]
      simp
      omega
     ·have := h5.2.2 j (ents[j]'(by omega)) (Array.getElem?_eq_getElem (by omega))
      rw [this]
      simp
      omega
    obtain ⟨p, hp⟩ : ∃ p, es[nn.toNat]? = some p := ⟨es[nn.toNat]'(by omega), List.getElem?_eq_getElem (by omega)⟩
    refine ⟨{ w with heap := w.heap.setIfInBounds r (.map (ents.modify nn.toNat fun e => { e with val := .int .i64 yy }) clock) }, ?_, ?_, ?_⟩
    ·simp [Instr.entryStore, MapKept.run_getObj_map h3, asInt, asIntOf, hfi, MapKept.run_setObj_map _ h3, Result.andThen]
    ·refine Ef.setMap h1 h2 h3 hown ?_ hub (.tup [] [] rfl (by simp))
     refine ⟨r, _, _, h1, h2, (MapKept.heap_set h3).1, ?_, ?_, h5.2.modify _ _ (fun _ => rfl)⟩
     ·rw [vsetAt_set es _ yy p hp]
      apply List.ext_getElem?
      intro q
      have h4q : (ents.toList.map fun e => (e.key, e.val))[q]? = (encE false es)[q]? := by rw [h4]
      simp only [List.getElem?_map, Array.getElem?_toList, Array.getElem?_modify, List.getElem?_set, encE] at h4q ⊢
      by_cases hq : nn.toNat = q
      ·subst hq
       have hjl : nn.toNat < es.length := by omega
       rw [Array.getElem?_eq_getElem hlt, hp] at h4q
       simp only [Option.map_some, Option.some.injEq, Prod.mk.injEq] at h4q
       simp [Array.getElem?_eq_getElem hlt, hjl, h4q.1, encU]
      ·simp only [hq, if_false]
       rw [h4q]
     ·rw [vsetAt_set es _ yy p hp]
      intro p' hp'
      rcases List.mem_or_eq_of_mem_set hp' with hp' | rfl
      ·exact h5.1 p' hp'
      ·exact ⟨hy, (h5.1 p (List.mem_of_getElem? hp)).2⟩
    ·intro id' o' h'
     simp only [List.mem_singleton, Prod.mk.injEq] at h'
     rw [h'.1]; exact hid
   ·cases h
  ·simp at h
 ·simp at h

theorem Ef.frz {n : Nat} {hp : Nat → AO} {ids : List Nat} {r : AV} {v : Value} (hub : ∀ b, U b → b < w.heap.size) (hvf : ∀ j ∈ ids, isVF (hp j) = true)
  (hob : ∀ j ∈ ids, objOk w U ρ j (hp j)) (hval : Rv w (fun b => U b ∧ ¬ ∃ j ∈ ids, ownsB ρ j (hp j) b) ρ r v) :
  Ef n hp { val := r, wr := frzIds hp ids } w U ρ v w (fun b => U b ∧ ¬ ∃ j ∈ ids, ownsB ρ j (hp j) b) ρ := by
 generalize hU' : (fun b => U b ∧ ¬ ∃ j ∈ ids, ownsB ρ j (hp j) b) = U' at hval ⊢
 have hsub : ∀ b, U' b → U b := fun b h => by rw [← hU'] at h; exact h.1
 have hfz : ∀ j ∈ ids, ∀ b, ownsB ρ j (hp j) b → ¬ U' b := fun j hj b ho h => by rw [← hU'] at h; exact h.2 ⟨j, hj, ho⟩
 have noOwn : ∀ id o b, (id, o) ∈ frzIds hp ids → ownsB ρ id o b → False := by
  intro id o b h ho
  obtain ⟨hin', rfl⟩ := frzIds_mem h
  rw [ownsB, frz_owns (hvf id hin')] at ho
  simp at ho
 refine ⟨Ext.refl w, hval, ?_, by simp, fun _ _ => rfl, fun _ _ h => h, fun _ _ _ => rfl, fun b' h => hub b' (hsub b' h), fun b' _ h => hsub b' h, ?_, ?_, ?_⟩
 ·intro id o h
  obtain ⟨hin', rfl⟩ := frzIds_mem h
  exact freeze_ok (hob id hin') (hvf id hin') hsub (hfz id hin')
 ·intro b' _ h hn
  rw [← hU']
  exact ⟨h, fun ⟨j, hj, ho⟩ => hn j _ (frzIds_of hj) ho⟩
 ·rintro id o b' (h | ⟨_, h⟩) ho
  ·exact (noOwn id o b' h ho).elim
  ·simp at h
 ·rintro id1 o1 id2 o2 b' (h | ⟨_, h⟩) _ ho _
  ·exact (noOwn id1 o1 b' h ho).elim
  ·simp at h

theorem zeroSem_ok (w : World) (U : Nat → Prop) (ρ : Nat → Option Value) {e : Sh} {elem : TypeId} {x : Sem e} (h : zeroSem P e elem = some x) : ∃ zv : Value, (∀ w' : World, (zeroValue elem).run P w' = .ok zv w') ∧ zv.cells.size = e.size ∧ (∀ v ∈ zv.cells.toList, v.oneCell' = true) ∧
  ∀ (w' : World) (U' : Nat → Prop) (ρ' : Nat → Option Value) (j : Nat) (cc : AV), (explode e x)[j]? = some cc → ∃ v, zv.cells[j]? = some v ∧ Rv w' U' ρ' cc v := by
 unfold zeroSem at h
 split at h
 ·rename_i z hz
  obtain ⟨i, zv, hinfo, hz1, rfl⟩ := tzero_ok hz
  split at h
  ·rename_i cs hcs
   split at h
   ·rename_i y himp
    cases h
    have hc := fun (w' : World) (U' : Nat → Prop) (ρ' : Nat → Option Value) => cellsOf_ok hcs (absV_ok (w := w') (U := U') (ρ := ρ') zv)
    have him := fun (w' : World) (U' : Nat → Prop) (ρ' : Nat → Option Value) => implode_ok (w := w') (U := U') (U' := U') (ρ := ρ') (hp := fun _ => .dead) (fun _ h => h) e cs x [] (fun j => (zv.cells.toList[j]?).getD undef) himp
     (fun j c hj => by
      have hcv := (hc w' U' ρ').1
      have hlt : j < zv.cells.toList.length := by rw [← hcv.len]; exact (List.getElem?_eq_some_iff.1 hj).1
      exact hcv.rv j c _ hj (by simp [List.getElem?_eq_getElem hlt]))
     (fun id _ => ⟨trivial, fun b hb => by simp [ownsB, AO.owns] at hb⟩)
    have hsz : zv.cells.size = e.size := by
     have h1 := (hc w U ρ).1.len
     have h2 := (him w U ρ).1
     simp at h1 h2
     omega
    refine ⟨zv, fun w' => by simp [zeroValue, typeInfo, hinfo, hz1], hsz, (hc w U ρ).2, fun w' U' ρ' j cc hcc => ?_⟩
    have hlt : j < zv.cells.size := by rw [hsz]; have := (List.getElem?_eq_some_iff.1 hcc).1; rwa [explode_length] at this
    refine ⟨zv.cells[j], Array.getElem?_eq_getElem hlt, ?_⟩
    have := (him w' U' ρ').2.2 j cc hcc
    simpa [Array.getElem?_eq_getElem hlt] using this
   ·cases h
  ·cases h
 ·cases h

theorem Ef.clearVec {n id i : Nat} {hp : Nat → AO} {e : Sh} {l : List (Sem e)} {x : Sem e} {b c : Nat} {arr : Array Value} {T : TypeId} {vv : List Value} (hub : ∀ b, U b → b < w.heap.size) (hid : hp id = .vec e l)
  (hρ : ρ id = some (.slice (some ⟨b, 0, none⟩) l.length c)) (hc : 0 < c) (hU : U b) (hb : w.heap[b]? = some (.cells arr T (0, 0))) (hm : l.length ≤ maxStr) (hsz : arr.size = c * e.size) (hle : l.length ≤ c)
  (hr : ∀ i (hi : i < l.length) (j : Nat) (c : AV), (explode e l[i])[j]? = some c → ∃ v, arr[i * e.size + j]? = some v ∧ Rv w U ρ c v)
  (hi : i ≤ l.length) (hvl : vv.length = (l.length - i) * e.size)
  (hvv : ∀ k j : Nat, k < l.length - i → ∀ cc, (explode e x)[j]? = some cc → ∃ v, vv[k * e.size + j]? = some v ∧ ∀ w' : World, Rv w' U ρ cc v) :
  Ef n hp { val := .tup [], wr := [(id, .vec e (l.take i ++ List.replicate (l.length - i) x))] } w U ρ (.tuple #[]) (w.setCells b (i * e.size) vv) U ρ := by
 have hown : ownsB ρ id (hp id) b := ⟨by rw [hid]; rfl, _, hρ, by simp [blkOf]; omega⟩
 have hk : ∀ b', b' < w.heap.size → ¬ U b' → (w.setCells b (i * e.size) vv).heap[b']? = w.heap[b']? := fun b' _ hb' => heap_setCells_other _ _ _ _ _ (fun e => hb' (e ▸ hU))
 have hs : w.heap.size ≤ (w.setCells b (i * e.size) vv).heap.size := by rw [setCells_size]; exact Nat.le_refl _
 have hmono : ∀ {cc : AV} {v : Value}, Rv w U ρ cc v → Rv (w.setCells b (i * e.size) vv) U ρ cc v := fun h => h.mono hs hk (fun _ _ h => h) (fun _ _ h => h)
 have hblk := heap_setCells vv w b (i * e.size) hb
 have hlen : (l.take i ++ List.replicate (l.length - i) x).length = l.length := by simp; omega
 refine ⟨Ext.setCells vv w b _, .tup [] [] rfl (by simp), ?_, by simp, fun _ _ => rfl, fun _ _ h => h, ?_, ?_, fun b' _ h => h, fun b' _ h _ => h, ?_, ?_⟩
 ·intro id' o' h
  simp only [List.mem_singleton, Prod.mk.injEq] at h
  obtain ⟨rfl, rfl⟩ := h
  refine ⟨_, c, by rw [hlen]; exact hρ, by rw [hlen]; exact hm, .inr ⟨b, T, (setV arr.toList (i * e.size) vv).toArray, rfl, hc, hU, hblk, by simp [setV_length, hsz], by rw [hlen]; exact hle, ?_⟩⟩
  intro i' hi' j cc hcc
  have hi2 : i' < l.length := by rw [hlen] at hi'; exact hi'
  have hlt : j < e.size := by have := (List.getElem?_eq_some_iff.1 hcc).1; rwa [explode_length] at this
  have hmul : (i' + 1) * e.size ≤ c * e.size := Nat.mul_le_mul_right _ (by omega)
  rw [Nat.succ_mul] at hmul
  simp only [List.getElem?_toArray]
  by_cases hii : i' < i
  ·have he : (l.take i ++ List.replicate (l.length - i) x)[i'] = l[i'] := by
    rw [List.getElem_append_left (by simp; omega)]
    simp
   rw [he] at hcc
   obtain ⟨v, h1, h2⟩ := hr i' hi2 j cc hcc
   refine ⟨v, ?_, hmono h2⟩
   have hmul2 : (i' + 1) * e.size ≤ i * e.size := Nat.mul_le_mul_right _ (by omega)
   rw [Nat.succ_mul] at hmul2
   rw [setV_get, if_neg (by omega)]
   simpa using h1
  ·have he : (l.take i ++ List.replicate (l.length - i) x)[i'] = x := by
    rw [List.getElem_append_right (by simp; omega)]
    simp
   rw [he] at hcc
   obtain ⟨v, h1, h2⟩ := hvv (i' - i) j (by omega) cc hcc
   refine ⟨v, ?_, h2 _⟩
   have e1 : i' * e.size = i * e.size + (i' - i) * e.size := by rw [← Nat.add_mul]; congr 1; omega
   have hb1 : (i' - i) * e.size + j < vv.length := (List.getElem?_eq_some_iff.1 h1).1
   rw [setV_get, if_pos ⟨by omega, by omega, by simp; omega⟩, show i' * e.size + j - i * e.size = (i' - i) * e.size + j by omega]
   exact h1
 ·intro b' _ hn
  exact heap_setCells_other _ _ _ _ _ (fun e' => hn id _ (List.mem_singleton.2 rfl) (e' ▸ hown))
 ·intro b' h; rw [setCells_size]; exact hub b' h
 ·rintro id' o' b' (h | ⟨_, h⟩) ho
  ·simp only [List.mem_singleton, Prod.mk.injEq] at h
   obtain ⟨rfl, rfl⟩ := h
   refine .inr ⟨id', _, List.mem_singleton.2 rfl, ?_⟩
   obtain ⟨_, v, hv', hb'⟩ := ho
   exact ⟨by rw [hid]; rfl, v, hv', hb'⟩
  ·simp at h
 ·rintro id1 o1 id2 o2 b' (h | ⟨_, h⟩) (h' | ⟨_, h'⟩) _ _
  ·simp only [List.mem_singleton, Prod.mk.injEq] at h h'
   rw [h.1, h'.1]
  ·simp at h'
  ·simp at h
  ·simp at h

theorem Ef.wrSame {n id : Nat} {hp : Nat → AO} {o : AO} {v : Value} (hub : ∀ b, U b → b < w.heap.size) (hid : hp id = o) (hob : objOk w U ρ id o) (hv : Rv w U ρ (.tup []) v) : Ef n hp { val := .tup [], wr := [(id, o)] } w U ρ v w U ρ := by
 refine ⟨Ext.refl w, hv, ?_, by simp, fun _ _ => rfl, fun _ _ h => h, fun _ _ _ => rfl, hub, fun b' _ h => h, fun b' _ h _ => h, ?_, ?_⟩
 ·intro id' o' h
  simp only [List.mem_singleton, Prod.mk.injEq] at h
  obtain ⟨rfl, rfl⟩ := h
  exact hob
 ·rintro id' o' b' (h | ⟨_, h⟩) ho
  ·simp only [List.mem_singleton, Prod.mk.injEq] at h
   obtain ⟨rfl, rfl⟩ := h
   exact .inr ⟨id', _, List.mem_singleton.2 rfl, by rw [hid]; exact ho⟩
  ·simp at h
 ·rintro id1 o1 id2 o2 b' (h | ⟨_, h⟩) (h' | ⟨_, h'⟩) _ _
  ·simp only [List.mem_singleton, Prod.mk.injEq] at h h'
   rw [h.1, h'.1]
  ·simp at h'
  ·simp at h
  ·simp at h

theorem zeroCells_get (z : Array Value) (m k j : Nat) (hk : k < m) (hj : j < z.size) : (Builtin.zeroCells z m).toList[k * z.size + j]? = some z[j] := by
 have hlt : k * z.size + j < m * z.size := by
  have : (k + 1) * z.size ≤ m * z.size := Nat.mul_le_mul_right _ (by omega)
  rw [Nat.succ_mul] at this
  omega
 unfold Builtin.zeroCells
 rw [Array.getElem?_toList, Array.getElem?_map, Array.getElem?_range]
 rw [if_pos hlt]
 simp only [Option.map_some]
 have : (k * z.size + j) % z.size = j := by
  rw [Nat.mul_comm, Nat.mul_add_mod, Nat.mod_eq_of_lt hj]
 rw [this, getElem!_pos z j hj]

theorem evClear_ok {n : Nat} {hp : Nat → AO} {t ty : TypeId} {ax : AV} {vx : Value} {f : Eff} {fp : List Nat} (h : (evClear P hp t ax).val = some f) (hx : Rv w U ρ ax vx) (hub : ∀ b, U b → b < w.heap.size) (hfp : FpOk w U ρ hp fp) (hin : ∀ id ∈ ax.ids, id ∈ fp) :
  ∃ v w', (Builtin.clear_ #[t] ty #[vx]).run P w = .ok v w' ∧ Ef n hp f w U ρ v w' U ρ ∧ ∀ id o, (id, o) ∈ f.wr → id ∈ fp := by
 unfold evClear at h
 split at h
 ·rename_i id sz i
  have hidfp := hin id (by simp [AV.ids])
  have ho := hfp.ob id hidfp
  split at h
  ·rename_i e l elem hid hu
   split at h
   ·rename_i hsz0
    subst hsz0
    split at h
    ·rename_i x hz
     simp only [Tr.val] at h
     split at h
     ·rename_i hil
      simp only [Option.some.injEq] at h
      subst h
      simp only [decide_eq_true_eq] at hil
      obtain ⟨zv, z1, z2, z3, z4⟩ := zeroSem_ok w U ρ hz
      cases hx with
      | vsuf _ _ _ n' c a hρ hi hn =>
      have hob := ho
      rw [hid] at ho
      obtain ⟨a', c', h1, hm, h3⟩ := ho
      rw [hρ] at h1
      simp only [Option.some.injEq, Value.slice.injEq] at h1
      obtain ⟨rfl, rfl, rfl⟩ := h1
      have hwr : ∀ id' o, (id', o) ∈ [(id, AO.vec e (l.take i ++ List.replicate (l.length - i) x))] → id' ∈ fp := by
       intro id' o h'
       simp only [List.mem_singleton, Prod.mk.injEq] at h'
       rw [h'.1]; exact hidfp
      by_cases hlt : i < l.length
      ·rcases h3 with ⟨rfl, _⟩ | ⟨b, T, arr, rfl, hc, hU, hb, hasz, hle, hr⟩
       ·simp at hlt
       ·have hne : ¬ c = i := by omega
        have hzs : (Builtin.zeroCells zv.cells (l.length - i)).toList.length = (l.length - i) * e.size := by simp [zeroCells_size, z2]
        have hcl : ∀ j, j < (l.length - i) * e.size → i * e.size + j < arr.size := by
         intro j hj
         have h1 : i * e.size + (l.length - i) * e.size = l.length * e.size := by rw [← Nat.add_mul]; congr 1; omega
         have h2 : l.length * e.size ≤ c * e.size := Nat.mul_le_mul_right _ hle
         omega
        refine ⟨.tuple #[], w.setCells b (i * e.size) (Builtin.zeroCells zv.cells (l.length - i)).toList, ?_, ?_, hwr⟩
        ·have hst := run_storeCells_cells (P := P) b (i * e.size) (Builtin.zeroCells zv.cells (l.length - i)).toList 0 w
          (fun j hj => by
           rw [hzs] at hj
           have := hcl j hj
           simp [World.cell?, hb, Array.getElem?_eq_getElem this])
          (fun j hj => by simp [World.frozen?, hb])
          (fun v hv => by
           simp only [Builtin.zeroCells, Array.toList_map, List.mem_map] at hv
           obtain ⟨q, hq, rfl⟩ := hv
           have hpos : 0 < zv.cells.size := by
            rcases Nat.eq_zero_or_pos zv.cells.size with h0 | h0
            ·rw [h0] at hq; simp at hq
            ·exact h0
           have hlt2 : q % zv.cells.size < zv.cells.size := Nat.mod_lt _ hpos
           rw [getElem!_pos zv.cells _ hlt2]
           exact z3 _ (by simp))
         simp only [Nat.add_zero] at hst
         obtain ⟨m, hm'⟩ : ∃ m, l.length - i = m + 1 := ⟨l.length - i - 1, by omega⟩
         rw [hm'] at hst ⊢
         rw [if_neg hne]
         simp [Builtin.clear_, run_underlying hu, z1, hst, Addr.add_none]
        ·refine Ef.clearVec hub hid hρ hc hU hb hm hasz hle hr hil hzs (fun k j hk cc hcc => ?_)
         obtain ⟨v, v1, _⟩ := z4 w U ρ j cc hcc
         have hjl : j < zv.cells.size := (Array.getElem?_eq_some_iff.1 v1).1
         rw [← z2]
         refine ⟨zv.cells[j], zeroCells_get _ _ _ _ hk hjl, fun w' => ?_⟩
         obtain ⟨v', v1', v2'⟩ := z4 w' U ρ j cc hcc
         rw [Array.getElem?_eq_getElem hjl] at v1'
         cases v1'
         exact v2'
      ·have h0 : l.length - i = 0 := by omega
       have hl : l.take i ++ List.replicate (l.length - i) x = l := by rw [h0, List.replicate_zero, List.append_nil]; exact List.take_of_length_le (by omega)
       refine ⟨.tuple #[], w, ?_, ?_, hwr⟩
       ·rw [h0]
        split <;> cases a <;> simp [Builtin.clear_, run_underlying hu]
       ·rw [hl]
        exact Ef.wrSame hub hid (by rw [← hid]; exact hob) (.tup [] [] rfl (by simp))
     ·cases h
    ·cases h
   ·cases h
  ·cases h
 ·cases h

theorem evSliceV_ok {n : Nat} {hp : Nat → AO} {t : TypeId} {ax : AV} {vx : Value} {lo hi mx : Option AV} {vlo vhi vmx : Option Value} {f : Eff} {fp : List Nat} (h : (evSliceV P hp t ax lo hi mx).val = some f)
  (hx : Rv w U ρ ax vx) (rlo : ∀ a v, lo = some a → vlo = some v → Rv w U ρ a v) (rhi : ∀ a v, hi = some a → vhi = some v → Rv w U ρ a v)
  (rmx : ∀ a v, mx = some a → vmx = some v → Rv w U ρ a v) (slo : lo.isSome = vlo.isSome) (shi : hi.isSome = vhi.isSome) (smx : mx.isSome = vmx.isSome)
  (hub : ∀ b, U b → b < w.heap.size) (hfp : FpOk w U ρ hp fp) (hin : ∀ id ∈ ax.ids, id ∈ fp) :
  ∃ v U', (Instr.sliceAt t vx vlo vhi vmx).run P w = .ok v w ∧ Ef n hp f w U ρ v w U' ρ ∧ ∀ id o, (id, o) ∈ f.wr → id ∈ fp := by
 unfold evSliceV at h
 split at h
 ·rename_i id
  have hid := hin id (by simp [AV.ids])
  have ho := hfp.ob id hid
  split at h
  ·rename_i e l hes
   split at h
   ·rename_i al
    split at h
    ·rename_i k elem hk hu
     split at h
     ·rename_i hsz
      simp only [Tr.val] at h
      split at h
      ·rename_i hcond
       simp only [ret, Tr.val, Option.some.injEq] at h
       subst h
       simp only [Bool.and_eq_true, decide_eq_true_eq] at hcond
       obtain ⟨hk0, hk1⟩ := hcond
       cases vhi with
       | some v => simp at shi
       | none =>
       cases vmx with
       | some v => simp at smx
       | none =>
       rw [hes] at ho
       obtain ⟨a, c, h1, hm, h3⟩ := ho
       have hlc : l.length ≤ c := by
        rcases h3 with ⟨rfl, rfl⟩ | ⟨_, _, _, _, _, _, _, _, h3, _⟩
        ·simp
        ·exact h3
       cases hx with
       | vec _ _ hv _ =>
       rw [hv] at h1; cases h1
       have hb := bounds_ok (P := P) (w := w) (U := U) (ρ := ρ) (isS := true) (len := l.length) (cap := c) (lo := some al) (hi := none) (vlo := vlo) (vhi := none) (l := k) (h := (l.length : Int)) hk rfl rlo (fun a v ha => by cases ha) slo rfl hk0 hk1 (Int.le_refl _) hlc
       refine ⟨_, U, ?_, Ef.pure hub (.vsuf id e.size k.toNat l.length c a hv (by omega) hlc), by simp⟩
       simp [Instr.sliceAt, Instr.slice, run_underlying hu, hb, run_tsize hsz]
      ·cases h
     ·cases h
    ·cases h
   simp only [Tr.val_bind, Option.bind_eq_some_iff] at h
   obtain ⟨f0, h0, h1⟩ := h
   simp only [Tr.val_ok, Option.some.injEq] at h1
   subst h1
   have hsub : ∀ b, (U b ∧ ¬ ∃ j ∈ [id], ownsB ρ j (hp j) b) → U b := fun b hb => hb.1
   have hsl : Rv w (fun b => U b ∧ ¬ ∃ j ∈ [id], ownsB ρ j (hp j) b) ρ (.sl e l) vx :=
    asSl_ok (hp := hp) (e := e) (c := .vec id) (by simp [asSl, hes]) hx hsub (fun j hj => by simp [vecIds] at hj; subst hj; exact ho)
     (fun j hj b hb hU => by simp [vecIds] at hj; subst hj; exact hU.2 ⟨_, by simp, hb⟩)
   obtain ⟨r, x, rfl, hrun, hr⟩ := evSlice_ok (w := w) (U := fun b => U b ∧ ¬ ∃ j ∈ [id], ownsB ρ j (hp j) b) (ρ := ρ) (vlo := vlo) (vhi := vhi) (vmx := vmx) h0 hsl
    (fun a v ha hv => (rlo a v ha hv).weak hsub) (fun a v ha hv => (rhi a v ha hv).weak hsub) (fun a v ha hv => (rmx a v ha hv).weak hsub) slo shi smx
   refine ⟨x, _, hrun, Ef.frz hub (by simp [hes, isVF]) (by simp; exact ho) hr, fun id' o' h' => ?_⟩
   obtain ⟨h2, _⟩ := frzIds_mem h'
   simp at h2
   rw [h2]; exact hid
  ·rename_i e l hes
   rw [hes] at ho
   obtain ⟨v', hv', hrv⟩ := ho
   cases hx with
   | vec _ _ hv _ =>
   rw [hv] at hv'; cases hv'
   obtain ⟨r, x, rfl, hrun, hr⟩ := evSlice_ok (w := w) (U := U) (ρ := ρ) (vlo := vlo) (vhi := vhi) (vmx := vmx) h hrv rlo rhi rmx slo shi smx
   exact ⟨x, U, hrun, Ef.pure hub hr, by simp⟩
  ·simp at h
 ·obtain ⟨r, x, rfl, hrun, hr⟩ := evSlice_ok (w := w) (U := U) (ρ := ρ) (vlo := vlo) (vhi := vhi) (vmx := vmx) h hx rlo rhi rmx slo shi smx
  exact ⟨x, U, hrun, Ef.pure hub hr, by simp⟩

end
open Go
section
variable {w : World} {U : Nat → Prop} {ρ : Nat → Option Value}

def GlOk (gl : Nat → AV) (w : World) (U : Nat → Prop) : Prop := ∀ g, Rv w U (fun _ => none) (gl g) (.pointer (some ⟨g, 0, none⟩))

structure FOk (P : Program) (gl : Nat → AV) (k : FuncId) (F : FSem) : Prop where
 fn : ∃ fn, P.funcs[k]? = some fn ∧ (fn.name == "runtime.NumGoroutine") = false ∧ fn.body.isNone = false
 calls : ∀ (w : World) (U : Nat → Prop) (ρ : Nat → Option Value) (hp : Nat → AO) (n : Nat) (args : List AV) (vals : List Value) (f : Eff) (fp : List Nat), (F args hp n).val = some f →
  RvL w U ρ args vals → (∀ b, U b → b < w.heap.size) → GlOk gl w U → FpOk w U ρ hp fp → (∀ id ∈ AV.idsL args, id ∈ fp) → (∀ id ∈ fp, ∀ j ∈ (hp id).ids, j ∈ fp) → (∀ j, j < f.nw.length → ρ (n + j) = none) →
  Calls P k vals.toArray w (fun e w' => ∃ v U' ρ', e = .returned v ∧ Ef n hp f w U ρ v w' U' ρ') ∧ ∀ id o, (id, o) ∈ f.wr → id ∈ fp

structure EnvAll (E : Env) : Prop extends EnvOk E where
 fs : ∀ k F, E.F k = some F → FOk E.P E.gl k F

theorem partIds_ids {v : AV} {id : Nat} (h : id ∈ partIds v) : id ∈ v.ids := by
 have hl : ∀ cs : List AV, id ∈ cs.flatMap vecIds → id ∈ AV.idsL cs := by
  intro cs
  induction cs with
  | nil => simp
  | cons c cs ih =>
   intro h
   simp only [List.flatMap_cons, List.mem_append] at h
   simp only [AV.idsL, List.mem_append]
   rcases h with h | h
   ·left
    cases c <;> simp [vecIds] at h
    subst h; simp [AV.ids]
   ·exact .inr (ih h)
 unfold partIds at h
 split at h
 ·rename_i cs hcs
  cases v <;> simp only [cellsOf, Option.some.injEq, reduceCtorEq] at hcs <;> (try subst hcs)
  case agg cs => simp only [AV.ids]; exact hl _ h
  case vec id' => simp [vecIds] at h; subst h; simp [AV.ids]
  all_goals simp [vecIds] at h
 ·simp at h

theorem idsL_mem {cs : List AV} {c : AV} {id : Nat} (hc : c ∈ cs) (h : id ∈ c.ids) : id ∈ AV.idsL cs := by
 induction cs with
 | nil => simp at hc
 | cons x cs ih =>
  simp only [AV.idsL, List.mem_append]
  rcases List.mem_cons.1 hc with rfl | hc
  ·exact .inl h
  ·exact .inr (ih hc)

theorem idsL_of {cs : List AV} {id : Nat} (h : id ∈ AV.idsL cs) : ∃ c ∈ cs, id ∈ c.ids := by
 induction cs with
 | nil => simp [AV.idsL] at h
 | cons x cs ih =>
  simp only [AV.idsL, List.mem_append] at h
  rcases h with h | h
  ·exact ⟨x, by simp, h⟩
  ·obtain ⟨c, hc, hi⟩ := ih h
   exact ⟨c, by simp [hc], hi⟩

theorem wp_value {P : Program} {o : Oper} {a : Act} {K : Act → World → Prop} {Q : Exit → Act → World → Prop} {v : Value} {w' : World} (h : (execOp a.eval o).run P w = .ok (.value v) w') (hk : K (a.put o.dst v) w') : o.wp P a w K Q := by
 rw [Oper.wp, h]; exact hk

theorem wp_skip' {P : Program} {o : Oper} {a : Act} {K : Act → World → Prop} {Q : Exit → Act → World → Prop} {w' : World} (h : (execOp a.eval o).run P w = .ok .skip w') (hk : K (a.put o.dst undef) w') : o.wp P a w K Q := by
 rw [Oper.wp, h]; exact hk

theorem rvL_map {ev : Operand → AV} {g : Operand → Value} : ∀ (xs : List Operand), (∀ x ∈ xs, Rv w U ρ (ev x) (g x)) → RvL w U ρ (xs.map ev) (xs.map g)
 | [], _ => ⟨rfl, by simp⟩
 | x :: xs, h => by
  have ih := rvL_map xs (fun y hy => h y (by simp [hy]))
  refine ⟨by simp, fun j c v hc hv => ?_⟩
  cases j with
  | zero => simp at hc hv; subst hc; subst hv; exact h x (by simp)
  | succ j => exact ih.rv j c v (by simpa using hc) (by simpa using hv)

theorem RvL.append {a b : List AV} {x y : List Value} (h : RvL w U ρ a x) (h' : RvL w U ρ b y) : RvL w U ρ (a ++ b) (x ++ y) := by
 refine ⟨by simp [h.len, h'.len], fun j c v hc hv => ?_⟩
 by_cases hj : j < a.length
 ·rw [List.getElem?_append_left hj] at hc
  rw [List.getElem?_append_left (by rw [← h.len]; exact hj)] at hv
  exact h.rv j c v hc hv
 ·rw [List.getElem?_append_right (by omega)] at hc
  rw [List.getElem?_append_right (by rw [← h.len]; omega), ← h.len] at hv
  exact h'.rv _ c v hc hv

theorem evalOp_ok {E : Env} (hE : EnvAll E) {ev : Operand → AV} {hp : Nat → AO} {n : Nat} {o : Oper} {f : Eff} {a : Act} {fp : List Nat} (h : (evalOp E ev hp n o).val = some f)
  (hev : ∀ x ∈ o.op.operands.toList, Rv w U ρ (ev x) (a.eval x)) (hub : ∀ b, U b → b < w.heap.size) (hgl : GlOk E.gl w U) (hfp : FpOk w U ρ hp fp)
  (hin : memOp o.op = true → ∀ x ∈ o.op.operands.toList, ∀ id ∈ (ev x).ids, id ∈ fp) (hcl : deepOp o.op = true → ∀ id ∈ fp, ∀ j ∈ (hp id).ids, j ∈ fp) (hn : ∀ j, j < f.nw.length → ρ (n + j) = none) :
  (∀ (K : Act → World → Prop) (Q : Exit → Act → World → Prop), (∀ v w' U' ρ', Ef n hp f w U ρ v w' U' ρ' → K (a.put o.dst v) w') → o.wp E.P a w K Q) ∧ ∀ id o', (id, o') ∈ f.wr → id ∈ fp := by
 have pureCase : ∀ (r : AV) (x : Value), f = { val := r } → (execOp a.eval o).run E.P w = .ok (.value x) w → Rv w U ρ r x →
   (∀ (K : Act → World → Prop) (Q : Exit → Act → World → Prop), (∀ v w' U' ρ', Ef n hp f w U ρ v w' U' ρ' → K (a.put o.dst v) w') → o.wp E.P a w K Q) ∧ ∀ id o', (id, o') ∈ f.wr → id ∈ fp := by
  rintro r x rfl hrun hr
  exact ⟨fun K Q hK => wp_value hrun (hK _ _ _ _ (Ef.pure hub hr)), by simp⟩
 unfold evalOp at h
 split at h
 case h_1 x ho =>
  simp at h; subst h
  exact pureCase _ (a.eval x) rfl (by simp [execOp, ho]) (hev x (by simp [ho, Op.operands]))
 case h_2 x ho =>
  simp at h; subst h
  exact pureCase _ (a.eval x) rfl (by simp [execOp, ho]) (hev x (by simp [ho, Op.operands]))
 case h_3 c x y ho =>
  have hc := hev c (by simp [ho, Op.operands])
  have hx := hev x (by simp [ho, Op.operands])
  have hy := hev y (by simp [ho, Op.operands])
  generalize hvc : a.eval c = vc at hc
  split at h
  ·rename_i hcc
   rw [hcc] at hc; cases hc
   simp at h; subst h
   exact pureCase _ (a.eval x) rfl (by simp [execOp, ho, hvc, asBool]) hx
  ·rename_i hcc
   rw [hcc] at hc; cases hc
   simp at h; subst h
   exact pureCase _ (a.eval y) rfl (by simp [execOp, ho, hvc, asBool]) hy
  ·rename_i b hcc
   rw [hcc] at hc; cases hc
   simp at h
   obtain ⟨z, hz, rfl⟩ := h
   refine pureCase _ (if b then a.eval x else a.eval y) rfl (by simp [execOp, ho, hvc, asBool]) (mergeAV_ok hz ?_)
   cases b <;> simp [hx, hy]
  ·simp at h
 case h_4 t x ho =>
  have hx := hev x (by simp [ho, Op.operands])
  split at h
  ·rename_i cs hcs
   simp at h; subst h
   obtain ⟨h1, h2⟩ := cellsOf_ok hcs hx
   refine ⟨fun K Q hK => wp_value (v := .pointer (some ⟨w.heap.size, 0, none⟩)) (w' := w.alloc (.cells (a.eval x).cells t)) ?_ (hK _ _ _ _ (Ef.box hub (by simpa using hn 0 (by simp)) h1 h2)), by simp⟩
   simp [execOp, ho, Instr.box, newVar, newRow]
  ·simp at h
 case h_5 t ho =>
  split at h
  ·rename_i z hz
   split at h
   ·rename_i cs hcs
    simp at h; subst h
    unfold tzero at hz
    split at hz
    ·rename_i i hinfo
     simp only [Option.map_eq_some_iff] at hz
     obtain ⟨zv, hz1, rfl⟩ := hz
     obtain ⟨h1, h2⟩ := cellsOf_ok hcs (absV_ok (w := w) (U := U) (ρ := ρ) zv)
     refine ⟨fun K Q hK => wp_value (v := .pointer (some ⟨w.heap.size, 0, none⟩)) (w' := w.alloc (.cells zv.cells t)) ?_ (hK _ _ _ _ (Ef.box hub (by simpa using hn 0 (by simp)) h1 h2)), by simp⟩
     simp [execOp, ho, Instr.alloc, zeroValue, typeInfo, hinfo, hz1, newVar, newRow]
    ·cases hz
   ·simp at h
  ·simp at h
 case h_6 t x ho =>
  have hx := hev x (by simp [ho, Op.operands])
  obtain ⟨r, v, rfl, hrun, hr⟩ := evLoad_ok h hx (fun id hid => hfp.ob id (hin (by simp [ho, memOp]) x (by simp [ho, Op.operands]) id hid))
  exact pureCase r v rfl (by simp [execOp, ho, hrun]) hr
 case h_7 t x y ho =>
  have hx := hev x (by simp [ho, Op.operands])
  have hy := hev y (by simp [ho, Op.operands])
  obtain ⟨w', U', hrun, hef, hwr⟩ := evStore_ok (n := n) h hx hy hub hfp (fun id hid => hin (by simp [ho, memOp]) x (by simp [ho, Op.operands]) id hid)
   (fun id hid => hin (by simp [ho, memOp]) y (by simp [ho, Op.operands]) id (partIds_ids hid))
  exact ⟨fun K Q hK => wp_skip' (by simp [execOp, ho, hrun]) (hK _ _ _ _ hef), hwr⟩
 case h_8 t x fl ho =>
  have hx := hev x (by simp [ho, Op.operands])
  obtain ⟨r, v, rfl, hrun, hr⟩ := evField_ok h hx
  exact pureCase r v rfl (by simp [execOp, ho, hrun]) hr
 case h_9 t x fl ho =>
  have hx := hev x (by simp [ho, Op.operands])
  split at h
  ·rename_i fd cs hfd hcs
   simp at h
   obtain ⟨r, hr, rfl⟩ := h
   rw [hcs] at hx
   generalize hvx : a.eval x = vx at hx
   cases hx with
   | agg _ vs hl h1 hrr =>
   obtain ⟨v, hrun, hrv⟩ := partA_part hr hl h1 hrr
   unfold fieldOf at hfd
   split at hfd
   ·rename_i fs hu
    exact pureCase r v rfl (by simp [execOp, ho, hvx, Instr.field, run_underlying hu, hfd, asAgg, hrun]) hrv
   ·cases hfd
  ·simp at h
 case h_10 t x i ho =>
  have hx := hev x (by simp [ho, Op.operands])
  have hi := hev i (by simp [ho, Op.operands])
  obtain ⟨r, v, rfl, hrun, hr⟩ := evIndexAddr_ok h hx hi (fun id hid => hfp.ob id (hin (by simp [ho, memOp]) x (by simp [ho, Op.operands]) id hid))
  exact pureCase r v rfl (by simp [execOp, ho, hrun]) hr
 case h_11 t x i ho =>
  have hx := hev x (by simp [ho, Op.operands])
  have hi := hev i (by simp [ho, Op.operands])
  obtain ⟨r, v, rfl, hrun, hr⟩ := evIndex_ok h hx hi
  exact pureCase r v rfl (by simp [execOp, ho, hrun]) hr
 case h_12 t parts ho =>
  simp at h
  obtain ⟨r, hr, rfl⟩ := h
  have hops : ∀ p ∈ parts.toList, Rv w U ρ (ev p.2) (a.eval p.2) := fun p hp => hev p.2 (by simp only [ho, Op.operands]; simp; exact ⟨p.1, by simpa using hp⟩)
  obtain ⟨v, hrun, hrv⟩ := buildA_ok (w := w) (U := U) (ρ := ρ) (vparts := parts.toList.map fun p => (p.1, a.eval p.2)) hr (by simp) (by
   have := rvL_map (w := w) (U := U) (ρ := ρ) (ev := ev) (g := a.eval) (parts.toList.map (·.2)) (fun x hx => by
    simp only [List.mem_map] at hx
    obtain ⟨p, hp, rfl⟩ := hx
    exact hops p hp)
   simpa [List.map_map, Function.comp_def] using this)
  refine pureCase r v rfl ?_ hrv
  have e1 : (parts.toList.map fun p => (p.1, a.eval p.2)).toArray = parts.map fun p => (p.1, a.eval p.2) := by
   apply Array.ext'; simp
  rw [e1] at hrun
  simp [execOp, ho, hrun]
 case h_13 t len parts ho =>
  have hops : ∀ p ∈ parts.toList, Rv w U ρ (ev p.2) (a.eval p.2) := fun p hp => hev p.2 (by simp only [ho, Op.operands]; simp; exact ⟨p.1, by simpa using hp⟩)
  obtain ⟨v, w', U', hrun, hef, hwr⟩ := evBuildSlice_ok hE.toEnvOk (n := n) (w := w) (U := U) (ρ := ρ) (vps := parts.toList.map fun p => (p.1, a.eval p.2)) h (by simp) (by
   have := rvL_map (w := w) (U := U) (ρ := ρ) (ev := ev) (g := a.eval) (parts.toList.map (·.2)) (fun x hx => by
    simp only [List.mem_map] at hx
    obtain ⟨p, hp, rfl⟩ := hx
    exact hops p hp)
   simpa [List.map_map, Function.comp_def] using this) hub hfp (fun id hid => by
    simp only [List.mem_flatMap, List.mem_map] at hid
    obtain ⟨q, ⟨p, hp, rfl⟩, hid⟩ := hid
    exact hin (by simp [ho, memOp]) p.2 (by simp only [ho, Op.operands]; simp; exact ⟨p.1, by simpa using hp⟩) id (partIds_ids hid))
  refine ⟨fun K Q hK => wp_value ?_ (hK _ _ _ _ hef), hwr⟩
  have e1 : (parts.toList.map fun p => (p.1, a.eval p.2)).toArray = parts.map fun p => (p.1, a.eval p.2) := by
   apply Array.ext'; simp
  rw [e1] at hrun
  simp [execOp, ho, hrun]
 case h_14 op t x y yt ho =>
  have hx := hev x (by simp [ho, Op.operands])
  have hy := hev y (by simp [ho, Op.operands])
  obtain ⟨r, v, rfl, hrun, hr⟩ := binA_ok x y h hx hy
  refine pureCase r v rfl ?_ hr
  simp only [execOp, ho]
  rw [Sem.run_bind, hrun]
  rfl
 case h_15 t x ho =>
  have hx := hev x (by simp [ho, Op.operands])
  generalize hvx : a.eval x = vx at hx
  split at h
  ·rename_i b hb
   rw [hb] at hx; cases hx
   simp at h; subst h
   exact pureCase _ (.bool (!b)) rfl (by simp [execOp, ho, hvx, Op.unary]) (.bool _)
  ·rename_i b hb
   rw [hb] at hx; cases hx
   simp at h; subst h
   exact pureCase _ (.bool (!b)) rfl (by simp [execOp, ho, hvx, Op.unary]) (.kb _)
  ·simp at h
 case h_16 t x ho =>
  have hx := hev x (by simp [ho, Op.operands])
  generalize hvx : a.eval x = vx at hx
  split at h
  ·rename_i k b hb
   rw [hb] at hx; cases hx
   simp at h; subst h
   exact pureCase _ (.int k (k.wrap (-b))) rfl (by simp [execOp, ho, hvx, Op.unary, Op.intArith]) (.int _ _ (wrap_ok _ _))
  ·simp at h
 case h_17 src dst x ho =>
  have hx := hev x (by simp [ho, Op.operands])
  generalize hvx : a.eval x = vx at hx
  split at h
  ·rename_i d k k' b hs hu hb
   rw [hb] at hx; cases hx
   simp at h; subst h
   exact pureCase _ (.int k (k.wrap b)) rfl (by simp [execOp, ho, hvx, convert, run_underlying hs, run_underlying hu, Conv.intToInt]) (.int _ _ (wrap_ok _ _))
  ·rename_i d s hs hu hb
   rw [hb] at hx
   have hh := hx
   cases hx
   simp at h; subst h
   exact pureCase _ _ rfl (by simp [execOp, ho, hvx, convert, run_underlying hs, run_underlying hu]) hh
  ·simp at h
 case h_18 t x lo hi mx ho =>
  have hx := hev x (by simp [ho, Op.operands])
  obtain ⟨v, U', hrun, hef, hwr⟩ := evSliceV_ok (n := n) (fp := fp) (w := w) (U := U) (ρ := ρ) (vlo := lo.map a.eval) (vhi := hi.map a.eval) (vmx := mx.map a.eval) h hx
   (fun b v hb hv => by cases lo <;> simp at hb hv; subst hb; subst hv; exact hev _ (by simp [ho, Op.operands]))
   (fun b v hb hv => by cases hi <;> simp at hb hv; subst hb; subst hv; exact hev _ (by simp [ho, Op.operands]))
   (fun b v hb hv => by cases mx <;> simp at hb hv; subst hb; subst hv; exact hev _ (by simp [ho, Op.operands])) (by cases lo <;> rfl) (by cases hi <;> rfl) (by cases mx <;> rfl) hub hfp (fun id hid => hin (by simp [ho, memOp]) x (by simp [ho, Op.operands]) id hid)
  exact ⟨fun K Q hK => wp_value (by simp [execOp, ho, hrun]) (hK _ _ _ _ hef), hwr⟩
 case h_19 x i ho =>
  have hx := hev x (by simp [ho, Op.operands])
  generalize hvx : a.eval x = vx at hx
  split at h
  ·rename_i vs hvs
   rw [hvs] at hx
   simp at h
   obtain ⟨r, hr, rfl⟩ := h
   cases hx with
   | tup _ xs hl hrr =>
   have hlt : i < xs.length := by rw [← hl]; exact (List.getElem?_eq_some_iff.1 hr).1
   exact pureCase r xs[i] rfl (by simp [execOp, ho, hvx, Instr.extract, List.getElem?_eq_getElem hlt]) (hrr i r _ hr (List.getElem?_eq_getElem hlt))
  ·simp at h
 case h_20 fn first caps ho =>
  simp at h; subst h
  refine pureCase _ (.func fn (first.toList.map a.eval).toArray (caps.toList.map a.eval).toArray) rfl (by simp [execOp, ho, Instr.makeFunc]; constructor <;> (apply Array.ext'; simp)) ?_
  have h1 := rvL_map (w := w) (U := U) (ρ := ρ) (ev := ev) (g := a.eval) first.toList (fun x hx => hev x (by simp [ho, Op.operands]; exact .inl (by simpa using hx)))
  have h2 := rvL_map (w := w) (U := U) (ρ := ρ) (ev := ev) (g := a.eval) caps.toList (fun x hx => hev x (by simp [ho, Op.operands]; exact .inr (by simpa using hx)))
  exact .clo fn _ _ _ _ h1.len h2.len h1.rv h2.rv
 case h_21 x ho =>
  have hx := hev x (by simp [ho, Op.operands])
  have hx' := hx
  generalize hvx : a.eval x = vx at hx
  split at h
  ·rename_i i j hav
   rw [hav] at hx
   simp at h; subst h
   have hh := hx
   cases hx
   exact pureCase _ _ rfl (by simp [execOp, ho, hvx]) hh
  ·rename_i cs j hav
   rw [hav] at hx
   simp at h; subst h
   have hh := hx
   cases hx
   exact pureCase _ _ rfl (by simp [execOp, ho, hvx]) hh
  ·rename_i i j k l hav
   rw [hav] at hx
   simp at h; subst h
   have hh := hx
   cases hx
   exact pureCase _ _ rfl (by simp [execOp, ho, hvx]) hh
  ·rename_i g as bs hav
   rw [hav] at hx
   simp at h; subst h
   have hh := hx
   cases hx
   exact pureCase _ _ rfl (by simp [execOp, ho, hvx]) hh
  ·simp at h
 case h_22 c ho =>
  have hm : memOp o.op = true := by simp [ho, memOp]
  have hargs : ∀ x ∈ c.args.toList, x ∈ o.op.operands.toList := by
   intro x hx
   simp only [ho, Op.operands, Call.operands, Array.toList_append, List.mem_append]
   exact .inr hx
  have hrv := rvL_map (w := w) (U := U) (ρ := ρ) (ev := ev) (g := a.eval) c.args.toList (fun x hx => hev x (hargs x hx))
  unfold evCall at h
  split at h
  ·rename_i fo hcal
   have hfo : fo ∈ o.op.operands.toList := by simp [ho, Op.operands, Call.operands, hcal]
   have hf := hev fo hfo
   generalize hvf : a.eval fo = vf at hf
   split at h
   ·rename_i k first caps hcl0
    split at h
    ·rename_i F hF
     have hFok := hE.fs k F hF
     rw [hcl0] at hf
     cases hf with
     | clo _ _ _ vfi vca h1 h2 h3 h4 =>
     have hall : RvL w U ρ (first ++ c.args.toList.map ev ++ caps) (vfi ++ c.args.toList.map a.eval ++ vca) := (RvL.append ⟨h1, h3⟩ hrv).append ⟨h2, h4⟩
     obtain ⟨hcalls, hwr⟩ := hFok.calls w U ρ hp n _ _ f fp h hall hub hgl hfp (fun id hid => by
      obtain ⟨cc, hcc, hid⟩ := idsL_of hid
      simp only [List.mem_append, List.mem_map] at hcc
      rcases hcc with (hcc | ⟨x, hx, rfl⟩) | hcc
      ·exact hin hm fo hfo id (by rw [hcl0]; simp only [AV.ids, List.mem_append]; exact .inl (idsL_mem hcc hid))
      ·exact hin hm x (hargs x hx) id hid
      ·exact hin hm fo hfo id (by rw [hcl0]; simp only [AV.ids, List.mem_append]; exact .inr (idsL_mem hcc hid))) (hcl (by simp [ho, deepOp])) hn
     refine ⟨fun K Q hK => ?_, hwr⟩
     obtain ⟨fn, hfn, hname, hbody⟩ := hFok.fn
     have hrun : (execOp a.eval o).run E.P w = .ok (.enter k (vfi ++ c.args.toList.map a.eval ++ vca).toArray) w := by
      simp only [execOp, ho, resolve, hcal, hvf, Deferred.ofValue, Sem.run_bind, Sem.run_pure, Result.andThen_ok, invoke, callFunc, run_program, hfn, hname, hbody, Bool.false_eq_true, if_false]
      congr 2
      apply Array.ext'
      simp
     rw [Oper.wp, hrun]
     refine hcalls.mono fun e w' ⟨v, U', ρ', he, hef⟩ => ?_
     subst he
     exact hK v w' U' ρ' hef
    ·simp at h
   ·simp at h
  ·rename_i hcal
   split at h
   ·rename_i x t hax hat
    have hc : c.args.toList.length = 1 := by have := congrArg List.length hax; simpa using this
    obtain ⟨xo, hxo⟩ : ∃ xo, c.args.toList = [xo] := List.length_eq_one_iff.1 hc
    rw [hxo] at hax
    simp at hax
    subst hax
    obtain ⟨r, v, rfl, hrun, hr⟩ := evLen_ok (P := E.P) (w := w) (U := U) (ρ := ρ) (ty := o.type) h (hev xo (hargs xo (by simp [hxo]))) (fun id hid => hfp.ob id (hin hm xo (hargs xo (by simp [hxo])) id hid))
    refine pureCase r v rfl ?_ hr
    have e1 : c.args = #[xo] := by apply Array.ext'; simpa using hxo
    have e2 : c.argTypes = #[t] := by apply Array.ext'; simpa using hat
    simp [execOp, ho, resolve, hcal, invoke, builtin, e1, e2, hrun]
   ·simp at h
  ·rename_i hcal
   split at h
   ·rename_i b x t t' hax hat
    split at h
    ·rename_i elem el' hu hu'
     have hc : c.args.toList.length = 2 := by have := congrArg List.length hax; simpa using this
     obtain ⟨bo, xo, hbx⟩ : ∃ bo xo, c.args.toList = [bo, xo] := by
      match hl : c.args.toList, hc with
      | [p, q], _ => exact ⟨p, q, rfl⟩
     rw [hbx] at hax
     simp at hax
     obtain ⟨rfl, rfl⟩ := hax
     have hnn : ρ n = none := by
      have h1 : f.nw.length = 1 := by
       clear hn
       unfold evAppend at h
       repeat' split at h
       all_goals first
        | (simp at h; done)
        | (simp at h; obtain ⟨_, rfl⟩ := h; rfl)
      simpa using hn 0 (by omega)
     obtain ⟨v, w', U', ρ', hrun, hef, hwr⟩ := evAppend_ok hE.toEnvOk (w := w) (U := U) (ρ := ρ) (t := t) (t' := t') (ty := o.type) h hu hu' (hev bo (hargs bo (by simp [hbx]))) (hev xo (hargs xo (by simp [hbx]))) hub hfp
      (fun id hid => hin hm bo (hargs bo (by simp [hbx])) id hid) (fun id hid => hin hm xo (hargs xo (by simp [hbx])) id hid) hnn
     refine ⟨fun K Q hK => wp_value ?_ (hK _ _ _ _ hef), hwr⟩
     have e1 : c.args = #[bo, xo] := by apply Array.ext'; simpa using hbx
     have e2 : c.argTypes = #[t, t'] := by apply Array.ext'; simpa using hat
     simp [execOp, ho, resolve, hcal, invoke, builtin, e1, e2, hrun]
    ·simp at h
   ·simp at h
  ·rename_i hcal
   split at h
   ·rename_i x t hax hat
    have hc : c.args.toList.length = 1 := by have := congrArg List.length hax; simpa using this
    obtain ⟨xo, hbx⟩ : ∃ xo, c.args.toList = [xo] := by
     match hl : c.args.toList, hc with
     | [p], _ => exact ⟨p, rfl⟩
    rw [hbx] at hax
    simp at hax
    subst hax
    obtain ⟨v, w', hrun, hef, hwr⟩ := evClear_ok (n := n) (w := w) (U := U) (ρ := ρ) (ty := o.type) h (hev xo (hargs xo (by simp [hbx]))) hub hfp (fun id hid => hin hm xo (hargs xo (by simp [hbx])) id hid)
    refine ⟨fun K Q hK => wp_value ?_ (hK _ _ _ _ hef), hwr⟩
    have e1 : c.args = #[xo] := by apply Array.ext'; simpa using hbx
    have e2 : c.argTypes = #[t] := by apply Array.ext'; simpa using hat
    simp [execOp, ho, resolve, hcal, invoke, builtin, e1, e2, hrun]
   ·simp at h
  ·simp at h
 case h_23 t ho =>
  split at h
  ·rename_i o0 ho0
   simp at h; subst h
   have hoo : o0 = .fmap [] ∨ ∃ u, o0 = .vmap u [] := by
    unfold mapNew at ho0
    repeat' split at ho0
    all_goals first
     | (cases ho0; exact .inl rfl)
     | (cases ho0; exact .inr ⟨_, rfl⟩)
     | (cases ho0; done)
   refine ⟨fun K Q hK => wp_value (v := .map (some w.heap.size)) (w' := w.alloc (.map #[] 0)) ?_ (hK _ _ _ _ (Ef.mkMap hoo hub (by simpa using hn 0 (by simp)))), by simp⟩
   simp [execOp, ho, Instr.makeMap, newObj]
   rfl
  ·simp at h
 case h_24 t m k x ho =>
  obtain ⟨w', hrun, hef, hwr⟩ := evInsert_ok (n := n) h (hev m (by simp [ho, Op.operands])) (hev k (by simp [ho, Op.operands])) (hev x (by simp [ho, Op.operands])) hub hfp (fun id hid => hin (by simp [ho, memOp]) m (by simp [ho, Op.operands]) id hid)
  exact ⟨fun K Q hK => wp_skip' (by simp [execOp, ho, hrun]) (hK _ _ _ _ hef), hwr⟩
 case h_25 t m k x ho =>
  obtain ⟨w', hrun, hef, hwr⟩ := evInsert_ok (n := n) h (hev m (by simp [ho, Op.operands])) (hev k (by simp [ho, Op.operands])) (hev x (by simp [ho, Op.operands])) hub hfp (fun id hid => hin (by simp [ho, memOp]) m (by simp [ho, Op.operands]) id hid)
  exact ⟨fun K Q hK => wp_skip' (by simp [execOp, ho, hrun]) (hK _ _ _ _ hef), hwr⟩
 case h_26 t x i two ho =>
  obtain ⟨r, v, rfl, hrun, hr⟩ := evLookup_ok h (hev x (by simp [ho, Op.operands])) (hev i (by simp [ho, Op.operands])) (fun id hid => hfp.ob id (hin (by simp [ho, memOp]) x (by simp [ho, Op.operands]) id hid))
  exact pureCase r v rfl (by simp [execOp, ho, hrun]) hr
 case h_27 t m k ho =>
  obtain ⟨v, w', hrun, hef, hwr⟩ := evEntry_ok (n := n) h (hev m (by simp [ho, Op.operands])) (hev k (by simp [ho, Op.operands])) hub hfp (fun id hid => hin (by simp [ho, memOp]) m (by simp [ho, Op.operands]) id hid)
  exact ⟨fun K Q hK => wp_value (by simp [execOp, ho, hrun]) (hK _ _ _ _ hef), hwr⟩
 case h_28 t m s x ho =>
  obtain ⟨w', hrun, hef, hwr⟩ := evEntryStore_ok (P := E.P) (t := t) (n := n) h (hev m (by simp [ho, Op.operands])) (hev s (by simp [ho, Op.operands])) (hev x (by simp [ho, Op.operands])) hub hfp (fun id hid => hin (by simp [ho, memOp]) m (by simp [ho, Op.operands]) id hid)
  exact ⟨fun K Q hK => wp_skip' (by simp [execOp, ho, hrun]) (hK _ _ _ _ hef), hwr⟩
 case h_29 => simp at h

end
open Go

structure Ctx where
 w0 : World
 U0 : Nat → Prop
 B0 : Nat → Prop
 ρ0 : Nat → Option Value

structure Wd (gl : Nat → AV) (C : Ctx) (w : World) (U : Nat → Prop) : Prop where
 ext : Ext C.w0 w
 same : ∀ b, b < C.w0.heap.size → ¬ C.B0 b → w.heap[b]? = C.w0.heap[b]?
 ub : ∀ b, U b → b < w.heap.size
 u1 : ∀ b, b < C.w0.heap.size → U b → C.U0 b
 u2 : ∀ b, b < C.w0.heap.size → C.U0 b → ¬ C.B0 b → U b
 gl : GlOk gl w U

structure HpOk (C : Ctx) (w : World) (U : Nat → Prop) (ρ : Nat → Option Value) (hp : Nat → AO) : Prop where
 ob : ∀ id, objOk w U ρ id (hp id)
 inj : ∀ id1 id2 b, ownsB ρ id1 (hp id1) b → ownsB ρ id2 (hp id2) b → id1 = id2
 blk : ∀ id b, ownsB ρ id (hp id) b → C.B0 b ∨ C.w0.heap.size ≤ b

section
variable {gl : Nat → AV} {C : Ctx} {w : World} {U : Nat → Prop} {ρ : Nat → Option Value}

theorem apply_ef {n : Nat} {hpl hp hp' : Nat → AO} {f : Eff} {v : Value} {w' : World} {U' : Nat → Prop} {ρ' : Nat → Option Value} (hW : Wd gl C w U) (hH : HpOk C w U ρ hp) (hef : Ef n hpl f w U ρ v w' U' ρ')
  (hloc : ∀ id o, (id, o) ∈ f.wr → hpl id = hp id)
  (h1 : ∀ id, (∃ o, (id, o) ∈ f.wr) → ∃ o, (id, o) ∈ f.wr ∧ hp' id = o) (h2 : ∀ (j : Nat) o, f.nw[j]? = some o → hp' (n + j) = o)
  (h3 : ∀ id, (¬ ∃ o, (id, o) ∈ f.wr) → (id < n ∨ n + f.nw.length ≤ id) → hp' id = hp id) :
  Wd gl C w' U' ∧ HpOk C w' U' ρ' hp' ∧ ∀ {c : AV} {x : Value}, Rv w U ρ c x → Rv w' U' ρ' c x := by
 have hownU : ∀ id o b, (id, o) ∈ f.wr → ownsB ρ id (hpl id) b → U b ∧ b < w.heap.size := by
  intro id o b hid ho
  rw [hloc id o hid] at ho
  exact (hH.ob id).inU ho
 have hk : ∀ b, b < w.heap.size → ¬ U b → w'.heap[b]? = w.heap[b]? := fun b hb hU => hef.same b hb (fun id o hid ho => hU (hownU id o b hid ho).1)
 have mono : ∀ {c : AV} {x : Value}, Rv w U ρ c x → Rv w' U' ρ' c x := fun h => h.mono hef.ext.sz hk hef.u1 hef.rhon
 have kind : ∀ id, (∃ o, (id, o) ∈ f.wr ∧ hp' id = o) ∨ (n ≤ id ∧ ∃ o, f.nw[id - n]? = some o ∧ hp' id = o) ∨ ((¬ ∃ o, (id, o) ∈ f.wr) ∧ (id < n ∨ n + f.nw.length ≤ id) ∧ hp' id = hp id) := by
  intro id
  by_cases hw : ∃ o, (id, o) ∈ f.wr
  ·exact .inl (h1 id hw)
  ·by_cases hn : n ≤ id ∧ id < n + f.nw.length
   ·refine .inr (.inl ⟨hn.1, f.nw[id - n]'(by omega), List.getElem?_eq_getElem (by omega), ?_⟩)
    have := h2 (id - n) _ (List.getElem?_eq_getElem (by omega))
    rwa [show n + (id - n) = id by omega] at this
   ·exact .inr (.inr ⟨hw, by omega, h3 id hw (by omega)⟩)
 have other : ∀ id, (¬ ∃ o, (id, o) ∈ f.wr) → ∀ b, ownsB ρ id (hp id) b → b < w.heap.size ∧ ∀ id' o', (id', o') ∈ f.wr → ¬ ownsB ρ id' (hpl id') b := by
  intro id hw b ho
  refine ⟨((hH.ob id).inU ho).2, fun id' o' hid' ho' => ?_⟩
  rw [hloc id' o' hid'] at ho'
  have := hH.inj id id' b ho ho'
  subst this
  exact hw ⟨o', hid'⟩
 have ownsBack : ∀ id, (id < n ∨ n + f.nw.length ≤ id) → ∀ o b, ownsB ρ' id o b → ownsB ρ id o b := by
  rintro id hid o b ⟨h, v, hv, hb⟩
  rw [hef.rho id hid] at hv
  exact ⟨h, v, hv, hb⟩
 have ownKnown : ∀ id b, ((∃ o, (id, o) ∈ f.wr ∧ hp' id = o) ∨ (n ≤ id ∧ ∃ o, f.nw[id - n]? = some o ∧ hp' id = o)) → ownsB ρ' id (hp' id) b →
   w.heap.size ≤ b ∨ ∃ id' o', (id', o') ∈ f.wr ∧ ownsB ρ id' (hp id') b := by
  intro id b hid ho
  have hin : ((id, hp' id) ∈ f.wr ∨ (n ≤ id ∧ f.nw[id - n]? = some (hp' id))) := by
   rcases hid with ⟨o, h, rfl⟩ | ⟨h, o, h', rfl⟩
   ·exact .inl h
   ·exact .inr ⟨h, h'⟩
  rcases hef.own id _ b hin ho with h | ⟨id', o', hid', ho'⟩
  ·exact .inl h
  ·exact .inr ⟨id', o', hid', by rw [← hloc id' o' hid']; exact ho'⟩
 refine ⟨⟨hW.ext.trans hef.ext, ?_, hef.ub, ?_, ?_, ?_⟩, ⟨?_, ?_, ?_⟩, mono⟩
 ·intro b hb hB
  rw [hef.same b (Nat.lt_of_lt_of_le hb hW.ext.sz) (fun id o hid ho => ?_)]
  ·exact hW.same b hb hB
  ·rw [hloc id o hid] at ho
   rcases hH.blk id b ho with h | h
   ·exact hB h
   ·omega
 ·intro b hb hU
  exact hW.u1 b hb (hef.u1 b (Nat.lt_of_lt_of_le hb hW.ext.sz) hU)
 ·intro b hb hU hB
  refine hef.u2 b (Nat.lt_of_lt_of_le hb hW.ext.sz) (hW.u2 b hb hU hB) (fun id o hid ho => ?_)
  rw [hloc id o hid] at ho
  rcases hH.blk id b ho with h | h
  ·exact hB h
  ·omega
 ·intro g
  exact (hW.gl g).mono hef.ext.sz hk hef.u1 (fun _ _ h => by cases h)
 ·intro id
  rcases kind id with ⟨o, h, e⟩ | ⟨h, o, h', e⟩ | ⟨hw, hid, e⟩
  ·rw [e]; exact hef.wr id o h
  ·rw [e]
   have := hef.nw (id - n) o h'
   rwa [show n + (id - n) = id by omega] at this
  ·rw [e]
   refine (hH.ob id).mono hef.ext.sz hk hef.u1 hef.rhon (fun b ho => ?_)
   obtain ⟨hb, hno⟩ := other id hw b ho
   exact ⟨hef.same b hb hno, hef.u2 b hb ((hH.ob id).inU ho).1 hno⟩
 ·intro id1 id2 b ho1 ho2
  have k1 := kind id1
  have k2 := kind id2
  have cross : ∀ id1 id2, ((∃ o, (id1, o) ∈ f.wr ∧ hp' id1 = o) ∨ (n ≤ id1 ∧ ∃ o, f.nw[id1 - n]? = some o ∧ hp' id1 = o)) →
    ((¬ ∃ o, (id2, o) ∈ f.wr) ∧ (id2 < n ∨ n + f.nw.length ≤ id2) ∧ hp' id2 = hp id2) → ownsB ρ' id1 (hp' id1) b → ownsB ρ' id2 (hp' id2) b → False := by
   intro id1 id2 k1 ⟨hw, hid, e⟩ ho1 ho2
   rw [e] at ho2
   have ho2' := ownsBack id2 hid _ b ho2
   obtain ⟨hb, hno⟩ := other id2 hw b ho2'
   rcases ownKnown id1 b k1 ho1 with h | ⟨id', o', hid', ho'⟩
   ·omega
   ·exact hno id' o' hid' (by rw [hloc id' o' hid']; exact ho')
  rcases k1 with k1 | k1 | k1 <;> rcases k2 with k2 | k2 | k2
  ·obtain ⟨o1, h1', e1⟩ := k1; obtain ⟨o2, h2', e2⟩ := k2
   rw [e1] at ho1; rw [e2] at ho2
   exact hef.inj id1 o1 id2 o2 b (.inl h1') (.inl h2') ho1 ho2
  ·obtain ⟨o1, h1', e1⟩ := k1; obtain ⟨hn2, o2, h2', e2⟩ := k2
   rw [e1] at ho1; rw [e2] at ho2
   exact hef.inj id1 o1 id2 o2 b (.inl h1') (.inr ⟨hn2, h2'⟩) ho1 ho2
  ·exact (cross id1 id2 (.inl k1) k2 ho1 ho2).elim
  ·obtain ⟨hn1, o1, h1', e1⟩ := k1; obtain ⟨o2, h2', e2⟩ := k2
   rw [e1] at ho1; rw [e2] at ho2
   exact hef.inj id1 o1 id2 o2 b (.inr ⟨hn1, h1'⟩) (.inl h2') ho1 ho2
  ·obtain ⟨hn1, o1, h1', e1⟩ := k1; obtain ⟨hn2, o2, h2', e2⟩ := k2
   rw [e1] at ho1; rw [e2] at ho2
   exact hef.inj id1 o1 id2 o2 b (.inr ⟨hn1, h1'⟩) (.inr ⟨hn2, h2'⟩) ho1 ho2
  ·exact (cross id1 id2 (.inr k1) k2 ho1 ho2).elim
  ·exact (cross id2 id1 (.inl k2) k1 ho2 ho1).elim
  ·exact (cross id2 id1 (.inr k2) k1 ho2 ho1).elim
  ·obtain ⟨_, hid1, e1⟩ := k1; obtain ⟨_, hid2, e2⟩ := k2
   rw [e1] at ho1; rw [e2] at ho2
   exact hH.inj id1 id2 b (ownsBack id1 hid1 _ b ho1) (ownsBack id2 hid2 _ b ho2)
 ·intro id b ho
  rcases kind id with k | k | ⟨_, hid, e⟩
  ·rcases ownKnown id b (.inl k) ho with h | ⟨id', o', hid', ho'⟩
   ·exact .inr (Nat.le_trans hW.ext.sz h)
   ·exact hH.blk id' b ho'
  ·rcases ownKnown id b (.inr k) ho with h | ⟨id', o', hid', ho'⟩
   ·exact .inr (Nat.le_trans hW.ext.sz h)
   ·exact hH.blk id' b ho'
  ·rw [e] at ho
   exact hH.blk id b (ownsBack id hid _ b ho)

structure CnR (C : Ctx) (st : RS) (a : Act) (w : World) (U : Nat → Prop) (ρ : Nat → Option Value) : Prop where
 tm : RvL w U ρ st.tmps a.tmps.toList
 hp : HpOk C w U ρ st.hp
 new : ∀ id, st.heap.length ≤ id → ρ id = none
 kn : ∀ d b, st.known.lookup d = some b → a.tmps[d]? = some (.bool b)
 df : a.defers = []
 r0 : ∀ id v, C.ρ0 id = some v → ρ id = some v

theorem evo_ok {E : Env} {tmps : List AV} {known : List (Nat × Bool)} {a : Act} (htm : RvL w U ρ tmps a.tmps.toList) (hkn : ∀ d b, known.lookup d = some b → a.tmps[d]? = some (.bool b)) (hgl : GlOk E.gl w U) (x : Operand) :
  Rv w U ρ (evo E tmps known x) (a.eval x) := by
 cases x with
 | tmp t =>
  simp only [evo, Act.eval]
  cases hk : known.lookup t with
  | some b =>
   have := hkn t b hk
   simp only [Array.getD_eq_getD_getElem?, this, Option.getD_some]
   exact .kb b
  | none =>
   by_cases ht : t < tmps.length
   ·have ht' : t < a.tmps.toList.length := by rw [← htm.len]; exact ht
    have h1 : a.tmps.getD t undef = a.tmps.toList[t] := by
     simp only [Array.length_toList] at ht'
     simp [Array.getD, ht']
    rw [h1]
    exact htm.rv t _ _ (by rw [List.getD_eq_getElem?_getD, List.getElem?_eq_getElem ht]; rfl) (List.getElem?_eq_getElem ht')
   ·rw [List.getD_eq_getElem?_getD, List.getElem?_eq_none (Nat.le_of_not_lt ht)]
    exact .any _
 | const v => exact absV_ok v
 | global g => exact (hgl g).mono (Nat.le_refl _) (fun _ _ _ => rfl) (fun _ _ h => h) (fun _ _ h => by cases h)
 | func f => simp only [evo, Act.eval]; exact .clo (.func f) [] [] [] [] rfl rfl (by simp) (by simp)

theorem wrAll_length : ∀ (wr : List (Nat × AO)) (h : List AO), (wrAll h wr).length = h.length
 | [], _ => rfl
 | (i, o) :: r, h => by simp [wrAll, wrAll_length r]

theorem wrAll_get : ∀ (wr : List (Nat × AO)) (h : List AO) (id : Nat), (¬ ∃ o, (id, o) ∈ wr) → (wrAll h wr).getD id .dead = h.getD id .dead
 | [], _, _, _ => rfl
 | (i, o) :: r, h, id, hn => by
  rw [wrAll, wrAll_get r _ id (fun ⟨o', ho'⟩ => hn ⟨o', by simp [ho']⟩)]
  have : i ≠ id := fun e => hn ⟨o, by simp [e]⟩
  simp [List.getD_eq_getElem?_getD, List.getElem?_set_ne this]

theorem wrAll_set : ∀ (wr : List (Nat × AO)) (h : List AO) (id : Nat), (∀ p ∈ wr, p.1 < h.length) → (∃ o, (id, o) ∈ wr) → ∃ o, (id, o) ∈ wr ∧ (wrAll h wr).getD id .dead = o
 | [], _, _, _, ⟨_, h⟩ => by simp at h
 | (i, o) :: r, h, id, hl, hex => by
  by_cases hr : ∃ o, (id, o) ∈ r
  ·obtain ⟨o', h1, h2⟩ := wrAll_set r (h.set i o) id (fun p hp => by rw [List.length_set]; exact hl p (by simp [hp])) hr
   exact ⟨o', by simp [h1], h2⟩
  ·obtain ⟨o', ho'⟩ := hex
   simp only [List.mem_cons, Prod.mk.injEq] at ho'
   rcases ho' with ⟨rfl, rfl⟩ | ho'
   ·refine ⟨o', by simp, ?_⟩
    rw [wrAll, wrAll_get r _ _ hr]
    have : id < h.length := hl (id, o') (by simp)
    simp [List.getD_eq_getElem?_getD, List.getElem?_set_self this]
   ·exact (hr ⟨o', ho'⟩).elim

theorem putT_rv {tmps : List AV} {a : Act} {d : Option Tmp} {c : AV} {v : Value} (h : RvL w U ρ tmps a.tmps.toList) (hv : Rv w U ρ c v) : RvL w U ρ (putT tmps d c) (a.put d v).tmps.toList := by
 cases d with
 | none => exact h
 | some d =>
  simp only [putT, Act.put]
  refine ⟨by simp [h.len], fun j c' v' hc hv' => ?_⟩
  simp only [Array.toList_setIfInBounds] at hv'
  by_cases hj : d = j
  ·subst hj
   rw [List.getElem?_set] at hc hv'
   simp only [if_true] at hc hv'
   split at hc
   ·rename_i hlt
    rw [if_pos (by rw [← h.len]; exact hlt)] at hv'
    cases hc; cases hv'; exact hv
   ·cases hc
  ·rw [List.getElem?_set_ne hj] at hc hv'
   exact h.rv j c' v' hc hv'

theorem forget_ok {known : List (Nat × Bool)} {a : Act} {d : Option Tmp} {v : Value} (h : ∀ d b, known.lookup d = some b → a.tmps[d]? = some (.bool b)) :
  ∀ d' b, (forget known d).lookup d' = some b → (a.put d v).tmps[d']? = some (.bool b) := by
 intro d' b hl
 cases d with
 | none => exact h d' b hl
 | some d =>
  simp only [forget] at hl
  have key : ∀ (k : List (Nat × Bool)), (k.filter fun p => p.1 != d).lookup d' = some b → d' ≠ d ∧ k.lookup d' = some b := by
   intro k
   induction k with
   | nil => simp
   | cons p k ih =>
    intro hk
    rw [List.filter_cons] at hk
    split at hk
    ·rename_i hp
     rw [List.lookup_cons] at hk ⊢
     split at hk
     ·rename_i he
      cases hk
      simp at hp he
      exact ⟨by rw [he]; exact hp, by simp⟩
     ·rename_i he
      obtain ⟨h1, h2⟩ := ih hk
      exact ⟨h1, h2⟩
    ·rename_i hp
     obtain ⟨h1, h2⟩ := ih hk
     refine ⟨h1, ?_⟩
     rw [List.lookup_cons]
     have : (d' == p.1) = false := by
      simp at hp
      simp [hp, h1]
     rw [this]; exact h2
  obtain ⟨hne, hk⟩ := key known hl
  simp only [Act.put]
  rw [Array.getElem?_setIfInBounds_ne (fun e => hne e.symm)]
  exact h d' b hk

theorem fpOkB_ok {hp : Nat → AO} {ev : Operand → AV} {o : Oper} (h : fpOkB hp ev o = true) :
  (memOp o.op = true → ∀ x ∈ o.op.operands.toList, ∀ id ∈ (ev x).ids, id ∈ fpOp hp ev o) ∧ (deepOp o.op = true → ∀ id ∈ fpOp hp ev o, ∀ j ∈ (hp id).ids, j ∈ fpOp hp ev o) := by
 unfold fpOkB at h
 constructor
 ·intro hm x hx id hid
  simp only [hm, Bool.not_true, Bool.false_or, Bool.and_eq_true, List.all_eq_true, List.contains_iff_mem] at h
  exact h.1 id (idsL_mem (List.mem_map_of_mem hx) hid)
 ·intro hm id hid j hj
  have hm2 : memOp o.op = true := by
   cases ho : o.op <;> rw [ho] at hm <;> simp_all [deepOp, memOp]
  simp only [hm, hm2, Bool.not_true, Bool.false_or, Bool.and_eq_true, List.all_eq_true, List.contains_iff_mem] at h
  exact h.2 id hid j hj

theorem goOp_ok {E : Env} (hE : EnvAll E) {st st' : RS} {o : Oper} {a : Act} (h : (goOp E o st).val = some st') (hc : CnR C st a w U ρ) (hW : Wd E.gl C w U)
  (K : Act → World → Prop) (Q : Exit → Act → World → Prop) (hK : ∀ a' w' U' ρ', CnR C st' a' w' U' ρ' → Wd E.gl C w' U' → K a' w') : o.wp E.P a w K Q := by
 unfold goOp at h
 split at h
 ·rename_i hfp
  simp only [Tr.val_bind, Option.bind_eq_some_iff] at h
  obtain ⟨f, hf, h⟩ := h
  split at h
  ·rename_i hwl
   simp at h; subst h
   obtain ⟨hin, hcl⟩ := fpOkB_ok hfp
   have hn : ∀ j, j < f.nw.length → ρ (st.heap.length + j) = none := fun j _ => hc.new _ (by omega)
   obtain ⟨hwp, hwr⟩ := evalOp_ok hE (w := w) (U := U) (ρ := ρ) (a := a) (fp := fpOp st.hp (evo E st.tmps st.known) o) hf (fun x _ => evo_ok hc.tm hc.kn hW.gl x) hW.ub hW.gl
    ⟨fun id _ => hc.hp.ob id, fun id1 _ id2 _ b => hc.hp.inj id1 id2 b⟩ hin hcl hn
   refine hwp K Q (fun v w' U' ρ' hef => ?_)
   simp only [List.all_eq_true, Bool.and_eq_true, decide_eq_true_eq] at hwl
   replace hwl : ∀ p ∈ f.wr, p.1 < st.heap.length := fun p hp => (hwl p hp).1
   have hset := wrAll_set f.wr st.heap
   obtain ⟨hW', hH', mono⟩ := apply_ef (hp' := fun id => (wrAll st.heap f.wr ++ f.nw).getD id .dead) hW hc.hp hef (fun _ _ _ => rfl)
    (fun id hex => by
     obtain ⟨o', h1, h2⟩ := wrAll_set f.wr st.heap id hwl hex
     refine ⟨o', h1, ?_⟩
     have : id < st.heap.length := hwl _ h1
     rw [List.getD_eq_getElem?_getD, List.getElem?_append_left (by rw [wrAll_length]; exact this), ← List.getD_eq_getElem?_getD]
     exact h2)
    (fun j o' hj => by
     rw [List.getD_eq_getElem?_getD, List.getElem?_append_right (by rw [wrAll_length]; omega), wrAll_length, show st.heap.length + j - st.heap.length = j by omega, hj]
     rfl)
    (fun id hno hid => by
     rcases hid with hid | hid
     ·rw [List.getD_eq_getElem?_getD, List.getElem?_append_left (by rw [wrAll_length]; exact hid), ← List.getD_eq_getElem?_getD]
      exact wrAll_get f.wr st.heap id hno
     ·simp only [RS.hp]
      rw [List.getD_eq_getElem?_getD, List.getD_eq_getElem?_getD, List.getElem?_eq_none (by simp [wrAll_length]; omega), List.getElem?_eq_none (by omega)])
   refine hK _ _ U' ρ' ⟨putT_rv ⟨hc.tm.len, fun j c x hx hv => mono (hc.tm.rv j c x hx hv)⟩ hef.val, hH', ?_, forget_ok hc.kn, ?_, fun id v h => hef.rhon id v (hc.r0 id v h)⟩ hW'
   ·intro id hid
    simp only [List.length_append, wrAll_length] at hid
    rw [hef.rho id (.inr hid)]
    exact hc.new id (by omega)
   ·cases hd : o.dst <;> simp [Act.put, hc.df]
  ·simp at h
 ·simp at h

theorem skipOp_ok {st : RS} {o : Oper} {a : Act} (hc : CnR C st a w U ρ) : CnR C (skipOp o st) (a.put o.dst undef) w U ρ := by
 refine ⟨putT_rv hc.tm (.tup [] [] rfl (by simp)), hc.hp, hc.new, forget_ok hc.kn, ?_, hc.r0⟩
 cases hd : o.dst <;> simp [Act.put, hc.df]

theorem guard_ok {E : Env} {ops : List Oper} {st : RS} {a : Act} (hc : CnR C st a w U ρ) (hgl : GlOk E.gl w U) {j : Nat} {d : Nat} (hd : (ops[j]?).bind (·.dst) = some d) :
  (∀ b, evo E st.tmps st.known (.tmp d) = .kb b → yielded ops.toArray a.tmps j = some b ∧ a.tmps[d]? = some (.bool b)) ∧
  (∀ b, evo E st.tmps st.known (.tmp d) = .bool b → yielded ops.toArray a.tmps j = some b ∧ a.tmps[d]? = some (.bool b)) ∧
  (∀ vs, evo E st.tmps st.known (.tmp d) = .tup vs → yielded ops.toArray a.tmps j = none) := by
 have hev := evo_ok (E := E) hc.tm hc.kn hgl (.tmp d)
 have hd' : (ops.toArray[j]?).bind (·.dst) = some d := by simpa using hd
 have hbool : ∀ b, a.eval (.tmp d) = .bool b → yielded ops.toArray a.tmps j = some b ∧ a.tmps[d]? = some (.bool b) := by
  intro b hb
  simp only [Act.eval, Array.getD_eq_getD_getElem?] at hb
  have : a.tmps[d]? = some (.bool b) := by
   cases ht : a.tmps[d]? with
   | none => rw [ht] at hb; simp [undef] at hb
   | some v => rw [ht] at hb; simp at hb; rw [hb]
  exact ⟨by unfold yielded; rw [hd']; simp [this], this⟩
 refine ⟨fun b hb => ?_, fun b hb => ?_, fun vs hvs => ?_⟩
 ·rw [hb] at hev
  generalize hx : a.eval (.tmp d) = x at hev
  cases hev
  exact hbool b hx
 ·rw [hb] at hev
  generalize hx : a.eval (.tmp d) = x at hev
  cases hev
  exact hbool b hx
 ·rw [hvs] at hev
  generalize hx : a.eval (.tmp d) = x at hev
  cases hev with
  | tup _ xs _ _ =>
  simp only [Act.eval, Array.getD_eq_getD_getElem?] at hx
  cases ht : a.tmps[d]? with
  | none => unfold yielded; rw [hd']; simp [ht]
  | some v => rw [ht] at hx; simp at hx; subst hx; unfold yielded; rw [hd']; simp [ht]

theorem known_cons {st : RS} {a : Act} {d : Nat} {b : Bool} (hc : CnR C st a w U ρ) (hb : a.tmps[d]? = some (.bool b)) : CnR C { st with known := (d, b) :: st.known } a w U ρ := by
 refine ⟨hc.tm, hc.hp, hc.new, fun d' b' h => ?_, hc.df, hc.r0⟩
 rw [List.lookup_cons] at h
 split at h
 ·rename_i he
  cases h
  simp at he; rw [he]; exact hb
 ·exact hc.kn d' b' h

theorem stepOp_ok {E : Env} (hE : EnvAll E) {ops : List Oper} {st st' : RS} {o : Oper} {a : Act} (h : (stepOp E ops st o).val = some st') (hc : CnR C st a w U ρ) (hW : Wd E.gl C w U)
  (K : Act → World → Prop) (Q : Exit → Act → World → Prop) (hK : ∀ a' w' U' ρ', CnR C st' a' w' U' ρ' → Wd E.gl C w' U' → K a' w') :
  if Region.wanted o (yielded ops.toArray a.tmps) then o.wp E.P a w K Q ∨ (o.asks E.P a w ∧ LetsOut Q) else K (a.put o.dst undef) w := by
 unfold stepOp at h
 split at h
 ·rename_i hg
  simp only [Region.wanted, hg, if_true]
  exact .inl (goOp_ok hE h hc hW K Q hK)
 ·rename_i j want hg
  split at h
  ·rename_i hd
   simp at h; subst h
   have hy : yielded ops.toArray a.tmps j = none := by
    have hd' : (ops.toArray[j]?).bind (·.dst) = none := by simpa using hd
    unfold yielded; rw [hd']; rfl
   simp only [Region.wanted, hg, hy]
   rw [if_neg (by simp)]
   exact hK _ _ U ρ (skipOp_ok hc) hW
  ·rename_i d hd
   obtain ⟨hkb, hbb, htt⟩ := guard_ok (E := E) hc hW.gl hd
   split at h
   ·rename_i b hb
    obtain ⟨hy, _⟩ := hkb b hb
    simp only [Region.wanted, hg, hy]
    split at h
    ·rename_i hbw
     simp at hbw; subst hbw
     rw [if_pos (by simp)]
     exact .inl (goOp_ok hE h hc hW K Q hK)
    ·rename_i hbw
     simp at h; subst h
     rw [if_neg (by simpa using hbw)]
     exact hK _ _ U ρ (skipOp_ok hc) hW
   ·rename_i vs hvs
    simp at h; subst h
    simp only [Region.wanted, hg, htt vs hvs]
    rw [if_neg (by simp)]
    exact hK _ _ U ρ (skipOp_ok hc) hW
   ·rename_i b hb
    obtain ⟨hy, hslot⟩ := hbb b hb
    simp only [Region.wanted, hg, hy]
    cases b
    ·simp only [Tr.val, Bool.false_eq_true, if_false] at h
     cases want
     ·simp only [Bool.false_eq_true, if_false] at h
      rw [if_pos (by simp)]
      exact .inl (goOp_ok hE h (known_cons hc hslot) hW K Q hK)
     ·simp at h; subst h
      rw [if_neg (by simp)]
      exact hK _ _ U ρ (skipOp_ok (known_cons hc hslot)) hW
    ·simp only [Tr.val, if_true] at h
     cases want
     ·simp at h; subst h
      rw [if_neg (by simp)]
      exact hK _ _ U ρ (skipOp_ok (known_cons hc hslot)) hW
     ·simp only [if_true] at h
      rw [if_pos (by simp)]
      exact .inl (goOp_ok hE h (known_cons hc hslot) hW K Q hK)
   ·simp at h

theorem evalOps_ok {E : Env} (hE : EnvAll E) {ops : List Oper} {Q : Exit → Act → World → Prop} {st' : RS} (hQ : ∀ a' w' U' ρ', CnR C st' a' w' U' ρ' → Wd E.gl C w' U' → Q .normal a' w') :
  ∀ (r : List Oper) (k : Nat) (st : RS) (a : Act) (w : World) (U : Nat → Prop) (ρ : Nat → Option Value), r = ops.drop k → (evalOps E ops r st).val = some st' → CnR C st a w U ρ → Wd E.gl C w U →
   wpOps E.P ops.toArray Q (List.range' k r.length) a w
 | [], k, st, a, w, U, ρ, _, h, hc, hW => by
  simp [evalOps] at h; subst h
  exact hQ a w U ρ hc hW
 | o :: r, k, st, a, w, U, ρ, hr, h, hc, hW => by
  simp only [evalOps, Tr.val_bind, Option.bind_eq_some_iff] at h
  obtain ⟨st1, h1, h2⟩ := h
  have hget : ops.toArray[k]? = some o := by
   have : ops[k]? = some o := by
    have := congrArg (·[0]?) hr
    simpa [List.getElem?_drop] using this.symm
   simpa using this
  have hdrop : r = ops.drop (k + 1) := by
   have := congrArg List.tail hr
   simpa using this
  simp only [List.length_cons, List.range'_succ, wpOps, hget]
  exact stepOp_ok hE h1 hc hW _ _ (fun a' w' U' ρ' hc' hW' => evalOps_ok hE hQ r (k + 1) st1 a' w' U' ρ' hdrop h2 hc' hW')

end
end Cad
