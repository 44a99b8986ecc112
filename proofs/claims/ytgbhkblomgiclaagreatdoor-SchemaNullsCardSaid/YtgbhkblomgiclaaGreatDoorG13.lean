/- slices.Clone: what it answers is memory of its own. schema.copied is its argument, of what is not too deep. Statements: words of columns, tokens. Statements: parts. Statements: the ways of many; expressions' texts. Statements: the ways of many, again; tokens. Statements: the ways of many, once more. Statements: many; checks' texts. -/
import Derived.Test.YtgbhkblomgiclaaGreatDoorG12
import Derived.Test.YtgbhkblomgiclaaGreatDoorG05
namespace Cad
open Go Go.Proofs

theorem Reach.promNil {E : Env} {C : Ctx} {fn : FuncId} {todo : List Item} {st : St} (e : Sh) (hC : ∀ id, C.ρ0 id = none) (h : Reach E C fn todo st (fun r h => (r, h) = (.nils, []))) : Reach E C fn todo st (fun r h => (r, h) = (.vec 0, [.vec e []])) := by
  intro b cs a w U ρ h1 h2 hc hW
  obtain ⟨en, w', fr, ⟨v, r, h', U', ρ', he, hq, hrv, hH, hnew, hr0, hWd⟩, hcm, hf, hl⟩ := h b cs a w U ρ h1 h2 hc hW
  cases hq
  cases hrv with
  | nils ad =>
  have hno : ∀ id o b, o = (AO.vec e [] : AO) ∨ o = AO.dead → ¬ ownsB (fun id => if id = 0 then some (.slice ad 0 0) else none) id o b := by
    rintro id o b ho ⟨h3, x, h4, h5⟩
    rcases ho with rfl | rfl
    · simp only at h4
      split at h4
      · cases h4
        cases ad <;> simp [blkOf] at h5
      · cases h4
    · simp [AO.owns] at h3
  have hob : ∀ id, (([AO.vec e []] : List AO).getD id .dead) = (if id = 0 then AO.vec e [] else AO.dead) := by
    intro id
    cases id <;> simp
  refine ⟨en, w', fr, ⟨_, _, _, U', fun id => if id = 0 then some (.slice ad 0 0) else none, he, rfl, .vec 0 _ (by simp) (by simp [Value.oneCell']), ⟨fun id => ?_, fun id1 id2 b o => ?_, fun id b o => ?_⟩, fun id hid => ?_, fun id v hv => ?_, hWd⟩, hcm, hf, hl⟩
  · show objOk w' U' _ id (([AO.vec e []] : List AO).getD id .dead)
    rw [hob]
    split
    · rename_i h0
      subst h0
      exact ⟨ad, 0, by simp, by simp, .inl ⟨rfl, rfl⟩⟩
    · trivial
  · exfalso
    have o' : ownsB (fun id => if id = 0 then some (.slice ad 0 0) else none) id1 (([AO.vec e []] : List AO).getD id1 .dead) b := o
    rw [hob] at o'
    split at o'
    · exact hno _ _ _ (.inl rfl) o'
    · exact hno _ _ _ (.inr rfl) o'
  · exfalso
    have o' : ownsB (fun id => if id = 0 then some (.slice ad 0 0) else none) id (([AO.vec e []] : List AO).getD id .dead) b := o
    rw [hob] at o'
    split at o'
    · exact hno _ _ _ (.inl rfl) o'
    · exact hno _ _ _ (.inr rfl) o'
  · simp at hid
    simp; omega
  · rw [hC id] at hv; cases hv

def forkOf : Tr Leaf → List Item × List Item × St
  | .ok (.fork _ k1 k2 st) => (k1, k2, st)
  | _ => ([], [], ⟨[], []⟩)

abbrev kpC : Nat → Keep := fun _ => { }

noncomputable abbrev cl53 (l : List ExprT) : Tr Leaf := run env33 0 kpC (Func.results Tryz.f53).toList 300 (bodyOf Tryz.f53) (initSt (Func.ntmps Tryz.f53) [.sl .expr l] [])
theorem ok53 : fnChk env33.P 53 Tryz.f53 1 := by refine ⟨?_, ?_, ?_, ?_⟩ <;> kernel_rfl
theorem go53 (l : List ExprT) : cl53 l = .ok (.fork l.isEmpty (forkOf (cl53 l)).1 (forkOf (cl53 l)).2.1 (forkOf (cl53 l)).2.2) := by kernel_rfl
theorem on53a (l : List ExprT) : run env33 0 kpC (Func.results Tryz.f53).toList 300 (forkOf (cl53 l)).1 (forkOf (cl53 l)).2.2 = .ok (.ret .nils []) := by kernel_rfl
theorem on53b (l : List ExprT) : run env33 0 kpC (Func.results Tryz.f53).toList 300 (forkOf (cl53 l)).2.1 (forkOf (cl53 l)).2.2 = .chk (decide (l.length ≤ 1073741824)) (.ok (.ret (.vec 0) [.vec .expr l])) := by kernel_rfl
def G53 : GSem [some (.sl .expr)] := fun x h => match h with
  | [] => .chk (decide (List.length x.1 ≤ 1073741824)) (.ok (.vec 0, [.vec .expr x.1]))
  | _ => .err
def F53 : FSem := liftF [some (.sl .expr)] G53
theorem FOk53 : FOk env33.P env33.gl 53 F53 := by
  refine FOk_of ok53 fun x h0 res hx C hC => ?_
  unfold G53 at hx
  split at hx
  · simp only [Tr.val] at hx
    split at hx
    · rename_i hl
      simp only [Option.some.injEq] at hx
      subst hx
      obtain ⟨l, u⟩ := x
      refine reach_ok (n0 := 0) env33_all env33_mix ok53 hC (go53 l) ?_
      refine ⟨fun he => ?_, ?_⟩
      · have hn : l = [] := List.isEmpty_iff.1 he
        refine Reach.weaken (Q := fun r h => (r, h) = (.vec 0, [.vec .expr []])) (Reach.promNil .expr (fun id => hC id (by simp)) (reach_ok (n0 := 0) env33_all env33_mix ok53 hC (on53a l) rfl)) ?_
        intro r h hq
        cases hq
        refine ⟨_, ?_, fun _ _ _ _ h => h⟩
        show (AV.vec 0, [AO.vec Sh.expr []]) = (AV.vec 0, [AO.vec Sh.expr l])
        rw [hn]
      · exact reach_ok (n0 := 0) env33_all env33_mix ok53 hC (on53b l) (OptOk_chk hl rfl)
    · cases hx
  · simp at hx

noncomputable abbrev cl32 (l : List (Sem shCol)) : Tr Leaf := run env33 0 kpC (Func.results Tryz.f32).toList 300 (bodyOf Tryz.f32) (initSt (Func.ntmps Tryz.f32) [.sl shCol l] [])
theorem ok32 : fnChk env33.P 32 Tryz.f32 1 := by refine ⟨?_, ?_, ?_, ?_⟩ <;> kernel_rfl
theorem go32 (l : List (Sem shCol)) : cl32 l = .ok (.fork l.isEmpty (forkOf (cl32 l)).1 (forkOf (cl32 l)).2.1 (forkOf (cl32 l)).2.2) := by kernel_rfl
theorem on32a (l : List (Sem shCol)) : run env33 0 kpC (Func.results Tryz.f32).toList 300 (forkOf (cl32 l)).1 (forkOf (cl32 l)).2.2 = .ok (.ret .nils []) := by kernel_rfl
theorem on32b (l : List (Sem shCol)) : run env33 0 kpC (Func.results Tryz.f32).toList 300 (forkOf (cl32 l)).2.1 (forkOf (cl32 l)).2.2 = .chk (decide (l.length ≤ 1073741824)) (.ok (.ret (.vec 0) [.vec shCol l])) := by kernel_rfl
def G32 : GSem [some (.sl shCol)] := fun x h => match h with
  | [] => .chk (decide (List.length x.1 ≤ 1073741824)) (.ok (.vec 0, [.vec shCol x.1]))
  | _ => .err
def F32 : FSem := liftF [some (.sl shCol)] G32
theorem FOk32 : FOk env33.P env33.gl 32 F32 := by
  refine FOk_of ok32 fun x h0 res hx C hC => ?_
  unfold G32 at hx
  split at hx
  · simp only [Tr.val] at hx
    split at hx
    · rename_i hl
      simp only [Option.some.injEq] at hx
      subst hx
      obtain ⟨l, u⟩ := x
      refine reach_ok (n0 := 0) env33_all env33_mix ok32 hC (go32 l) ?_
      refine ⟨fun he => ?_, ?_⟩
      · have hn : l = [] := List.isEmpty_iff.1 he
        refine Reach.weaken (Q := fun r h => (r, h) = (.vec 0, [.vec shCol []])) (Reach.promNil shCol (fun id => hC id (by simp)) (reach_ok (n0 := 0) env33_all env33_mix ok32 hC (on32a l) rfl)) ?_
        intro r h hq
        cases hq
        refine ⟨_, ?_, fun _ _ _ _ h => h⟩
        show (AV.vec 0, [AO.vec shCol []]) = (AV.vec 0, [AO.vec shCol l])
        rw [hn]
      · exact reach_ok (n0 := 0) env33_all env33_mix ok32 hC (on32b l) (OptOk_chk hl rfl)
    · cases hx
  · simp at hx
end Cad

namespace Cad
open Go Go.Proofs

noncomputable def envC : Env := (env33.add 53 F53).add 32 F32
theorem envC_all : EnvAll envC := (EnvAll.addS (EnvAll.addS env33_all (SameE.refl env33) FOk53) ((SameE.refl env33).add _ _) FOk32)
theorem envC_mix : envC.P.follows .mixedOrders = true := (mix_add (mix_add env33_mix _ _) _ _)
def F33c (c : ExprT → Bool) : FSem := plainC [.expr] [.expr] (fun x => c x.1) fun x => (x.1, ())
noncomputable def en33 (c : ExprT → Bool) : Env := envC.add 33 (F33c c)
theorem en33_all {c : ExprT → Bool} (hg : FOk envC.P envC.gl 33 (F33c c)) : EnvAll (en33 c) := envC_all.add hg
theorem en33_mix {c : ExprT → Bool} : (en33 c).P.follows .mixedOrders = true := mix_add envC_mix _ _
abbrev kp33 : Nat → Keep := fun j => if j = 3 then { slots := [1, 2, 10, 11] } else { }
abbrev s33_3 (i10 : Int) (i11 : Int) (sh_0_0 : Str) (ih_0_1 : Int) (ih_0_2 : Int) (sh_0_3 : Str) (sh_0_4 : Str) (lh_2 : List (Sem Sh.expr)) : St := {
  tmps :=
    [AV.any, AV.ptr 0 0, AV.ptr 1 0, AV.any, AV.any, AV.any, AV.any, AV.any, AV.any, AV.any, AV.int IntKind.i64 i10, AV.int IntKind.i64 i11, AV.any, AV.any,
      AV.any, AV.any, AV.any, AV.any, AV.any, AV.any, AV.any, AV.any, AV.any, AV.any, AV.any, AV.any],
  heap :=
    [AO.box [AV.str sh_0_0, AV.int IntKind.i64 ih_0_1, AV.int IntKind.i64 ih_0_2, AV.str sh_0_3, AV.str sh_0_4, AV.vec 2],
      AO.box [AV.str [], AV.int IntKind.i64 0, AV.int IntKind.i64 0, AV.str [], AV.str [], AV.nils], AO.vec Sh.expr lh_2] }
theorem ok33 (c : ExprT → Bool) : fnChk (en33 c).P 33 Tryz.f33 1 := by refine ⟨?_, ?_, ?_, ?_⟩ <;> kernel_rfl
theorem go33 (c : ExprT → Bool) (op : Str) (v : V) (s : Str) (l : List ExprT) : run (en33 c) 0 kp33 (Func.results Tryz.f33).toList 400 (bodyOf Tryz.f33) (initSt (Func.ntmps Tryz.f33) [datum Sh.expr (ExprT.mk op v s l)] []) =
  Tr.chk (decide (l.length ≤ 1073741824)) (Tr.ok (Leaf.head 3 (headK Tryz.f33 3) (s33_3 (↑l.length : Int) 0 op v.fst v.snd.fst v.snd.snd s l))) := by kernel_rfl
theorem on33_3 (c : ExprT → Bool) (i10 : Int) (i11 : Int) (sh_0_0 : Str) (ih_0_1 : Int) (ih_0_2 : Int) (sh_0_3 : Str) (sh_0_4 : Str) (lh_2 : List (Sem Sh.expr)) : run (en33 c) 0 kp33 (Func.results Tryz.f33).toList 400 (headK Tryz.f33 3) (s33_3 i10 i11 sh_0_0 ih_0_1 ih_0_2 sh_0_3 sh_0_4 lh_2) =
  Tr.br (decide (i11 < i10))
  (Tr.chk (inB i11 lh_2.length)
    (Tr.chk (decide (i11.toNat < lh_2.length))
      (Tr.chk (c (ExprT.mk (ExprT.op (lh_2.getD i11.toNat (dflt Sh.expr))) (ExprT.v (lh_2.getD i11.toNat (dflt Sh.expr)))
                      (ExprT.s (lh_2.getD i11.toNat (dflt Sh.expr))) (ExprT.l (lh_2.getD i11.toNat (dflt Sh.expr)))))
        (Tr.chk (inB i11 lh_2.length)
          (Tr.chk (decide (i11.toNat < lh_2.length))
            (Tr.ok
              (Leaf.head 3 (headK Tryz.f33 3)
                (s33_3 i10 (IntKind.i64.wrap (i11 + 1)) sh_0_0 ih_0_1 ih_0_2 sh_0_3 sh_0_4
                  (lh_2.set i11.toNat
                    (ExprT.mk (ExprT.op (lh_2.getD i11.toNat (dflt Sh.expr))) (ExprT.v (lh_2.getD i11.toNat (dflt Sh.expr)))
                      (ExprT.s (lh_2.getD i11.toNat (dflt Sh.expr))) (ExprT.l (lh_2.getD i11.toNat (dflt Sh.expr)))))))))))))
  (Tr.ok
    (Leaf.ret (AV.agg [AV.str sh_0_0, AV.int IntKind.i64 ih_0_1, AV.int IntKind.i64 ih_0_2, AV.str sh_0_3, AV.str sh_0_4, AV.vec 0]) [AO.vec Sh.expr lh_2])) := by kernel_rfl

theorem at33 {c : ExprT → Bool} (hg : FOk envC.P envC.gl 33 (F33c c)) {C : Ctx} (hC : ∀ id, C.ρ0 id = none) (op : Str) (v : V) (s : Str) (l : List ExprT) (hl : l.length ≤ 1073741824) (hcl : l.all c = true) :
    ∀ (k i : Nat), l.length - i = k → i ≤ l.length → Reach (en33 c) C 33 (headK Tryz.f33 3) (s33_3 l.length i op v.1 v.2.1 v.2.2 s l) (fun r h => resOf h [.expr] r = some (ExprT.mk op v s l, ())) := by
  intro k
  induction k with
  | zero =>
    intro i hk hi
    obtain rfl : i = l.length := by omega
    refine reach_ok (n0 := 0) (en33_all hg) en33_mix (ok33 c) (fun id _ => hC id) (on33_3 c _ _ _ _ _ _ _ _) ?_
    simp only [lt_dec', Tr.val_brF]
    rfl
  | succ k IH =>
    intro i hk hi
    have hlt : i < l.length := by omega
    refine reach_ok (n0 := 0) (en33_all hg) en33_mix (ok33 c) (fun id _ => hC id) (on33_3 c _ _ _ _ _ _ _ _) ?_
    have h1 : c l[i] = true := List.all_eq_true.1 hcl _ (List.getElem_mem hlt)
    have h2 : decide ((i : Int).toNat < l.length) = true := by simpa using hlt
    have h3 : l.set (i : Int).toNat l[i] = l := by simp
    simp only [lt_dec hlt, inB_of hlt, getD_at l _ hlt, ExprT.eta, Tr.val_brT, Tr.val_chkT, h1, h2, h3, wrap_add i (by unfold maxStr; omega)]
    exact IH (i + 1) (by omega) (by omega)

def cpC : Nat → ExprT → Bool
  | 0, _ => false
  | n + 1, .mk _ _ _ l => decide (l.length ≤ 1073741824) && l.all (cpC n)

theorem FOk33N : ∀ n, FOk envC.P envC.gl 33 (F33c (cpC n))
  | 0 => FOk_none ⟨Tryz.f33, (ok33 (fun _ => false)).1, (ok33 (fun _ => false)).2.1, (ok33 (fun _ => false)).2.2.1⟩ (fun _ => rfl)
  | n + 1 => by
    refine FOk_plainC (E := en33 (cpC n)) (ok33 _) fun x hc C hC => ?_
    obtain ⟨⟨op, v, s, l⟩, u⟩ := x
    have hc : (decide (l.length ≤ 1073741824) && l.all (cpC n)) = true := hc
    simp only [Bool.and_eq_true, decide_eq_true_eq] at hc
    refine reach_ok (n0 := 0) (en33_all (FOk33N n)) en33_mix (ok33 _) (fun id _ => hC id) (go33 _ op v s l) ?_
    refine OptOk_chk (by simpa using hc.1) ?_
    exact at33 (FOk33N n) hC op v s l hc.1 hc.2 _ 0 rfl (Nat.zero_le _)
def F33 : FSem := F33c (cpC 16)
theorem FOk33 : FOk envC.P envC.gl 33 F33 := FOk33N 16
noncomputable def env34 : Env := envC.add 33 F33
theorem env34_all : EnvAll env34 := (EnvAll.addS envC_all (SameE.refl envC) FOk33)
theorem env34_mix : env34.P.follows .mixedOrders = true := (mix_add envC_mix _ _)
end Cad

namespace Cad
open Go Go.Proofs

--pre
abbrev shRef : Sh := .pr .str .str
abbrev shSet : Sh := .pr .str .expr
abbrev shStmt : Sh := .pr .str (.pr .str (.pr .str (.pr (.sl .str) (.pr (.sl shCol) (.pr .str (.pr (.sl .str) (.pr (.sl shRef) (.pr .expr (.pr (.sl shVal) (.pr (.sl shSet) (.pr .expr .str)))))))))))

def F126 : FSem := plainC [.str, .str, .str] [.str] (fun _ => false) fun _ => ([], ())
theorem FOk126 : FOk env34.P env34.gl 126 F126 := FOk_none ⟨Tryz.f126, by kernel_rfl, by kernel_rfl, by kernel_rfl⟩ (fun _ => rfl)
def F128 : FSem := plainC [.str] [shTok, shInt] (fun _ => false) fun _ => ((0, []), 0, ())
theorem FOk128 : FOk env34.P env34.gl 128 F128 := FOk_none ⟨Tryz.f128, by kernel_rfl, by kernel_rfl, by kernel_rfl⟩ (fun _ => rfl)

abbrev kp113 : Nat → Keep := fun j => { }
theorem ok113 : fnChk (env34).P 113 Tryz.f113 1 := by refine ⟨?_, ?_, ?_, ?_⟩ <;> kernel_rfl
theorem go113 (x0 : Sem Sh.expr) : run (env34) 0 kp113 (Func.results Tryz.f113).toList 400 (bodyOf Tryz.f113) (initSt (Func.ntmps Tryz.f113) [datum Sh.expr x0] []) =
  Tr.ok
  (Leaf.ret
    (AV.bool
      (bif ExprT.op x0 == [] then
        bif (ExprT.v x0).fst == 0 && ((ExprT.v x0).snd.fst == 0 && ((ExprT.v x0).snd.snd == [] && true)) then
        bif ExprT.s x0 == [] then (↑(ExprT.l x0).length : Int) == 0 else false
        else false
      else false))
    []) := by kernel_rfl
def eNone (x0 : Sem Sh.expr) : Sem Sh.bool :=
  (bif ExprT.op x0 == [] then
  bif (ExprT.v x0).fst == 0 && ((ExprT.v x0).snd.fst == 0 && ((ExprT.v x0).snd.snd == [] && true)) then
    bif ExprT.s x0 == [] then (↑(ExprT.l x0).length : Int) == 0 else false
  else false
else false)
def F113 : FSem := plainT [Sh.expr] [Sh.bool] fun x => (eNone x.1, ())
theorem FOk113 : FOk (env34).P (env34).gl 113 F113 := by
  refine FOk_plainT (ok113) fun x C hC => ?_
  refine reach_ok env34_all env34_mix (ok113) (fun id _ => hC id) (go113 x.1) ?_
  generalize hy : eNone x.1 = y
  unfold eNone at hy
  try simp only [ExprT.eta]
  repeat' (first | (with_reducible refine OptOk_br (fun hsp => ?_) (fun hsp => ?_) <;> first | (rw [if_pos hsp] at hy) | (rw [if_neg (ne_t hsp)] at hy)) | with_reducible refine OptOk_chkT ?_)
  all_goals first | (cases hc; done) | (subst hy; first | rfl)

abbrev kp123 : Nat → Keep := fun j => { }
theorem ok123 : fnChk (env34).P 123 Tryz.f123 1 := by refine ⟨?_, ?_, ?_, ?_⟩ <;> kernel_rfl
theorem go123 (x0 : Sem shCol) : run (env34) 0 kp123 (Func.results Tryz.f123).toList 400 (bodyOf Tryz.f123) (initSt (Func.ntmps Tryz.f123) [datum shCol x0] []) =
  Tr.br x0.snd.snd
  (Tr.chk
    (decide (List.length x0.fst + [32].length ≤ 1099511627776) &&
      (inB (IntKind.i64.wrap (x0.snd.fst - 1)) 3 &&
        bif IntKind.i64.wrap (x0.snd.fst - 1) == (↑0 : Int) then
        decide (List.length (x0.fst ++ [32]) + [73, 78, 84].length ≤ 1099511627776) &&
        decide (List.length (x0.fst ++ [32] ++ [73, 78, 84]) + [32, 78, 79, 84, 32, 78, 85, 76, 76].length ≤ 1099511627776)
        else
        bif IntKind.i64.wrap (x0.snd.fst - 1) == (↑(0 + 1) : Int) then
        decide (List.length (x0.fst ++ [32]) + [84, 69, 88, 84].length ≤ 1099511627776) &&
        decide (List.length (x0.fst ++ [32] ++ [84, 69, 88, 84]) + [32, 78, 79, 84, 32, 78, 85, 76, 76].length ≤ 1099511627776)
        else
        decide (List.length (x0.fst ++ [32]) + [66, 79, 79, 76].length ≤ 1099511627776) &&
        decide (List.length (x0.fst ++ [32] ++ [66, 79, 79, 76]) + [32, 78, 79, 84, 32, 78, 85, 76, 76].length ≤ 1099511627776)))
    (Tr.ok
      (Leaf.ret
        (AV.str
        (bif IntKind.i64.wrap (x0.snd.fst - 1) == (↑0 : Int) then x0.fst ++ [32] ++ [73, 78, 84] ++ [32, 78, 79, 84, 32, 78, 85, 76, 76]
        else
        bif IntKind.i64.wrap (x0.snd.fst - 1) == (↑(0 + 1) : Int) then x0.fst ++ [32] ++ [84, 69, 88, 84] ++ [32, 78, 79, 84, 32, 78, 85, 76, 76]
        else x0.fst ++ [32] ++ [66, 79, 79, 76] ++ [32, 78, 79, 84, 32, 78, 85, 76, 76]))
        [])))
  (Tr.chk
    (decide (List.length x0.fst + [32].length ≤ 1099511627776) &&
      (inB (IntKind.i64.wrap (x0.snd.fst - 1)) 3 &&
        bif IntKind.i64.wrap (x0.snd.fst - 1) == (↑0 : Int) then decide (List.length (x0.fst ++ [32]) + [73, 78, 84].length ≤ 1099511627776)
        else
        bif IntKind.i64.wrap (x0.snd.fst - 1) == (↑(0 + 1) : Int) then decide (List.length (x0.fst ++ [32]) + [84, 69, 88, 84].length ≤ 1099511627776)
        else decide (List.length (x0.fst ++ [32]) + [66, 79, 79, 76].length ≤ 1099511627776)))
    (Tr.ok
      (Leaf.ret
        (AV.str
        (bif IntKind.i64.wrap (x0.snd.fst - 1) == (↑0 : Int) then x0.fst ++ [32] ++ [73, 78, 84]
        else bif IntKind.i64.wrap (x0.snd.fst - 1) == (↑(0 + 1) : Int) then x0.fst ++ [32] ++ [84, 69, 88, 84] else x0.fst ++ [32] ++ [66, 79, 79, 76]))
        []))) := by kernel_rfl
def colText (x0 : Sem shCol) : Sem Sh.str :=
  (if x0.snd.snd = true then
  bif IntKind.i64.wrap (x0.snd.fst - 1) == (↑0 : Int) then x0.fst ++ [32] ++ [73, 78, 84] ++ [32, 78, 79, 84, 32, 78, 85, 76, 76]
  else
    bif IntKind.i64.wrap (x0.snd.fst - 1) == (↑(0 + 1) : Int) then x0.fst ++ [32] ++ [84, 69, 88, 84] ++ [32, 78, 79, 84, 32, 78, 85, 76, 76]
    else x0.fst ++ [32] ++ [66, 79, 79, 76] ++ [32, 78, 79, 84, 32, 78, 85, 76, 76]
else
  bif IntKind.i64.wrap (x0.snd.fst - 1) == (↑0 : Int) then x0.fst ++ [32] ++ [73, 78, 84]
  else bif IntKind.i64.wrap (x0.snd.fst - 1) == (↑(0 + 1) : Int) then x0.fst ++ [32] ++ [84, 69, 88, 84] else x0.fst ++ [32] ++ [66, 79, 79, 76])
def colTextC (x0 : Sem shCol) : Bool :=
  (if x0.snd.snd = true then
  if
      (decide (List.length x0.fst + [32].length ≤ 1099511627776) &&
        (inB (IntKind.i64.wrap (x0.snd.fst - 1)) 3 &&
        bif IntKind.i64.wrap (x0.snd.fst - 1) == (↑0 : Int) then
        decide (List.length (x0.fst ++ [32]) + [73, 78, 84].length ≤ 1099511627776) &&
        decide (List.length (x0.fst ++ [32] ++ [73, 78, 84]) + [32, 78, 79, 84, 32, 78, 85, 76, 76].length ≤ 1099511627776)
        else
        bif IntKind.i64.wrap (x0.snd.fst - 1) == (↑(0 + 1) : Int) then
        decide (List.length (x0.fst ++ [32]) + [84, 69, 88, 84].length ≤ 1099511627776) &&
        decide (List.length (x0.fst ++ [32] ++ [84, 69, 88, 84]) + [32, 78, 79, 84, 32, 78, 85, 76, 76].length ≤ 1099511627776)
        else
        decide (List.length (x0.fst ++ [32]) + [66, 79, 79, 76].length ≤ 1099511627776) &&
        decide (List.length (x0.fst ++ [32] ++ [66, 79, 79, 76]) + [32, 78, 79, 84, 32, 78, 85, 76, 76].length ≤ 1099511627776))) =
        true then
    true
  else false
else
  if
      (decide (List.length x0.fst + [32].length ≤ 1099511627776) &&
        (inB (IntKind.i64.wrap (x0.snd.fst - 1)) 3 &&
        bif IntKind.i64.wrap (x0.snd.fst - 1) == (↑0 : Int) then decide (List.length (x0.fst ++ [32]) + [73, 78, 84].length ≤ 1099511627776)
        else
        bif IntKind.i64.wrap (x0.snd.fst - 1) == (↑(0 + 1) : Int) then decide (List.length (x0.fst ++ [32]) + [84, 69, 88, 84].length ≤ 1099511627776)
        else decide (List.length (x0.fst ++ [32]) + [66, 79, 79, 76].length ≤ 1099511627776))) =
        true then
    true
  else false)
def F123 : FSem := plainC [shCol] [Sh.str] (fun x => colTextC x.1) fun x => (colText x.1, ())
theorem FOk123 : FOk (env34).P (env34).gl 123 F123 := by
  refine FOk_plainC (ok123) fun x hc C hC => ?_
  unfold colTextC at hc
  refine reach_ok env34_all env34_mix (ok123) (fun id _ => hC id) (go123 x.1) ?_
  generalize hy : colText x.1 = y
  unfold colText at hy
  try simp only [ExprT.eta]
  repeat' (first | (with_reducible refine OptOk_br (fun hsp => ?_) (fun hsp => ?_) <;> first | (rw [if_pos hsp] at hy; try rw [if_pos hsp] at hc) | (rw [if_neg (ne_t hsp)] at hy; try rw [if_neg (ne_t hsp)] at hc)) | (have hgi := guard_ite hc; with_reducible refine OptOk_chk hgi.1 ?_; replace hc := hgi.2; clear hgi) | with_reducible refine OptOk_chkT ?_)
  all_goals first | (cases hc; done) | (subst hy; first | rfl)

abbrev kp88 : Nat → Keep := fun j => { }
theorem ok88 : fnChk (env34).P 88 Tryz.f88 1 := by refine ⟨?_, ?_, ?_, ?_⟩ <;> kernel_rfl
theorem go88 (x0 : Sem Sh.str) : run (env34) 0 kp88 (Func.results Tryz.f88).toList 400 (bodyOf Tryz.f88) (initSt (Func.ntmps Tryz.f88) [datum Sh.str x0] []) =
  Tr.ok (Leaf.ret (AV.str x0) []) := by kernel_rfl
def sSame (x0 : Sem Sh.str) : Sem Sh.str :=
  (x0)
def F88 : FSem := plainT [Sh.str] [Sh.str] fun x => (sSame x.1, ())
theorem FOk88 : FOk (env34).P (env34).gl 88 F88 := by
  refine FOk_plainT (ok88) fun x C hC => ?_
  refine reach_ok env34_all env34_mix (ok88) (fun id _ => hC id) (go88 x.1) ?_
  generalize hy : sSame x.1 = y
  unfold sSame at hy
  try simp only [ExprT.eta]
  repeat' (first | (with_reducible refine OptOk_br (fun hsp => ?_) (fun hsp => ?_) <;> first | (rw [if_pos hsp] at hy) | (rw [if_neg (ne_t hsp)] at hy)) | with_reducible refine OptOk_chkT ?_)
  all_goals first | (cases hc; done) | (subst hy; first | rfl)

abbrev kp80 : Nat → Keep := fun j => { }
theorem ok80 : fnChk (env34).P 80 Tryz.f80 1 := by refine ⟨?_, ?_, ?_, ?_⟩ <;> kernel_rfl
theorem go80 (x0 : Sem Sh.str) : run (env34) 0 kp80 (Func.results Tryz.f80).toList 400 (bodyOf Tryz.f80) (initSt (Func.ntmps Tryz.f80) [datum Sh.str x0] []) =
  Tr.ok (Leaf.ret (AV.bool (bif wName x0 then !resv x0 else false)) []) := by kernel_rfl
def sName (x0 : Sem Sh.str) : Sem Sh.bool :=
  (bif wName x0 then !resv x0 else false)
def F80 : FSem := plainT [Sh.str] [Sh.bool] fun x => (sName x.1, ())
theorem FOk80 : FOk (env34).P (env34).gl 80 F80 := by
  refine FOk_plainT (ok80) fun x C hC => ?_
  refine reach_ok env34_all env34_mix (ok80) (fun id _ => hC id) (go80 x.1) ?_
  generalize hy : sName x.1 = y
  unfold sName at hy
  try simp only [ExprT.eta]
  repeat' (first | (with_reducible refine OptOk_br (fun hsp => ?_) (fun hsp => ?_) <;> first | (rw [if_pos hsp] at hy) | (rw [if_neg (ne_t hsp)] at hy)) | with_reducible refine OptOk_chkT ?_)
  all_goals first | (cases hc; done) | (subst hy; first | rfl)

abbrev kp49b : Nat → Keep := fun _ => { unroll := true }
theorem ok49b : fnChk (env34).P 49 Tryz.f49 1 := by refine ⟨?_, ?_, ?_, ?_⟩ <;> kernel_rfl
theorem go49b (x0 : Sem shTok) : run (env34) 0 kp49b (Func.results Tryz.f49).toList 400 (bodyOf Tryz.f49) (initSt (Func.ntmps Tryz.f49) [datum shTok x0] []) =
  Tr.br (x0.fst == 3) (Tr.ok (Leaf.ret (AV.bool (vMay (2, 0, x0.snd))) []))
  (Tr.br (x0.fst == 4)
    (Tr.chk (bif (↑(List.length x0.snd) : Int) == 1 then List.length x0.snd == 1 else true)
      (Tr.ok
        (Leaf.ret
        (AV.bool (bif (↑(List.length x0.snd) : Int) == 1 then decide (0 ≤ Lib.indexByte [40, 41, 44, 61, 60, 43, 45, 42] (List.headD x0.snd 0)) else false))
        [])))
    (Tr.br true
      (Tr.chk true
        (Tr.br (1 == x0.fst)
        (Tr.ok
        (Leaf.ret
        (AV.bool
        (bif decide ((↑(List.length x0.snd) : Int) ≥ 1) then
        bif decide ((↑(List.length x0.snd) : Int) ≤ 16) then (↑(runLen letterC partC x0.snd) : Int) == (↑(List.length x0.snd) : Int) else false
        else false))
        []))
        (Tr.br true
        (Tr.chk true
        (Tr.br (2 == x0.fst)
        (Tr.ok
        (Leaf.ret
        (AV.bool
        (bif decide ((↑(List.length x0.snd) : Int) ≥ 1) then
        bif decide ((↑(List.length x0.snd) : Int) ≤ 19) then (↑(runLen digitC digitC x0.snd) : Int) == (↑(List.length x0.snd) : Int) else false
        else false))
        []))
        (Tr.br false Tr.err (Tr.ok (Leaf.ret (AV.kb false) [])))))
        (Tr.ok (Leaf.ret (AV.kb false) [])))))
      (Tr.ok (Leaf.ret (AV.kb false) [])))) := by kernel_rfl
def tokMay (x0 : Sem shTok) : Sem Sh.bool :=
  (if (x0.fst == 3) = true then vMay (2, 0, x0.snd)
else
  if (x0.fst == 4) = true then
    bif (↑(List.length x0.snd) : Int) == 1 then decide (0 ≤ Lib.indexByte [40, 41, 44, 61, 60, 43, 45, 42] (List.headD x0.snd 0)) else false
  else
    if true = true then
      if (1 == x0.fst) = true then
        bif decide ((↑(List.length x0.snd) : Int) ≥ 1) then
        bif decide ((↑(List.length x0.snd) : Int) ≤ 16) then (↑(runLen letterC partC x0.snd) : Int) == (↑(List.length x0.snd) : Int) else false
        else false
      else
        if true = true then
        if (2 == x0.fst) = true then
        bif decide ((↑(List.length x0.snd) : Int) ≥ 1) then
        bif decide ((↑(List.length x0.snd) : Int) ≤ 19) then (↑(runLen digitC digitC x0.snd) : Int) == (↑(List.length x0.snd) : Int) else false
        else false
        else if false = true then default else false
        else false
    else false)
def tokMayC (x0 : Sem shTok) : Bool :=
  (if (x0.fst == 3) = true then true
else
  if (x0.fst == 4) = true then if (bif (↑(List.length x0.snd) : Int) == 1 then List.length x0.snd == 1 else true) = true then true else false
  else
    if true = true then
      if true = true then
        if (1 == x0.fst) = true then true
        else if true = true then if true = true then if (2 == x0.fst) = true then true else if false = true then false else true else false else true
      else false
    else true)
def F49b : FSem := plainC [shTok] [Sh.bool] (fun x => tokMayC x.1) fun x => (tokMay x.1, ())
theorem FOk49b : FOk (env34).P (env34).gl 49 F49b := by
  refine FOk_plainC (ok49b) fun x hc C hC => ?_
  unfold tokMayC at hc
  refine reach_ok env34_all env34_mix (ok49b) (fun id _ => hC id) (go49b x.1) ?_
  generalize hy : tokMay x.1 = y
  unfold tokMay at hy
  try simp only [ExprT.eta]
  repeat' (first | (with_reducible refine OptOk_br (fun hsp => ?_) (fun hsp => ?_) <;> first | (rw [if_pos hsp] at hy; try rw [if_pos hsp] at hc) | (rw [if_neg (ne_t hsp)] at hy; try rw [if_neg (ne_t hsp)] at hc)) | (have hgi := guard_ite hc; with_reducible refine OptOk_chk hgi.1 ?_; replace hc := hgi.2; clear hgi) | with_reducible refine OptOk_chkT ?_)
  all_goals first | (cases hc; done) | (subst hy; first | rfl)

noncomputable def env35 : Env := (((((((env34.add 126 F126).add 128 F128).add 113 F113).add 123 F123).add 88 F88).add 80 F80).add 49 F49b)
theorem env35_all : EnvAll env35 := (EnvAll.addS (EnvAll.addS (EnvAll.addS (EnvAll.addS (EnvAll.addS (EnvAll.addS (EnvAll.addS env34_all (SameE.refl env34) FOk126) ((SameE.refl env34).add _ _) FOk128) (((SameE.refl env34).add _ _).add _ _) FOk113) ((((SameE.refl env34).add _ _).add _ _).add _ _) FOk123) (((((SameE.refl env34).add _ _).add _ _).add _ _).add _ _) FOk88) ((((((SameE.refl env34).add _ _).add _ _).add _ _).add _ _).add _ _) FOk80) (((((((SameE.refl env34).add _ _).add _ _).add _ _).add _ _).add _ _).add _ _) FOk49b)
theorem env35_mix : env35.P.follows .mixedOrders = true := (mix_add (mix_add (mix_add (mix_add (mix_add (mix_add (mix_add env34_mix _ _) _ _) _ _) _ _) _ _) _ _) _ _)
end Cad

namespace Cad
open Go Go.Proofs

abbrev kp85 : Nat → Keep := fun j => { }
theorem ok85 : fnChk (env35).P 85 Tryz.f85 1 := by refine ⟨?_, ?_, ?_, ?_⟩ <;> kernel_rfl
theorem go85 (x0 : Sem Sh.expr) : run (env35) 0 kp85 (Func.results Tryz.f85).toList 400 (bodyOf Tryz.f85) (initSt (Func.ntmps Tryz.f85) [datum Sh.expr x0] []) =
  Tr.ok
  (Leaf.ret
    (AV.bool
      (bif eNone (ExprT.mk (ExprT.op x0) (ExprT.v x0) (ExprT.s x0) (ExprT.l x0)) then true
      else eMay (ExprT.mk (ExprT.op x0) (ExprT.v x0) (ExprT.s x0) (ExprT.l x0))))
    []) := by kernel_rfl
def eMaybe (x0 : Sem Sh.expr) : Sem Sh.bool :=
  (bif eNone x0 then true else eMay x0)
def F85 : FSem := plainT [Sh.expr] [Sh.bool] fun x => (eMaybe x.1, ())
theorem FOk85 : FOk (env35).P (env35).gl 85 F85 := by
  refine FOk_plainT (ok85) fun x C hC => ?_
  refine reach_ok env35_all env35_mix (ok85) (fun id _ => hC id) (go85 x.1) ?_
  generalize hy : eMaybe x.1 = y
  unfold eMaybe at hy
  try simp only [ExprT.eta]
  repeat' (first | (with_reducible refine OptOk_br (fun hsp => ?_) (fun hsp => ?_) <;> first | (rw [if_pos hsp] at hy) | (rw [if_neg (ne_t hsp)] at hy)) | with_reducible refine OptOk_chkT ?_)
  all_goals first | (cases hc; done) | (subst hy; first | rfl)

abbrev kp105 : Nat → Keep := fun j => { }
theorem ok105 : fnChk (env35).P 105 Tryz.f105 1 := by refine ⟨?_, ?_, ?_, ?_⟩ <;> kernel_rfl
theorem go105 (x0 : Sem shCol) : run (env35) 0 kp105 (Func.results Tryz.f105).toList 400 (bodyOf Tryz.f105) (initSt (Func.ntmps Tryz.f105) [datum shCol x0] []) =
  Tr.ok (Leaf.ret (AV.bool (bif sName x0.fst then bif decide (x0.snd.fst ≥ 1) then decide (x0.snd.fst ≤ 3) else false else false)) []) := by kernel_rfl
def colOk (x0 : Sem shCol) : Sem Sh.bool :=
  (bif sName x0.fst then bif decide (x0.snd.fst ≥ 1) then decide (x0.snd.fst ≤ 3) else false else false)
def F105 : FSem := plainT [shCol] [Sh.bool] fun x => (colOk x.1, ())
theorem FOk105 : FOk (env35).P (env35).gl 105 F105 := by
  refine FOk_plainT (ok105) fun x C hC => ?_
  refine reach_ok env35_all env35_mix (ok105) (fun id _ => hC id) (go105 x.1) ?_
  generalize hy : colOk x.1 = y
  unfold colOk at hy
  try simp only [ExprT.eta]
  repeat' (first | (with_reducible refine OptOk_br (fun hsp => ?_) (fun hsp => ?_) <;> first | (rw [if_pos hsp] at hy) | (rw [if_neg (ne_t hsp)] at hy)) | with_reducible refine OptOk_chkT ?_)
  all_goals first | (cases hc; done) | (subst hy; first | rfl)

abbrev kp106 : Nat → Keep := fun j => { }
theorem ok106 : fnChk (env35).P 106 Tryz.f106 1 := by refine ⟨?_, ?_, ?_, ?_⟩ <;> kernel_rfl
theorem go106 (x0 : Sem shRef) : run (env35) 0 kp106 (Func.results Tryz.f106).toList 400 (bodyOf Tryz.f106) (initSt (Func.ntmps Tryz.f106) [datum shRef x0] []) =
  Tr.ok (Leaf.ret (AV.bool (bif sName x0.fst then sName x0.snd else false)) []) := by kernel_rfl
def refOk (x0 : Sem shRef) : Sem Sh.bool :=
  (bif sName x0.fst then sName x0.snd else false)
def F106 : FSem := plainT [shRef] [Sh.bool] fun x => (refOk x.1, ())
theorem FOk106 : FOk (env35).P (env35).gl 106 F106 := by
  refine FOk_plainT (ok106) fun x C hC => ?_
  refine reach_ok env35_all env35_mix (ok106) (fun id _ => hC id) (go106 x.1) ?_
  generalize hy : refOk x.1 = y
  unfold refOk at hy
  try simp only [ExprT.eta]
  repeat' (first | (with_reducible refine OptOk_br (fun hsp => ?_) (fun hsp => ?_) <;> first | (rw [if_pos hsp] at hy) | (rw [if_neg (ne_t hsp)] at hy)) | with_reducible refine OptOk_chkT ?_)
  all_goals first | (cases hc; done) | (subst hy; first | rfl)

abbrev kp83 : Nat → Keep := fun j => { }
theorem ok83 : fnChk (env35).P 83 Tryz.f83 1 := by refine ⟨?_, ?_, ?_, ?_⟩ <;> kernel_rfl
theorem go83 (x0 : Sem shSet) : run (env35) 0 kp83 (Func.results Tryz.f83).toList 400 (bodyOf Tryz.f83) (initSt (Func.ntmps Tryz.f83) [datum shSet x0] []) =
  Tr.ok (Leaf.ret (AV.bool (bif sName x0.fst then eMay (ExprT.mk (ExprT.op x0.snd) (ExprT.v x0.snd) (ExprT.s x0.snd) (ExprT.l x0.snd)) else false)) []) := by kernel_rfl
def setOk (x0 : Sem shSet) : Sem Sh.bool :=
  (bif sName x0.fst then eMay x0.snd else false)
def F83 : FSem := plainT [shSet] [Sh.bool] fun x => (setOk x.1, ())
theorem FOk83 : FOk (env35).P (env35).gl 83 F83 := by
  refine FOk_plainT (ok83) fun x C hC => ?_
  refine reach_ok env35_all env35_mix (ok83) (fun id _ => hC id) (go83 x.1) ?_
  generalize hy : setOk x.1 = y
  unfold setOk at hy
  try simp only [ExprT.eta]
  repeat' (first | (with_reducible refine OptOk_br (fun hsp => ?_) (fun hsp => ?_) <;> first | (rw [if_pos hsp] at hy) | (rw [if_neg (ne_t hsp)] at hy)) | with_reducible refine OptOk_chkT ?_)
  all_goals first | (cases hc; done) | (subst hy; first | rfl)

abbrev kp92 : Nat → Keep := fun j => { }
theorem ok92 : fnChk (env35).P 92 Tryz.f92 1 := by refine ⟨?_, ?_, ?_, ?_⟩ <;> kernel_rfl
theorem go92 (x0 : Sem shVal) : run (env35) 0 kp92 (Func.results Tryz.f92).toList 400 (bodyOf Tryz.f92) (initSt (Func.ntmps Tryz.f92) [datum shVal x0] []) =
  Tr.br (!vMay x0) (Tr.ok (Leaf.ret (AV.str []) []))
  (Tr.br (x0.fst == 1)
    (Tr.chk (decide (0 ≤ x0.snd.fst) && (decide (x0.snd.fst < 100) && 10 == 10)) (Tr.ok (Leaf.ret (AV.str (dec2 (Int.toNat x0.snd.fst))) [])))
    (Tr.br (x0.fst == 2) (Tr.chk false (Tr.chk true (Tr.chk true (Tr.ok (Leaf.ret (AV.str ([39] ++ [] ++ [39])) [])))))
      (Tr.br (x0.fst == 3) (Tr.br (vSays x0 == 2) (Tr.ok (Leaf.ret (AV.str [84, 82, 85, 69]) [])) (Tr.ok (Leaf.ret (AV.str [70, 65, 76, 83, 69]) [])))
        (Tr.ok (Leaf.ret (AV.str [78, 85, 76, 76]) []))))) := by kernel_rfl
def vText (x0 : Sem shVal) : Sem Sh.str :=
  (if (!vMay x0) = true then []
else
  if (x0.fst == 1) = true then dec2 (Int.toNat x0.snd.fst)
  else
    if (x0.fst == 2) = true then [39] ++ [] ++ [39]
    else if (x0.fst == 3) = true then if (vSays x0 == 2) = true then [84, 82, 85, 69] else [70, 65, 76, 83, 69] else [78, 85, 76, 76])
def vTextC (x0 : Sem shVal) : Bool :=
  (if (!vMay x0) = true then true
else
  if (x0.fst == 1) = true then if (decide (0 ≤ x0.snd.fst) && (decide (x0.snd.fst < 100) && 10 == 10)) = true then true else false
  else if (x0.fst == 2) = true then if false = true then if true = true then if true = true then true else false else false else false else true)
def F92 : FSem := plainC [shVal] [Sh.str] (fun x => vTextC x.1) fun x => (vText x.1, ())
theorem FOk92 : FOk (env35).P (env35).gl 92 F92 := by
  refine FOk_plainC (ok92) fun x hc C hC => ?_
  unfold vTextC at hc
  refine reach_ok env35_all env35_mix (ok92) (fun id _ => hC id) (go92 x.1) ?_
  generalize hy : vText x.1 = y
  unfold vText at hy
  try simp only [ExprT.eta]
  repeat' (first | (with_reducible refine OptOk_br (fun hsp => ?_) (fun hsp => ?_) <;> first | (rw [if_pos hsp] at hy; try rw [if_pos hsp] at hc) | (rw [if_neg (ne_t hsp)] at hy; try rw [if_neg (ne_t hsp)] at hc)) | (have hgi := guard_ite hc; with_reducible refine OptOk_chk hgi.1 ?_; replace hc := hgi.2; clear hgi) | with_reducible refine OptOk_chkT ?_)
  all_goals first | (cases hc; done) | (subst hy; first | rfl)

abbrev kp87 : Nat → Keep := fun j => { }
theorem ok87 : fnChk (env35).P 87 Tryz.f87 1 := by refine ⟨?_, ?_, ?_, ?_⟩ <;> kernel_rfl
theorem go87 (x0 : Sem shStmt) : run (env35) 0 kp87 (Func.results Tryz.f87).toList 400 (bodyOf Tryz.f87) (initSt (Func.ntmps Tryz.f87) [datum shStmt x0] []) =
  Tr.chk (decide (List.length x0.snd.fst + List.length x0.snd.snd.fst ≤ 1099511627776))
  (Tr.chk (decide (List.length (x0.snd.fst ++ x0.snd.snd.fst) + List.length x0.snd.snd.snd.snd.snd.fst ≤ 1099511627776))
    (Tr.chk
      (decide
        (List.length (x0.snd.fst ++ x0.snd.snd.fst ++ x0.snd.snd.snd.snd.snd.fst) + List.length x0.snd.snd.snd.snd.snd.snd.snd.snd.snd.snd.snd.snd ≤
        1099511627776))
      (Tr.ok
        (Leaf.ret
        (AV.bool
        (bif x0.snd.fst ++ x0.snd.snd.fst ++ x0.snd.snd.snd.snd.snd.fst ++ x0.snd.snd.snd.snd.snd.snd.snd.snd.snd.snd.snd.snd == [] then
        bif
        IntKind.i64.wrap
        (IntKind.i64.wrap
        (IntKind.i64.wrap
        (IntKind.i64.wrap
        (IntKind.i64.wrap ((↑(List.length x0.snd.snd.snd.fst) : Int) + (↑(List.length x0.snd.snd.snd.snd.fst) : Int)) +
        (↑(List.length x0.snd.snd.snd.snd.snd.snd.fst) : Int)) +
        (↑(List.length x0.snd.snd.snd.snd.snd.snd.snd.fst) : Int)) +
        (↑(List.length x0.snd.snd.snd.snd.snd.snd.snd.snd.snd.fst) : Int)) +
        (↑(List.length x0.snd.snd.snd.snd.snd.snd.snd.snd.snd.snd.fst) : Int)) ==
        0 then
        bif
        eNone
        (ExprT.mk (ExprT.op x0.snd.snd.snd.snd.snd.snd.snd.snd.fst) (ExprT.v x0.snd.snd.snd.snd.snd.snd.snd.snd.fst)
        (ExprT.s x0.snd.snd.snd.snd.snd.snd.snd.snd.fst) (ExprT.l x0.snd.snd.snd.snd.snd.snd.snd.snd.fst)) then
        eNone
        (ExprT.mk (ExprT.op x0.snd.snd.snd.snd.snd.snd.snd.snd.snd.snd.snd.fst) (ExprT.v x0.snd.snd.snd.snd.snd.snd.snd.snd.snd.snd.snd.fst)
        (ExprT.s x0.snd.snd.snd.snd.snd.snd.snd.snd.snd.snd.snd.fst) (ExprT.l x0.snd.snd.snd.snd.snd.snd.snd.snd.snd.snd.snd.fst))
        else false
        else false
        else false))
        [])))) := by kernel_rfl
def sEmpty (x0 : Sem shStmt) : Sem Sh.bool :=
  (bif x0.snd.fst ++ x0.snd.snd.fst ++ x0.snd.snd.snd.snd.snd.fst ++ x0.snd.snd.snd.snd.snd.snd.snd.snd.snd.snd.snd.snd == [] then
  bif
      IntKind.i64.wrap
        (IntKind.i64.wrap
        (IntKind.i64.wrap
        (IntKind.i64.wrap
        (IntKind.i64.wrap ((↑(List.length x0.snd.snd.snd.fst) : Int) + (↑(List.length x0.snd.snd.snd.snd.fst) : Int)) +
        (↑(List.length x0.snd.snd.snd.snd.snd.snd.fst) : Int)) +
        (↑(List.length x0.snd.snd.snd.snd.snd.snd.snd.fst) : Int)) +
        (↑(List.length x0.snd.snd.snd.snd.snd.snd.snd.snd.snd.fst) : Int)) +
        (↑(List.length x0.snd.snd.snd.snd.snd.snd.snd.snd.snd.snd.fst) : Int)) ==
        0 then
    bif eNone x0.snd.snd.snd.snd.snd.snd.snd.snd.fst then eNone x0.snd.snd.snd.snd.snd.snd.snd.snd.snd.snd.snd.fst else false
  else false
else false)
def sEmptyC (x0 : Sem shStmt) : Bool :=
  (if decide (List.length x0.snd.fst + List.length x0.snd.snd.fst ≤ 1099511627776) = true then
  if decide (List.length (x0.snd.fst ++ x0.snd.snd.fst) + List.length x0.snd.snd.snd.snd.snd.fst ≤ 1099511627776) = true then
    if
        decide
        (List.length (x0.snd.fst ++ x0.snd.snd.fst ++ x0.snd.snd.snd.snd.snd.fst) + List.length x0.snd.snd.snd.snd.snd.snd.snd.snd.snd.snd.snd.snd ≤
        1099511627776) =
        true then
      true
    else false
  else false
else false)
def F87 : FSem := plainC [shStmt] [Sh.bool] (fun x => sEmptyC x.1) fun x => (sEmpty x.1, ())
theorem FOk87 : FOk (env35).P (env35).gl 87 F87 := by
  refine FOk_plainC (ok87) fun x hc C hC => ?_
  unfold sEmptyC at hc
  refine reach_ok env35_all env35_mix (ok87) (fun id _ => hC id) (go87 x.1) ?_
  generalize hy : sEmpty x.1 = y
  unfold sEmpty at hy
  try simp only [ExprT.eta]
  repeat' (first | (with_reducible refine OptOk_br (fun hsp => ?_) (fun hsp => ?_) <;> first | (rw [if_pos hsp] at hy; try rw [if_pos hsp] at hc) | (rw [if_neg (ne_t hsp)] at hy; try rw [if_neg (ne_t hsp)] at hc)) | (have hgi := guard_ite hc; with_reducible refine OptOk_chk hgi.1 ?_; replace hc := hgi.2; clear hgi) | with_reducible refine OptOk_chkT ?_)
  all_goals first | (cases hc; done) | (subst hy; first | rfl)

abbrev kp99 : Nat → Keep := fun _ => { unroll := true }
theorem ok99 : fnChk (env35).P 99 Tryz.f99 1 := by refine ⟨?_, ?_, ?_, ?_⟩ <;> kernel_rfl
theorem go99 (x0 : Sem Sh.str) : run (env35) 0 kp99 (Func.results Tryz.f99).toList 400 (bodyOf Tryz.f99) (initSt (Func.ntmps Tryz.f99) [datum Sh.str x0] []) =
  Tr.br true
  (Tr.chk true
    (Tr.br (decide ((↑(runLen letterC partC x0) : Int) > 0))
      (Tr.chk (decide (0 ≤ 0) && decide (0 ≤ (↑(runLen letterC partC x0) : Int)) && decide ((↑(runLen letterC partC x0) : Int) ≤ (↑(List.length x0) : Int)))
        (Tr.ok
        (Leaf.ret
        (AV.tup
        [AV.agg [AV.int IntKind.i64 1, AV.str (List.take ((↑(runLen letterC partC x0) : Int).toNat - Int.toNat 0) (List.drop (Int.toNat 0) x0))],
        AV.int IntKind.i64 (↑(runLen letterC partC x0) : Int)])
        [])))
      (Tr.br true
        (Tr.chk true
        (Tr.br (decide ((↑(runLen digitC digitC x0) : Int) > 0))
        (Tr.chk
        (decide (0 ≤ 0) && decide (0 ≤ (↑(runLen digitC digitC x0) : Int)) && decide ((↑(runLen digitC digitC x0) : Int) ≤ (↑(List.length x0) : Int)))
        (Tr.ok
        (Leaf.ret
        (AV.tup
        [AV.agg [AV.int IntKind.i64 2, AV.str (List.take ((↑(runLen digitC digitC x0) : Int).toNat - Int.toNat 0) (List.drop (Int.toNat 0) x0))],
        AV.int IntKind.i64 (↑(runLen digitC digitC x0) : Int)])
        [])))
        (Tr.br false Tr.err
        (Tr.chk (inB 0 (List.length x0))
        (Tr.br ((↑(List.getD x0 (Int.toNat 0) 0).toNat : Int) == 39)
        (Tr.chk false (Tr.ok (Leaf.ret (AV.tup [AV.agg [AV.int IntKind.i64 0, AV.str []], AV.int IntKind.i64 0]) [])))
        (Tr.chk (decide (0 ≤ 0) && decide (0 ≤ 1) && decide (1 ≤ (↑(List.length x0) : Int)))
        (Tr.ok
        (Leaf.ret
        (AV.tup
        [AV.agg [AV.int IntKind.i64 4, AV.str (List.take (Int.toNat 1 - Int.toNat 0) (List.drop (Int.toNat 0) x0))], AV.int IntKind.i64 1])
        []))))))))
        (Tr.chk (inB 0 (List.length x0))
        (Tr.br ((↑(List.getD x0 (Int.toNat 0) 0).toNat : Int) == 39)
        (Tr.chk false (Tr.ok (Leaf.ret (AV.tup [AV.agg [AV.int IntKind.i64 0, AV.str []], AV.int IntKind.i64 0]) [])))
        (Tr.chk (decide (0 ≤ 0) && decide (0 ≤ 1) && decide (1 ≤ (↑(List.length x0) : Int)))
        (Tr.ok
        (Leaf.ret
        (AV.tup [AV.agg [AV.int IntKind.i64 4, AV.str (List.take (Int.toNat 1 - Int.toNat 0) (List.drop (Int.toNat 0) x0))], AV.int IntKind.i64 1])
        []))))))))
  (Tr.chk (inB 0 (List.length x0))
    (Tr.br ((↑(List.getD x0 (Int.toNat 0) 0).toNat : Int) == 39)
      (Tr.chk false (Tr.ok (Leaf.ret (AV.tup [AV.agg [AV.int IntKind.i64 0, AV.str []], AV.int IntKind.i64 0]) [])))
      (Tr.chk (decide (0 ≤ 0) && decide (0 ≤ 1) && decide (1 ≤ (↑(List.length x0) : Int)))
        (Tr.ok
        (Leaf.ret (AV.tup [AV.agg [AV.int IntKind.i64 4, AV.str (List.take (Int.toNat 1 - Int.toNat 0) (List.drop (Int.toNat 0) x0))], AV.int IntKind.i64 1])
        []))))) := by kernel_rfl
def tokFirst (x0 : Sem Sh.str) : Sem shTok × Sem shInt :=
  (if true = true then
  if decide ((↑(runLen letterC partC x0) : Int) > 0) = true then
    ((1, List.take ((↑(runLen letterC partC x0) : Int).toNat - Int.toNat 0) (List.drop (Int.toNat 0) x0)), (↑(runLen letterC partC x0) : Int))
  else
    if true = true then
      if decide ((↑(runLen digitC digitC x0) : Int) > 0) = true then
        ((2, List.take ((↑(runLen digitC digitC x0) : Int).toNat - Int.toNat 0) (List.drop (Int.toNat 0) x0)), (↑(runLen digitC digitC x0) : Int))
      else
        if false = true then default
        else
        if ((↑(List.getD x0 (Int.toNat 0) 0).toNat : Int) == 39) = true then ((0, []), 0)
        else ((4, List.take (Int.toNat 1 - Int.toNat 0) (List.drop (Int.toNat 0) x0)), 1)
    else
      if ((↑(List.getD x0 (Int.toNat 0) 0).toNat : Int) == 39) = true then ((0, []), 0)
      else ((4, List.take (Int.toNat 1 - Int.toNat 0) (List.drop (Int.toNat 0) x0)), 1)
else
  if ((↑(List.getD x0 (Int.toNat 0) 0).toNat : Int) == 39) = true then ((0, []), 0)
  else ((4, List.take (Int.toNat 1 - Int.toNat 0) (List.drop (Int.toNat 0) x0)), 1))
def tokFirstC (x0 : Sem Sh.str) : Bool :=
  (if true = true then
  if true = true then
    if decide ((↑(runLen letterC partC x0) : Int) > 0) = true then
      if
        (decide (0 ≤ 0) && decide (0 ≤ (↑(runLen letterC partC x0) : Int)) && decide ((↑(runLen letterC partC x0) : Int) ≤ (↑(List.length x0) : Int))) =
        true then
        true
      else false
    else
      if true = true then
        if true = true then
        if decide ((↑(runLen digitC digitC x0) : Int) > 0) = true then
        if
        (decide (0 ≤ 0) && decide (0 ≤ (↑(runLen digitC digitC x0) : Int)) && decide ((↑(runLen digitC digitC x0) : Int) ≤ (↑(List.length x0) : Int))) =
        true then
        true
        else false
        else
        if false = true then false
        else
        if inB 0 (List.length x0) = true then
        if ((↑(List.getD x0 (Int.toNat 0) 0).toNat : Int) == 39) = true then if false = true then true else false
        else if (decide (0 ≤ 0) && decide (0 ≤ 1) && decide (1 ≤ (↑(List.length x0) : Int))) = true then true else false
        else false
        else false
      else
        if inB 0 (List.length x0) = true then
        if ((↑(List.getD x0 (Int.toNat 0) 0).toNat : Int) == 39) = true then if false = true then true else false
        else if (decide (0 ≤ 0) && decide (0 ≤ 1) && decide (1 ≤ (↑(List.length x0) : Int))) = true then true else false
        else false
  else false
else
  if inB 0 (List.length x0) = true then
    if ((↑(List.getD x0 (Int.toNat 0) 0).toNat : Int) == 39) = true then if false = true then true else false
    else if (decide (0 ≤ 0) && decide (0 ≤ 1) && decide (1 ≤ (↑(List.length x0) : Int))) = true then true else false
  else false)
def F99 : FSem := plainC [Sh.str] [shTok, shInt] (fun x => tokFirstC x.1) fun x => ((tokFirst x.1).1, (tokFirst x.1).2, ())
theorem FOk99 : FOk (env35).P (env35).gl 99 F99 := by
  refine FOk_plainC (ok99) fun x hc C hC => ?_
  unfold tokFirstC at hc
  refine reach_ok env35_all env35_mix (ok99) (fun id _ => hC id) (go99 x.1) ?_
  generalize hy : tokFirst x.1 = y
  unfold tokFirst at hy
  try simp only [ExprT.eta]
  repeat' (first | (with_reducible refine OptOk_br (fun hsp => ?_) (fun hsp => ?_) <;> first | (rw [if_pos hsp] at hy; try rw [if_pos hsp] at hc) | (rw [if_neg (ne_t hsp)] at hy; try rw [if_neg (ne_t hsp)] at hc)) | (have hgi := guard_ite hc; with_reducible refine OptOk_chk hgi.1 ?_; replace hc := hgi.2; clear hgi) | with_reducible refine OptOk_chkT ?_)
  all_goals first | (cases hc; done) | (subst hy; first | rfl)

abbrev kp122 : Nat → Keep := fun j => if j = 3 then { slots := [1, 5, 8, 9, 10], prom := [(5, none, .str)] } else { }
abbrev s122_3 (l8 : List (Sem shCol)) (i9 : Int) (i10 : Int) (lh_0 : List (Sem Sh.str)) : St := {
  tmps :=
    [AV.any, AV.clo (Fn.func 123) [] [], AV.any, AV.any, AV.any, AV.vec 0, AV.any, AV.any, AV.sl shCol l8,
      AV.int IntKind.i64 i9, AV.int IntKind.i64 i10, AV.any, AV.any, AV.any, AV.any, AV.any, AV.any, AV.any, AV.any, AV.any, AV.any, AV.any, AV.any],
  heap := [AO.vec Sh.str lh_0] }
theorem ok122 : fnChk (env35).P 122 Tryz.f122 2 := by refine ⟨?_, ?_, ?_, ?_⟩ <;> kernel_rfl
theorem go122 (x0 : Sem shCol.sl) : run (env35) 0 kp122 (Func.results Tryz.f122).toList 400 (bodyOf Tryz.f122) (initSt (Func.ntmps Tryz.f122) [datum shCol.sl x0, AV.clo (Fn.func 123) [] []] []) =
  Tr.ok (Leaf.head 3 (headK Tryz.f122 3) (s122_3 x0 (↑(List.length x0) : Int) 0 [])) := by kernel_rfl
theorem on122_3 (l8 : List (Sem shCol)) (i9 : Int) (i10 : Int) (lh_0 : List (Sem Sh.str)) : run (env35) 0 kp122 (Func.results Tryz.f122).toList 400 (headK Tryz.f122 3) (s122_3 l8 i9 i10 lh_0) =
  Tr.br (decide (i10 < i9))
  (Tr.chk (inB i10 l8.length)
    (Tr.chk (colTextC (l8.getD i10.toNat (dflt shCol)))
      (Tr.chk (decide (lh_0.length + [colText (l8.getD i10.toNat (dflt shCol))].length ≤ 1073741824))
        (Tr.ok
        (Leaf.head 3 (headK Tryz.f122 3)
        (s122_3 l8 i9 (IntKind.i64.wrap (i10 + 1)) (lh_0 ++ [colText (l8.getD i10.toNat (dflt shCol))])))))))
  (Tr.chk (decide (lh_0.length ≤ 140737488355328) && decide ((Lib.join lh_0 [32, 44, 32]).length ≤ 140737488355328))
    (Tr.ok (Leaf.ret (AV.str (Lib.join lh_0 [32, 44, 32])) []))) := by kernel_rfl
def colTexts_3 : List (Sem shCol) → Int → List (Sem Sh.str) → Sem Sh.str
  | [], i10, lh_0 => (Lib.join lh_0 [32, 44, 32])
  | x :: r, i10, lh_0 => (colTexts_3 r (i10 + 1) (lh_0 ++ [colText x]))
def colTextsC_3 : List (Sem shCol) → Int → List (Sem Sh.str) → Bool
  | [], i10, lh_0 => (if (decide (lh_0.length ≤ 140737488355328) && decide ((Lib.join lh_0 [32, 44, 32]).length ≤ 140737488355328)) = true then true else false)
  | x :: r, i10, lh_0 => (if colTextC x = true then if decide (lh_0.length + [colText x].length ≤ 1073741824) = true then colTextsC_3 r (i10 + 1) (lh_0 ++ [colText x]) else false
else false)
theorem at122_3 {C : Ctx} (hC : ∀ id, C.ρ0 id = none) (l8 : List (Sem shCol)) (hl : l8.length ≤ maxStr) : ∀ (m i : Nat) (lh_0 : List (Sem Sh.str)), l8.length - i = m → i ≤ l8.length → colTextsC_3 (l8.drop i) i lh_0 = true →
    Reach (env35) C 122 (headK Tryz.f122 3) (s122_3 l8 (l8.length : Int) (i : Int) lh_0) (fun r h => resOf h [Sh.str] r = some (colTexts_3 (l8.drop i) i lh_0, ())) := by
  intro m
  induction m with
  | zero =>
    intro i lh_0 hm hi hc
    obtain rfl : i = l8.length := by omega
    rw [List.drop_length] at hc ⊢
    refine reach_ok env35_all env35_mix (ok122) (fun id _ => hC id) (on122_3 _ _ _ _) ?_
    rw [colTextsC_3] at hc
    generalize hy : colTexts_3 [] _ lh_0 = y
    rw [colTexts_3] at hy
    simp only [ExprT.eta, lt_dec', cond_false, Tr.val_brF]
    repeat' (first | (with_reducible refine OptOk_br (fun hsp => ?_) (fun hsp => ?_) <;> first | (rw [if_pos hsp] at hy; try rw [if_pos hsp] at hc) | (rw [if_neg (ne_t hsp)] at hy; try rw [if_neg (ne_t hsp)] at hc)) | (have hgi := guard_ite hc; with_reducible refine OptOk_chk hgi.1 ?_; replace hc := hgi.2; clear hgi) | with_reducible refine OptOk_chkT ?_)
    all_goals first | (cases hc; done) | (subst hy; first | rfl)
  | succ m IH =>
    intro i lh_0 hm hi hc
    have hlt : i < l8.length := by omega
    have IH := IH (i + 1)
    have hcast : ((i : Int) + 1) = ((i + 1 : Nat) : Int) := by omega
    have hwr := wrap_add i (by omega)
    rw [List.drop_eq_getElem_cons hlt] at hc ⊢
    refine reach_ok env35_all env35_mix (ok122) (fun id _ => hC id) (on122_3 _ _ _ _) ?_
    rw [colTextsC_3] at hc
    generalize hy : colTexts_3 (l8[i] :: l8.drop (i + 1)) (i : Int) lh_0 = y
    rw [colTexts_3] at hy
    simp only [ExprT.eta, lt_dec hlt, inB_of hlt, getD_at l8 _ hlt, hwr, cond_true, Tr.val_brT, Tr.val_chkT]
    clear hwr
    try simp only [inB_of hlt] at hy
    simp only [hcast] at hy
    try simp only [inB_of hlt] at hc
    try simp only [hcast] at hc
    repeat' (first | (with_reducible refine OptOk_br (fun hsp => ?_) (fun hsp => ?_) <;> first | (rw [if_pos hsp] at hy; try rw [if_pos hsp] at hc) | (rw [if_neg (ne_t hsp)] at hy; try rw [if_neg (ne_t hsp)] at hc)) | (have hgi := guard_ite hc; with_reducible refine OptOk_chk hgi.1 ?_; replace hc := hgi.2; clear hgi) | with_reducible refine OptOk_chkT ?_)
    all_goals first | (cases hc; done) | (subst hy; first | (change Reach _ _ _ _ _ _; apply IH <;> first | omega | assumption) | rfl)
theorem at122_3s {C : Ctx} (hC : ∀ id, C.ρ0 id = none) (l8 : List (Sem shCol)) (lh_0 : List (Sem Sh.str)) (hc : colTextsC_3 l8 0 lh_0 = true) :
    Reach (env35) C 122 (headK Tryz.f122 3) (s122_3 l8 (l8.length : Int) 0 lh_0) (fun r h => resOf h [Sh.str] r = some (colTexts_3 l8 0 lh_0, ())) :=
  Reach.len 8 (shCol) l8 rfl fun hl => at122_3 hC l8 hl _ 0 lh_0 rfl (Nat.zero_le _) hc
def colTexts (x0 : Sem shCol.sl) : Sem Sh.str :=
  (colTexts_3 x0 0 [])
def colTextsC (x0 : Sem shCol.sl) : Bool :=
  (colTextsC_3 x0 0 [])
def F122 : FSem := plainK [shCol.sl] [Sh.str] [(123, (fun x => colTextsC x.1), fun x => (colTexts x.1, ()))]
theorem FOk122 : FOk (env35).P (env35).gl 122 F122 := by
  refine FOk_plainK (ok122) fun j c g hm x hc C hC => ?_
  simp only [List.mem_singleton, Prod.mk.injEq] at hm
  obtain ⟨rfl, rfl, rfl⟩ := hm
  replace hc : colTextsC x.1 = true := hc
  unfold colTextsC at hc
  refine reach_ok env35_all env35_mix (ok122) (fun id _ => hC id) (go122 x.1) ?_
  generalize hy : colTexts x.1 = y
  unfold colTexts at hy
  try simp only [ExprT.eta]
  repeat' (first | (with_reducible refine OptOk_br (fun hsp => ?_) (fun hsp => ?_) <;> first | (rw [if_pos hsp] at hy; try rw [if_pos hsp] at hc) | (rw [if_neg (ne_t hsp)] at hy; try rw [if_neg (ne_t hsp)] at hc)) | (have hgi := guard_ite hc; with_reducible refine OptOk_chk hgi.1 ?_; replace hc := hgi.2; clear hgi) | with_reducible refine OptOk_chkT ?_)
  all_goals first | (cases hc; done) | (subst hy; first | (change Reach _ _ _ _ _ _; apply at122_3s hC <;> first | assumption | exact hc) | rfl)

abbrev kp97 : Nat → Keep := fun j => if j = 3 then { slots := [1, 5, 8, 9, 10], prom := [(5, none, .str)] } else { }
abbrev s97_3 (l8 : List (Sem Sh.str)) (i9 : Int) (i10 : Int) (lh_0 : List (Sem Sh.str)) : St := {
  tmps :=
    [AV.any, AV.clo (Fn.func 88) [] [], AV.any, AV.any, AV.any, AV.vec 0, AV.any, AV.any, AV.sl Sh.str l8, AV.int IntKind.i64 i9, AV.int IntKind.i64 i10,
      AV.any, AV.any, AV.any, AV.any, AV.any, AV.any, AV.any, AV.any, AV.any, AV.any, AV.any, AV.any],
  heap := [AO.vec Sh.str lh_0] }
theorem ok97 : fnChk (env35).P 97 Tryz.f97 2 := by refine ⟨?_, ?_, ?_, ?_⟩ <;> kernel_rfl
theorem go97 (x0 : Sem Sh.str.sl) : run (env35) 0 kp97 (Func.results Tryz.f97).toList 400 (bodyOf Tryz.f97) (initSt (Func.ntmps Tryz.f97) [datum Sh.str.sl x0, AV.clo (Fn.func 88) [] []] []) =
  Tr.ok (Leaf.head 3 (headK Tryz.f97 3) (s97_3 x0 (↑(List.length x0) : Int) 0 [])) := by kernel_rfl
theorem on97_3 (l8 : List (Sem Sh.str)) (i9 : Int) (i10 : Int) (lh_0 : List (Sem Sh.str)) : run (env35) 0 kp97 (Func.results Tryz.f97).toList 400 (headK Tryz.f97 3) (s97_3 l8 i9 i10 lh_0) =
  Tr.br (decide (i10 < i9))
  (Tr.chk (inB i10 l8.length)
    (Tr.chk (decide (lh_0.length + [sSame (l8.getD i10.toNat (dflt Sh.str))].length ≤ 1073741824))
      (Tr.ok (Leaf.head 3 (headK Tryz.f97 3) (s97_3 l8 i9 (IntKind.i64.wrap (i10 + 1)) (lh_0 ++ [sSame (l8.getD i10.toNat (dflt Sh.str))]))))))
  (Tr.chk (decide (lh_0.length ≤ 140737488355328) && decide ((Lib.join lh_0 [32, 44, 32]).length ≤ 140737488355328))
    (Tr.ok (Leaf.ret (AV.str (Lib.join lh_0 [32, 44, 32])) []))) := by kernel_rfl
def strTexts_3 : List (Sem Sh.str) → Int → List (Sem Sh.str) → Sem Sh.str
  | [], i10, lh_0 => (Lib.join lh_0 [32, 44, 32])
  | x :: r, i10, lh_0 => (strTexts_3 r (i10 + 1) (lh_0 ++ [sSame x]))
def strTextsC_3 : List (Sem Sh.str) → Int → List (Sem Sh.str) → Bool
  | [], i10, lh_0 => (if (decide (lh_0.length ≤ 140737488355328) && decide ((Lib.join lh_0 [32, 44, 32]).length ≤ 140737488355328)) = true then true else false)
  | x :: r, i10, lh_0 => (if decide (lh_0.length + [sSame x].length ≤ 1073741824) = true then strTextsC_3 r (i10 + 1) (lh_0 ++ [sSame x]) else false)
theorem at97_3 {C : Ctx} (hC : ∀ id, C.ρ0 id = none) (l8 : List (Sem Sh.str)) (hl : l8.length ≤ maxStr) : ∀ (m i : Nat) (lh_0 : List (Sem Sh.str)), l8.length - i = m → i ≤ l8.length → strTextsC_3 (l8.drop i) i lh_0 = true →
    Reach (env35) C 97 (headK Tryz.f97 3) (s97_3 l8 (l8.length : Int) (i : Int) lh_0) (fun r h => resOf h [Sh.str] r = some (strTexts_3 (l8.drop i) i lh_0, ())) := by
  intro m
  induction m with
  | zero =>
    intro i lh_0 hm hi hc
    obtain rfl : i = l8.length := by omega
    rw [List.drop_length] at hc ⊢
    refine reach_ok env35_all env35_mix (ok97) (fun id _ => hC id) (on97_3 _ _ _ _) ?_
    rw [strTextsC_3] at hc
    generalize hy : strTexts_3 [] _ lh_0 = y
    rw [strTexts_3] at hy
    simp only [ExprT.eta, lt_dec', cond_false, Tr.val_brF]
    repeat' (first | (with_reducible refine OptOk_br (fun hsp => ?_) (fun hsp => ?_) <;> first | (rw [if_pos hsp] at hy; try rw [if_pos hsp] at hc) | (rw [if_neg (ne_t hsp)] at hy; try rw [if_neg (ne_t hsp)] at hc)) | (have hgi := guard_ite hc; with_reducible refine OptOk_chk hgi.1 ?_; replace hc := hgi.2; clear hgi) | with_reducible refine OptOk_chkT ?_)
    all_goals first | (cases hc; done) | (subst hy; first | rfl)
  | succ m IH =>
    intro i lh_0 hm hi hc
    have hlt : i < l8.length := by omega
    have IH := IH (i + 1)
    have hcast : ((i : Int) + 1) = ((i + 1 : Nat) : Int) := by omega
    have hwr := wrap_add i (by omega)
    rw [List.drop_eq_getElem_cons hlt] at hc ⊢
    refine reach_ok env35_all env35_mix (ok97) (fun id _ => hC id) (on97_3 _ _ _ _) ?_
    rw [strTextsC_3] at hc
    generalize hy : strTexts_3 (l8[i] :: l8.drop (i + 1)) (i : Int) lh_0 = y
    rw [strTexts_3] at hy
    simp only [ExprT.eta, lt_dec hlt, inB_of hlt, getD_at l8 _ hlt, hwr, cond_true, Tr.val_brT, Tr.val_chkT]
    clear hwr
    try simp only [inB_of hlt] at hy
    simp only [hcast] at hy
    try simp only [inB_of hlt] at hc
    try simp only [hcast] at hc
    repeat' (first | (with_reducible refine OptOk_br (fun hsp => ?_) (fun hsp => ?_) <;> first | (rw [if_pos hsp] at hy; try rw [if_pos hsp] at hc) | (rw [if_neg (ne_t hsp)] at hy; try rw [if_neg (ne_t hsp)] at hc)) | (have hgi := guard_ite hc; with_reducible refine OptOk_chk hgi.1 ?_; replace hc := hgi.2; clear hgi) | with_reducible refine OptOk_chkT ?_)
    all_goals first | (cases hc; done) | (subst hy; first | (change Reach _ _ _ _ _ _; apply IH <;> first | omega | assumption) | rfl)
theorem at97_3s {C : Ctx} (hC : ∀ id, C.ρ0 id = none) (l8 : List (Sem Sh.str)) (lh_0 : List (Sem Sh.str)) (hc : strTextsC_3 l8 0 lh_0 = true) :
    Reach (env35) C 97 (headK Tryz.f97 3) (s97_3 l8 (l8.length : Int) 0 lh_0) (fun r h => resOf h [Sh.str] r = some (strTexts_3 l8 0 lh_0, ())) :=
  Reach.len 8 (Sh.str) l8 rfl fun hl => at97_3 hC l8 hl _ 0 lh_0 rfl (Nat.zero_le _) hc
def strTexts (x0 : Sem Sh.str.sl) : Sem Sh.str :=
  (strTexts_3 x0 0 [])
def strTextsC (x0 : Sem Sh.str.sl) : Bool :=
  (strTextsC_3 x0 0 [])
def F97 : FSem := plainK [Sh.str.sl] [Sh.str] [(88, (fun x => strTextsC x.1), fun x => (strTexts x.1, ()))]
theorem FOk97 : FOk (env35).P (env35).gl 97 F97 := by
  refine FOk_plainK (ok97) fun j c g hm x hc C hC => ?_
  simp only [List.mem_singleton, Prod.mk.injEq] at hm
  obtain ⟨rfl, rfl, rfl⟩ := hm
  replace hc : strTextsC x.1 = true := hc
  unfold strTextsC at hc
  refine reach_ok env35_all env35_mix (ok97) (fun id _ => hC id) (go97 x.1) ?_
  generalize hy : strTexts x.1 = y
  unfold strTexts at hy
  try simp only [ExprT.eta]
  repeat' (first | (with_reducible refine OptOk_br (fun hsp => ?_) (fun hsp => ?_) <;> first | (rw [if_pos hsp] at hy; try rw [if_pos hsp] at hc) | (rw [if_neg (ne_t hsp)] at hy; try rw [if_neg (ne_t hsp)] at hc)) | (have hgi := guard_ite hc; with_reducible refine OptOk_chk hgi.1 ?_; replace hc := hgi.2; clear hgi) | with_reducible refine OptOk_chkT ?_)
  all_goals first | (cases hc; done) | (subst hy; first | (change Reach _ _ _ _ _ _; apply at97_3s hC <;> first | assumption | exact hc) | rfl)

noncomputable def env36 : Env := (((((((((env35.add 85 F85).add 105 F105).add 106 F106).add 83 F83).add 92 F92).add 87 F87).add 99 F99).add 122 F122).add 97 F97)
theorem env36_all : EnvAll env36 := (EnvAll.addS (EnvAll.addS (EnvAll.addS (EnvAll.addS (EnvAll.addS (EnvAll.addS (EnvAll.addS (EnvAll.addS (EnvAll.addS env35_all (SameE.refl env35) FOk85) ((SameE.refl env35).add _ _) FOk105) (((SameE.refl env35).add _ _).add _ _) FOk106) ((((SameE.refl env35).add _ _).add _ _).add _ _) FOk83) (((((SameE.refl env35).add _ _).add _ _).add _ _).add _ _) FOk92) ((((((SameE.refl env35).add _ _).add _ _).add _ _).add _ _).add _ _) FOk87) (((((((SameE.refl env35).add _ _).add _ _).add _ _).add _ _).add _ _).add _ _) FOk99) ((((((((SameE.refl env35).add _ _).add _ _).add _ _).add _ _).add _ _).add _ _).add _ _) FOk122) (((((((((SameE.refl env35).add _ _).add _ _).add _ _).add _ _).add _ _).add _ _).add _ _).add _ _) FOk97)
theorem env36_mix : env36.P.follows .mixedOrders = true := (mix_add (mix_add (mix_add (mix_add (mix_add (mix_add (mix_add (mix_add (mix_add env35_mix _ _) _ _) _ _) _ _) _ _) _ _) _ _) _ _) _ _)
end Cad

namespace Cad
open Go Go.Proofs

noncomputable def F134 : FSem := liftF (List.replicate 2 none) (autoG env36 Tryz.f134 (List.replicate 2 none))
theorem FOk134 : FOk env36.P env36.gl 134 F134 := FOk_auto _ env36_all env36_mix (by refine ⟨?_, ?_, ?_, ?_⟩ <;> kernel_rfl)

noncomputable def F136 : FSem := liftF (List.replicate 2 none) (autoG env36 Tryz.f136 (List.replicate 2 none))
theorem FOk136 : FOk env36.P env36.gl 136 F136 := FOk_auto _ env36_all env36_mix (by refine ⟨?_, ?_, ?_, ?_⟩ <;> kernel_rfl)

noncomputable def F115 : FSem := liftF (List.replicate 2 none) (autoG env36 Tryz.f115 (List.replicate 2 none))
theorem FOk115 : FOk env36.P env36.gl 115 F115 := FOk_auto _ env36_all env36_mix (by refine ⟨?_, ?_, ?_, ?_⟩ <;> kernel_rfl)

noncomputable def F110 : FSem := liftF (List.replicate 2 none) (autoG env36 Tryz.f110 (List.replicate 2 none))
theorem FOk110 : FOk env36.P env36.gl 110 F110 := FOk_auto _ env36_all env36_mix (by refine ⟨?_, ?_, ?_, ?_⟩ <;> kernel_rfl)

noncomputable def F112 : FSem := liftF (List.replicate 2 none) (autoG env36 Tryz.f112 (List.replicate 2 none))
theorem FOk112 : FOk env36.P env36.gl 112 F112 := FOk_auto _ env36_all env36_mix (by refine ⟨?_, ?_, ?_, ?_⟩ <;> kernel_rfl)

abbrev kp91 : Nat → Keep := fun j => if j = 3 then { slots := [1, 5, 8, 9, 10], prom := [(5, none, .str)] } else { }
abbrev s91_3 (l8 : List (Sem shVal)) (i9 : Int) (i10 : Int) (lh_0 : List (Sem Sh.str)) : St := {
  tmps :=
    [AV.any, AV.clo (Fn.func 92) [] [], AV.any, AV.any, AV.any, AV.vec 0, AV.any, AV.any, AV.sl shVal l8,
      AV.int IntKind.i64 i9, AV.int IntKind.i64 i10, AV.any, AV.any, AV.any, AV.any, AV.any, AV.any, AV.any, AV.any, AV.any, AV.any, AV.any, AV.any],
  heap := [AO.vec Sh.str lh_0] }
theorem ok91 : fnChk (env36).P 91 Tryz.f91 2 := by refine ⟨?_, ?_, ?_, ?_⟩ <;> kernel_rfl
theorem go91 (x0 : Sem shVal.sl) : run (env36) 0 kp91 (Func.results Tryz.f91).toList 400 (bodyOf Tryz.f91) (initSt (Func.ntmps Tryz.f91) [datum shVal.sl x0, AV.clo (Fn.func 92) [] []] []) =
  Tr.ok (Leaf.head 3 (headK Tryz.f91 3) (s91_3 x0 (↑(List.length x0) : Int) 0 [])) := by kernel_rfl
theorem on91_3 (l8 : List (Sem shVal)) (i9 : Int) (i10 : Int) (lh_0 : List (Sem Sh.str)) : run (env36) 0 kp91 (Func.results Tryz.f91).toList 400 (headK Tryz.f91 3) (s91_3 l8 i9 i10 lh_0) =
  Tr.br (decide (i10 < i9))
  (Tr.chk (inB i10 l8.length)
    (Tr.chk (vTextC (l8.getD i10.toNat (dflt shVal)))
      (Tr.chk (decide (lh_0.length + [vText (l8.getD i10.toNat (dflt shVal))].length ≤ 1073741824))
        (Tr.ok
        (Leaf.head 3 (headK Tryz.f91 3)
        (s91_3 l8 i9 (IntKind.i64.wrap (i10 + 1))
        (lh_0 ++ [vText (l8.getD i10.toNat (dflt shVal))])))))))
  (Tr.chk (decide (lh_0.length ≤ 140737488355328) && decide ((Lib.join lh_0 [32, 44, 32]).length ≤ 140737488355328))
    (Tr.ok (Leaf.ret (AV.str (Lib.join lh_0 [32, 44, 32])) []))) := by kernel_rfl
def valTexts_3 : List (Sem shVal) → Int → List (Sem Sh.str) → Sem Sh.str
  | [], i10, lh_0 => (Lib.join lh_0 [32, 44, 32])
  | x :: r, i10, lh_0 => (valTexts_3 r (i10 + 1) (lh_0 ++ [vText x]))
def valTextsC_3 : List (Sem shVal) → Int → List (Sem Sh.str) → Bool
  | [], i10, lh_0 => (if (decide (lh_0.length ≤ 140737488355328) && decide ((Lib.join lh_0 [32, 44, 32]).length ≤ 140737488355328)) = true then true else false)
  | x :: r, i10, lh_0 => (if vTextC x = true then if decide (lh_0.length + [vText x].length ≤ 1073741824) = true then valTextsC_3 r (i10 + 1) (lh_0 ++ [vText x]) else false else false)
theorem at91_3 {C : Ctx} (hC : ∀ id, C.ρ0 id = none) (l8 : List (Sem shVal)) (hl : l8.length ≤ maxStr) : ∀ (m i : Nat) (lh_0 : List (Sem Sh.str)), l8.length - i = m → i ≤ l8.length → valTextsC_3 (l8.drop i) i lh_0 = true →
    Reach (env36) C 91 (headK Tryz.f91 3) (s91_3 l8 (l8.length : Int) (i : Int) lh_0) (fun r h => resOf h [Sh.str] r = some (valTexts_3 (l8.drop i) i lh_0, ())) := by
  intro m
  induction m with
  | zero =>
    intro i lh_0 hm hi hc
    obtain rfl : i = l8.length := by omega
    rw [List.drop_length] at hc ⊢
    refine reach_ok env36_all env36_mix (ok91) (fun id _ => hC id) (on91_3 _ _ _ _) ?_
    rw [valTextsC_3] at hc
    generalize hy : valTexts_3 [] _ lh_0 = y
    rw [valTexts_3] at hy
    simp only [ExprT.eta, lt_dec', cond_false, Tr.val_brF]
    repeat' (first | (with_reducible refine OptOk_br (fun hsp => ?_) (fun hsp => ?_) <;> first | (rw [if_pos hsp] at hy; try rw [if_pos hsp] at hc) | (rw [if_neg (ne_t hsp)] at hy; try rw [if_neg (ne_t hsp)] at hc)) | (have hgi := guard_ite hc; with_reducible refine OptOk_chk hgi.1 ?_; replace hc := hgi.2; clear hgi) | with_reducible refine OptOk_chkT ?_)
    all_goals first | (cases hc; done) | (subst hy; first | rfl)
  | succ m IH =>
    intro i lh_0 hm hi hc
    have hlt : i < l8.length := by omega
    have IH := IH (i + 1)
    have hcast : ((i : Int) + 1) = ((i + 1 : Nat) : Int) := by omega
    have hwr := wrap_add i (by omega)
    rw [List.drop_eq_getElem_cons hlt] at hc ⊢
    refine reach_ok env36_all env36_mix (ok91) (fun id _ => hC id) (on91_3 _ _ _ _) ?_
    rw [valTextsC_3] at hc
    generalize hy : valTexts_3 (l8[i] :: l8.drop (i + 1)) (i : Int) lh_0 = y
    rw [valTexts_3] at hy
    simp only [ExprT.eta, lt_dec hlt, inB_of hlt, getD_at l8 _ hlt, hwr, cond_true, Tr.val_brT, Tr.val_chkT]
    clear hwr
    try simp only [inB_of hlt] at hy
    simp only [hcast] at hy
    try simp only [inB_of hlt] at hc
    try simp only [hcast] at hc
    repeat' (first | (with_reducible refine OptOk_br (fun hsp => ?_) (fun hsp => ?_) <;> first | (rw [if_pos hsp] at hy; try rw [if_pos hsp] at hc) | (rw [if_neg (ne_t hsp)] at hy; try rw [if_neg (ne_t hsp)] at hc)) | (have hgi := guard_ite hc; with_reducible refine OptOk_chk hgi.1 ?_; replace hc := hgi.2; clear hgi) | with_reducible refine OptOk_chkT ?_)
    all_goals first | (cases hc; done) | (subst hy; first | (change Reach _ _ _ _ _ _; apply IH <;> first | omega | assumption) | rfl)
theorem at91_3s {C : Ctx} (hC : ∀ id, C.ρ0 id = none) (l8 : List (Sem shVal)) (lh_0 : List (Sem Sh.str)) (hc : valTextsC_3 l8 0 lh_0 = true) :
    Reach (env36) C 91 (headK Tryz.f91 3) (s91_3 l8 (l8.length : Int) 0 lh_0) (fun r h => resOf h [Sh.str] r = some (valTexts_3 l8 0 lh_0, ())) :=
  Reach.len 8 (shVal) l8 rfl fun hl => at91_3 hC l8 hl _ 0 lh_0 rfl (Nat.zero_le _) hc
def valTexts (x0 : Sem shVal.sl) : Sem Sh.str :=
  (valTexts_3 x0 0 [])
def valTextsC (x0 : Sem shVal.sl) : Bool :=
  (valTextsC_3 x0 0 [])
def F91 : FSem := plainK [shVal.sl] [Sh.str] [(92, (fun x => valTextsC x.1), fun x => (valTexts x.1, ()))]
theorem FOk91 : FOk (env36).P (env36).gl 91 F91 := by
  refine FOk_plainK (ok91) fun j c g hm x hc C hC => ?_
  simp only [List.mem_singleton, Prod.mk.injEq] at hm
  obtain ⟨rfl, rfl, rfl⟩ := hm
  replace hc : valTextsC x.1 = true := hc
  unfold valTextsC at hc
  refine reach_ok env36_all env36_mix (ok91) (fun id _ => hC id) (go91 x.1) ?_
  generalize hy : valTexts x.1 = y
  unfold valTexts at hy
  try simp only [ExprT.eta]
  repeat' (first | (with_reducible refine OptOk_br (fun hsp => ?_) (fun hsp => ?_) <;> first | (rw [if_pos hsp] at hy; try rw [if_pos hsp] at hc) | (rw [if_neg (ne_t hsp)] at hy; try rw [if_neg (ne_t hsp)] at hc)) | (have hgi := guard_ite hc; with_reducible refine OptOk_chk hgi.1 ?_; replace hc := hgi.2; clear hgi) | with_reducible refine OptOk_chkT ?_)
  all_goals first | (cases hc; done) | (subst hy; first | (change Reach _ _ _ _ _ _; apply at91_3s hC <;> first | assumption | exact hc) | rfl)

noncomputable def en149 (g : Sem Sh.expr → Sem Sh.str) (c : Sem Sh.expr → Bool) : Env := env36.add 149 (plainC [Sh.expr] [Sh.str] (fun x => c x.1) fun x => (g x.1, ()))
theorem en149_all {g : Sem Sh.expr → Sem Sh.str} {c : Sem Sh.expr → Bool} (hg : FOk env36.P env36.gl 149 (plainC [Sh.expr] [Sh.str] (fun x => c x.1) fun x => (g x.1, ()))) : EnvAll (en149 g c) := env36_all.add hg
theorem en149_mix {g : Sem Sh.expr → Sem Sh.str} {c : Sem Sh.expr → Bool} : (en149 g c).P.follows .mixedOrders = true := mix_add env36_mix _ _
abbrev kp149r : Nat → Keep := fun j => { }
theorem ok149r (g : Sem Sh.expr → Sem Sh.str) (c : Sem Sh.expr → Bool) : fnChk (en149 g c).P 149 Tryz.f149 1 := by refine ⟨?_, ?_, ?_, ?_⟩ <;> kernel_rfl
theorem go149r (g : Sem Sh.expr → Sem Sh.str) (c : Sem Sh.expr → Bool) (x0 : Sem Sh.expr) : run (en149 g c) 0 kp149r (Func.results Tryz.f149).toList 400 (bodyOf Tryz.f149) (initSt (Func.ntmps Tryz.f149) [datum Sh.expr x0] []) =
  Tr.br (ExprT.op x0 == [108, 105, 116]) (Tr.chk (vTextC (ExprT.v x0)) (Tr.ok (Leaf.ret (AV.str (vText (ExprT.v x0))) [])))
  (Tr.br (ExprT.op x0 == [99, 111, 108]) (Tr.ok (Leaf.ret (AV.str (ExprT.s x0)) []))
    (Tr.br (ExprT.op x0 == [110, 111, 116])
      (Tr.chk (inB 0 (ExprT.l x0).length)
        (Tr.chk
        (c
        (ExprT.mk (ExprT.op ((ExprT.l x0).getD (Int.toNat 0) (dflt Sh.expr))) (ExprT.v ((ExprT.l x0).getD (Int.toNat 0) (dflt Sh.expr)))
        (ExprT.s ((ExprT.l x0).getD (Int.toNat 0) (dflt Sh.expr))) (ExprT.l ((ExprT.l x0).getD (Int.toNat 0) (dflt Sh.expr)))))
        (Tr.chk
        (decide
        ([40, 78, 79, 84, 32].length +
        List.length
        (g
        (ExprT.mk (ExprT.op ((ExprT.l x0).getD (Int.toNat 0) (dflt Sh.expr))) (ExprT.v ((ExprT.l x0).getD (Int.toNat 0) (dflt Sh.expr)))
        (ExprT.s ((ExprT.l x0).getD (Int.toNat 0) (dflt Sh.expr))) (ExprT.l ((ExprT.l x0).getD (Int.toNat 0) (dflt Sh.expr))))) ≤
        1099511627776))
        (Tr.chk
        (decide
        (List.length
        ([40, 78, 79, 84, 32] ++
        g
        (ExprT.mk (ExprT.op ((ExprT.l x0).getD (Int.toNat 0) (dflt Sh.expr))) (ExprT.v ((ExprT.l x0).getD (Int.toNat 0) (dflt Sh.expr)))
        (ExprT.s ((ExprT.l x0).getD (Int.toNat 0) (dflt Sh.expr))) (ExprT.l ((ExprT.l x0).getD (Int.toNat 0) (dflt Sh.expr))))) +
        [41].length ≤
        1099511627776))
        (Tr.ok
        (Leaf.ret
        (AV.str
        ([40, 78, 79, 84, 32] ++
        g
        (ExprT.mk (ExprT.op ((ExprT.l x0).getD (Int.toNat 0) (dflt Sh.expr))) (ExprT.v ((ExprT.l x0).getD (Int.toNat 0) (dflt Sh.expr)))
        (ExprT.s ((ExprT.l x0).getD (Int.toNat 0) (dflt Sh.expr))) (ExprT.l ((ExprT.l x0).getD (Int.toNat 0) (dflt Sh.expr)))) ++
        [41]))
        []))))))
      (Tr.br (ExprT.op x0 == [110, 117, 108, 108])
        (Tr.chk (inB 0 (ExprT.l x0).length)
        (Tr.chk
        (c
        (ExprT.mk (ExprT.op ((ExprT.l x0).getD (Int.toNat 0) (dflt Sh.expr))) (ExprT.v ((ExprT.l x0).getD (Int.toNat 0) (dflt Sh.expr)))
        (ExprT.s ((ExprT.l x0).getD (Int.toNat 0) (dflt Sh.expr))) (ExprT.l ((ExprT.l x0).getD (Int.toNat 0) (dflt Sh.expr)))))
        (Tr.chk
        (decide
        ([40].length +
        List.length
        (g
        (ExprT.mk (ExprT.op ((ExprT.l x0).getD (Int.toNat 0) (dflt Sh.expr))) (ExprT.v ((ExprT.l x0).getD (Int.toNat 0) (dflt Sh.expr)))
        (ExprT.s ((ExprT.l x0).getD (Int.toNat 0) (dflt Sh.expr))) (ExprT.l ((ExprT.l x0).getD (Int.toNat 0) (dflt Sh.expr))))) ≤
        1099511627776))
        (Tr.chk
        (decide
        (List.length
        ([40] ++
        g
        (ExprT.mk (ExprT.op ((ExprT.l x0).getD (Int.toNat 0) (dflt Sh.expr))) (ExprT.v ((ExprT.l x0).getD (Int.toNat 0) (dflt Sh.expr)))
        (ExprT.s ((ExprT.l x0).getD (Int.toNat 0) (dflt Sh.expr))) (ExprT.l ((ExprT.l x0).getD (Int.toNat 0) (dflt Sh.expr))))) +
        [32, 73, 83, 32, 78, 85, 76, 76, 41].length ≤
        1099511627776))
        (Tr.ok
        (Leaf.ret
        (AV.str
        ([40] ++
        g
        (ExprT.mk (ExprT.op ((ExprT.l x0).getD (Int.toNat 0) (dflt Sh.expr))) (ExprT.v ((ExprT.l x0).getD (Int.toNat 0) (dflt Sh.expr)))
        (ExprT.s ((ExprT.l x0).getD (Int.toNat 0) (dflt Sh.expr))) (ExprT.l ((ExprT.l x0).getD (Int.toNat 0) (dflt Sh.expr)))) ++
        [32, 73, 83, 32, 78, 85, 76, 76, 41]))
        []))))))
        (Tr.chk (inB 0 (ExprT.l x0).length)
        (Tr.chk
        (c
        (ExprT.mk (ExprT.op ((ExprT.l x0).getD (Int.toNat 0) (dflt Sh.expr))) (ExprT.v ((ExprT.l x0).getD (Int.toNat 0) (dflt Sh.expr)))
        (ExprT.s ((ExprT.l x0).getD (Int.toNat 0) (dflt Sh.expr))) (ExprT.l ((ExprT.l x0).getD (Int.toNat 0) (dflt Sh.expr)))))
        (Tr.chk
        (decide
        ([40].length +
        List.length
        (g
        (ExprT.mk (ExprT.op ((ExprT.l x0).getD (Int.toNat 0) (dflt Sh.expr))) (ExprT.v ((ExprT.l x0).getD (Int.toNat 0) (dflt Sh.expr)))
        (ExprT.s ((ExprT.l x0).getD (Int.toNat 0) (dflt Sh.expr))) (ExprT.l ((ExprT.l x0).getD (Int.toNat 0) (dflt Sh.expr))))) ≤
        1099511627776))
        (Tr.chk
        (decide
        (List.length
        ([40] ++
        g
        (ExprT.mk (ExprT.op ((ExprT.l x0).getD (Int.toNat 0) (dflt Sh.expr))) (ExprT.v ((ExprT.l x0).getD (Int.toNat 0) (dflt Sh.expr)))
        (ExprT.s ((ExprT.l x0).getD (Int.toNat 0) (dflt Sh.expr))) (ExprT.l ((ExprT.l x0).getD (Int.toNat 0) (dflt Sh.expr))))) +
        [32].length ≤
        1099511627776))
        (Tr.chk (decide (List.length (ExprT.op x0) ≤ 140737488355328) && List.all (ExprT.op x0) fun b => decide (b.toNat < 128))
        (Tr.chk
        (decide
        (List.length
        ([40] ++
        g
        (ExprT.mk (ExprT.op ((ExprT.l x0).getD (Int.toNat 0) (dflt Sh.expr)))
        (ExprT.v ((ExprT.l x0).getD (Int.toNat 0) (dflt Sh.expr))) (ExprT.s ((ExprT.l x0).getD (Int.toNat 0) (dflt Sh.expr)))
        (ExprT.l ((ExprT.l x0).getD (Int.toNat 0) (dflt Sh.expr)))) ++
        [32]) +
        (Lib.toUpperA (ExprT.op x0)).length ≤
        1099511627776))
        (Tr.chk
        (decide
        (List.length
        ([40] ++
        g
        (ExprT.mk (ExprT.op ((ExprT.l x0).getD (Int.toNat 0) (dflt Sh.expr)))
        (ExprT.v ((ExprT.l x0).getD (Int.toNat 0) (dflt Sh.expr))) (ExprT.s ((ExprT.l x0).getD (Int.toNat 0) (dflt Sh.expr)))
        (ExprT.l ((ExprT.l x0).getD (Int.toNat 0) (dflt Sh.expr)))) ++
        [32] ++
        Lib.toUpperA (ExprT.op x0)) +
        [32].length ≤
        1099511627776))
        (Tr.chk (inB 1 (ExprT.l x0).length)
        (Tr.chk
        (c
        (ExprT.mk (ExprT.op ((ExprT.l x0).getD (Int.toNat 1) (dflt Sh.expr))) (ExprT.v ((ExprT.l x0).getD (Int.toNat 1) (dflt Sh.expr)))
        (ExprT.s ((ExprT.l x0).getD (Int.toNat 1) (dflt Sh.expr))) (ExprT.l ((ExprT.l x0).getD (Int.toNat 1) (dflt Sh.expr)))))
        (Tr.chk
        (decide
        (List.length
        ([40] ++
        g
        (ExprT.mk (ExprT.op ((ExprT.l x0).getD (Int.toNat 0) (dflt Sh.expr)))
        (ExprT.v ((ExprT.l x0).getD (Int.toNat 0) (dflt Sh.expr)))
        (ExprT.s ((ExprT.l x0).getD (Int.toNat 0) (dflt Sh.expr)))
        (ExprT.l ((ExprT.l x0).getD (Int.toNat 0) (dflt Sh.expr)))) ++
        [32] ++
        Lib.toUpperA (ExprT.op x0) ++
        [32]) +
        List.length
        (g
        (ExprT.mk (ExprT.op ((ExprT.l x0).getD (Int.toNat 1) (dflt Sh.expr)))
        (ExprT.v ((ExprT.l x0).getD (Int.toNat 1) (dflt Sh.expr))) (ExprT.s ((ExprT.l x0).getD (Int.toNat 1) (dflt Sh.expr)))
        (ExprT.l ((ExprT.l x0).getD (Int.toNat 1) (dflt Sh.expr))))) ≤
        1099511627776))
        (Tr.chk
        (decide
        (List.length
        ([40] ++
        g
        (ExprT.mk (ExprT.op ((ExprT.l x0).getD (Int.toNat 0) (dflt Sh.expr)))
        (ExprT.v ((ExprT.l x0).getD (Int.toNat 0) (dflt Sh.expr)))
        (ExprT.s ((ExprT.l x0).getD (Int.toNat 0) (dflt Sh.expr)))
        (ExprT.l ((ExprT.l x0).getD (Int.toNat 0) (dflt Sh.expr)))) ++
        [32] ++
        Lib.toUpperA (ExprT.op x0) ++
        [32] ++
        g
        (ExprT.mk (ExprT.op ((ExprT.l x0).getD (Int.toNat 1) (dflt Sh.expr)))
        (ExprT.v ((ExprT.l x0).getD (Int.toNat 1) (dflt Sh.expr)))
        (ExprT.s ((ExprT.l x0).getD (Int.toNat 1) (dflt Sh.expr)))
        (ExprT.l ((ExprT.l x0).getD (Int.toNat 1) (dflt Sh.expr))))) +
        [41].length ≤
        1099511627776))
        (Tr.ok
        (Leaf.ret
        (AV.str
        ([40] ++
        g
        (ExprT.mk (ExprT.op ((ExprT.l x0).getD (Int.toNat 0) (dflt Sh.expr)))
        (ExprT.v ((ExprT.l x0).getD (Int.toNat 0) (dflt Sh.expr)))
        (ExprT.s ((ExprT.l x0).getD (Int.toNat 0) (dflt Sh.expr)))
        (ExprT.l ((ExprT.l x0).getD (Int.toNat 0) (dflt Sh.expr)))) ++
        [32] ++
        Lib.toUpperA (ExprT.op x0) ++
        [32] ++
        g
        (ExprT.mk (ExprT.op ((ExprT.l x0).getD (Int.toNat 1) (dflt Sh.expr)))
        (ExprT.v ((ExprT.l x0).getD (Int.toNat 1) (dflt Sh.expr)))
        (ExprT.s ((ExprT.l x0).getD (Int.toNat 1) (dflt Sh.expr)))
        (ExprT.l ((ExprT.l x0).getD (Int.toNat 1) (dflt Sh.expr)))) ++
        [41]))
        [])))))))))))))))) := by kernel_rfl
def eTextS (g : Sem Sh.expr → Sem Sh.str) (c : Sem Sh.expr → Bool) (x0 : Sem Sh.expr) : Sem Sh.str :=
  (if (ExprT.op x0 == [108, 105, 116]) = true then vText (ExprT.v x0)
else
  if (ExprT.op x0 == [99, 111, 108]) = true then ExprT.s x0
  else
    if (ExprT.op x0 == [110, 111, 116]) = true then [40, 78, 79, 84, 32] ++ g ((ExprT.l x0).getD (Int.toNat 0) (dflt Sh.expr)) ++ [41]
    else
      if (ExprT.op x0 == [110, 117, 108, 108]) = true then [40] ++ g ((ExprT.l x0).getD (Int.toNat 0) (dflt Sh.expr)) ++ [32, 73, 83, 32, 78, 85, 76, 76, 41]
      else
        [40] ++ g ((ExprT.l x0).getD (Int.toNat 0) (dflt Sh.expr)) ++ [32] ++ Lib.toUpperA (ExprT.op x0) ++ [32] ++
        g ((ExprT.l x0).getD (Int.toNat 1) (dflt Sh.expr)) ++
        [41])
def eTextSC (g : Sem Sh.expr → Sem Sh.str) (c : Sem Sh.expr → Bool) (x0 : Sem Sh.expr) : Bool :=
  (if (ExprT.op x0 == [108, 105, 116]) = true then if vTextC (ExprT.v x0) = true then true else false
else
  if (ExprT.op x0 == [99, 111, 108]) = true then true
  else
    if (ExprT.op x0 == [110, 111, 116]) = true then
      if inB 0 (ExprT.l x0).length = true then
        if c ((ExprT.l x0).getD (Int.toNat 0) (dflt Sh.expr)) = true then
        if decide ([40, 78, 79, 84, 32].length + List.length (g ((ExprT.l x0).getD (Int.toNat 0) (dflt Sh.expr))) ≤ 1099511627776) = true then
        if decide (List.length ([40, 78, 79, 84, 32] ++ g ((ExprT.l x0).getD (Int.toNat 0) (dflt Sh.expr))) + [41].length ≤ 1099511627776) = true then true
        else false
        else false
        else false
      else false
    else
      if (ExprT.op x0 == [110, 117, 108, 108]) = true then
        if inB 0 (ExprT.l x0).length = true then
        if c ((ExprT.l x0).getD (Int.toNat 0) (dflt Sh.expr)) = true then
        if decide ([40].length + List.length (g ((ExprT.l x0).getD (Int.toNat 0) (dflt Sh.expr))) ≤ 1099511627776) = true then
        if
        decide
        (List.length ([40] ++ g ((ExprT.l x0).getD (Int.toNat 0) (dflt Sh.expr))) + [32, 73, 83, 32, 78, 85, 76, 76, 41].length ≤ 1099511627776) =
        true then
        true
        else false
        else false
        else false
        else false
      else
        if inB 0 (ExprT.l x0).length = true then
        if c ((ExprT.l x0).getD (Int.toNat 0) (dflt Sh.expr)) = true then
        if decide ([40].length + List.length (g ((ExprT.l x0).getD (Int.toNat 0) (dflt Sh.expr))) ≤ 1099511627776) = true then
        if decide (List.length ([40] ++ g ((ExprT.l x0).getD (Int.toNat 0) (dflt Sh.expr))) + [32].length ≤ 1099511627776) = true then
        if (decide (List.length (ExprT.op x0) ≤ 140737488355328) && List.all (ExprT.op x0) fun b => decide (b.toNat < 128)) = true then
        if
        decide
        (List.length ([40] ++ g ((ExprT.l x0).getD (Int.toNat 0) (dflt Sh.expr)) ++ [32]) + (Lib.toUpperA (ExprT.op x0)).length ≤
        1099511627776) =
        true then
        if
        decide
        (List.length ([40] ++ g ((ExprT.l x0).getD (Int.toNat 0) (dflt Sh.expr)) ++ [32] ++ Lib.toUpperA (ExprT.op x0)) + [32].length ≤
        1099511627776) =
        true then
        if inB 1 (ExprT.l x0).length = true then
        if c ((ExprT.l x0).getD (Int.toNat 1) (dflt Sh.expr)) = true then
        if
        decide
        (List.length ([40] ++ g ((ExprT.l x0).getD (Int.toNat 0) (dflt Sh.expr)) ++ [32] ++ Lib.toUpperA (ExprT.op x0) ++ [32]) +
        List.length (g ((ExprT.l x0).getD (Int.toNat 1) (dflt Sh.expr))) ≤
        1099511627776) =
        true then
        if
        decide
        (List.length
        ([40] ++ g ((ExprT.l x0).getD (Int.toNat 0) (dflt Sh.expr)) ++ [32] ++ Lib.toUpperA (ExprT.op x0) ++ [32] ++
        g ((ExprT.l x0).getD (Int.toNat 1) (dflt Sh.expr))) +
        [41].length ≤
        1099511627776) =
        true then
        true
        else false
        else false
        else false
        else false
        else false
        else false
        else false
        else false
        else false
        else false
        else false)
def F149r (g : Sem Sh.expr → Sem Sh.str) (c : Sem Sh.expr → Bool) : FSem := plainC [Sh.expr] [Sh.str] (fun x => eTextSC g c x.1) fun x => (eTextS g c x.1, ())
theorem FOk149r (g : Sem Sh.expr → Sem Sh.str) (c : Sem Sh.expr → Bool) (hg : FOk env36.P env36.gl 149 (plainC [Sh.expr] [Sh.str] (fun x => c x.1) fun x => (g x.1, ()))) : FOk (en149 g c).P (en149 g c).gl 149 (F149r g c) := by
  refine FOk_plainC (ok149r g c) fun x hc C hC => ?_
  unfold eTextSC at hc
  refine reach_ok (en149_all hg) en149_mix (ok149r g c) (fun id _ => hC id) (go149r g c x.1) ?_
  generalize hy : eTextS g c x.1 = y
  unfold eTextS at hy
  try simp only [ExprT.eta]
  repeat' (first | (with_reducible refine OptOk_br (fun hsp => ?_) (fun hsp => ?_) <;> first | (rw [if_pos hsp] at hy; try rw [if_pos hsp] at hc) | (rw [if_neg (ne_t hsp)] at hy; try rw [if_neg (ne_t hsp)] at hc)) | (have hgi := guard_ite hc; with_reducible refine OptOk_chk hgi.1 ?_; replace hc := hgi.2; clear hgi) | with_reducible refine OptOk_chkT ?_)
  all_goals first | (cases hc; done) | (subst hy; first | rfl)
mutual
def eTextN : Nat → Sem Sh.expr → Sem Sh.str
  | 0 => fun _ => default
  | n + 1 => eTextS (eTextN n) (eTextCN n)
def eTextCN : Nat → Sem Sh.expr → Bool
  | 0 => fun _ => false
  | n + 1 => eTextSC (eTextN n) (eTextCN n)
end
theorem FOk149N : ∀ n, FOk env36.P env36.gl 149 (plainC [Sh.expr] [Sh.str] (fun x => eTextCN n x.1) fun x => (eTextN n x.1, ()))
  | 0 => FOk_none ⟨Tryz.f149, (ok149r default default).1, (ok149r default default).2.1, (ok149r default default).2.2.1⟩ (fun _ => rfl)
  | n + 1 => FOk149r (eTextN n) (eTextCN n) (FOk149N n)
def F149 : FSem := plainC [Sh.expr] [Sh.str] (fun x => eTextCN 16 x.1) fun x => (eTextN 16 x.1, ())
theorem FOk149 : FOk env36.P env36.gl 149 F149 := FOk149N 16

noncomputable def env37 : Env := (((((((env36.add 134 F134).add 136 F136).add 115 F115).add 110 F110).add 112 F112).add 91 F91).add 149 F149)
theorem env37_all : EnvAll env37 := (EnvAll.addS (EnvAll.addS (EnvAll.addS (EnvAll.addS (EnvAll.addS (EnvAll.addS (EnvAll.addS env36_all (SameE.refl env36) FOk134) ((SameE.refl env36).add _ _) FOk136) (((SameE.refl env36).add _ _).add _ _) FOk115) ((((SameE.refl env36).add _ _).add _ _).add _ _) FOk110) (((((SameE.refl env36).add _ _).add _ _).add _ _).add _ _) FOk112) ((((((SameE.refl env36).add _ _).add _ _).add _ _).add _ _).add _ _) FOk91) (((((((SameE.refl env36).add _ _).add _ _).add _ _).add _ _).add _ _).add _ _) FOk149)
theorem env37_mix : env37.P.follows .mixedOrders = true := (mix_add (mix_add (mix_add (mix_add (mix_add (mix_add (mix_add env36_mix _ _) _ _) _ _) _ _) _ _) _ _) _ _)
end Cad

namespace Cad
open Go Go.Proofs

abbrev s27b_134  (l : List (Sem shCol)) (i : Int) : St := { tmps := [.sl shCol l, .clo (.func 134) [] [.ptr 0 0], .any, .any, .any, .any, .any, .int .i64 l.length, .int .i64 i, .any, .any, .any, .any, .any, .any, .any, .any, .any, .any], heap := [.box [.clo (.func 105) [] []]] }
theorem go27b_134  (l : List (Sem shCol)) : run env37 1 kpIx Tryz.f27.results.toList 300 (bodyOf Tryz.f27) (initSt Tryz.f27.ntmps [.sl shCol l, .clo (.func 134) [] [.ptr 0 0]] [.box [.clo (.func 105) [] []]]) = .ok (.head 2 (headK Tryz.f27 2) (s27b_134  l 0)) := by kernel_rfl
theorem on27b_134  (l : List (Sem shCol)) (i : Int) : run env37 1 kpIx Tryz.f27.results.toList 300 (headK Tryz.f27 2) (s27b_134  l i) = ixTree (K := headK Tryz.f27 2) (e := shCol) l (fun x => !colOk x) (s27b_134  l) [.box [.clo (.func 105) [] []]] i := by kernel_rfl

theorem ok27b : fnChk env37.P 27 Tryz.f27 2 := by refine ⟨?_, ?_, ?_, ?_⟩ <;> kernel_rfl
def G27b : GSem [some (.sl shCol), none] := fun x h => match x, h with
  | (l, .clo (.func 134) [] [.ptr 0 0], _), [.box [.clo (.func 105) [] []]] => .ok (.int .i64 (ixFrom (fun x => !colOk x) l 0), [.box [.clo (.func 105) [] []]])
  | _, _ => .err
def F27b : FSem := liftF [some (.sl shCol), none] G27b
theorem FOk27b : FOk env37.P env37.gl 27 F27b := by
  refine FOk_of ok27b fun x h0 res hx C hC => ?_
  unfold G27b at hx
  split at hx
  · rename_i l u
    simp only [Tr.val_ok, Option.some.injEq] at hx
    subst hx
    refine Reach.len 0 shCol l rfl fun hl => ?_
    refine reach_ok (n0 := 1) env37_all env37_mix ok27b hC (go27b_134  l) ?_
    exact reach_ixf l (fun x => !colOk x) (s27b_134  l) env37_all env37_mix ok27b hC (on27b_134  l) hl _ 0 rfl (Nat.zero_le _)
  · simp at hx

abbrev s152_136  (l : List (Sem shRef)) (i : Int) : St := { tmps := [.sl shRef l, .clo (.func 136) [] [.ptr 0 0], .any, .any, .any, .any, .any, .int .i64 l.length, .int .i64 i, .any, .any, .any, .any, .any, .any, .any, .any, .any, .any], heap := [.box [.clo (.func 106) [] []]] }
theorem go152_136  (l : List (Sem shRef)) : run env37 1 kpIx Tryz.f152.results.toList 300 (bodyOf Tryz.f152) (initSt Tryz.f152.ntmps [.sl shRef l, .clo (.func 136) [] [.ptr 0 0]] [.box [.clo (.func 106) [] []]]) = .ok (.head 2 (headK Tryz.f152 2) (s152_136  l 0)) := by kernel_rfl
theorem on152_136  (l : List (Sem shRef)) (i : Int) : run env37 1 kpIx Tryz.f152.results.toList 300 (headK Tryz.f152 2) (s152_136  l i) = ixTree (K := headK Tryz.f152 2) (e := shRef) l (fun x => !refOk x) (s152_136  l) [.box [.clo (.func 106) [] []]] i := by kernel_rfl

theorem ok152 : fnChk env37.P 152 Tryz.f152 2 := by refine ⟨?_, ?_, ?_, ?_⟩ <;> kernel_rfl
def G152 : GSem [some (.sl shRef), none] := fun x h => match x, h with
  | (l, .clo (.func 136) [] [.ptr 0 0], _), [.box [.clo (.func 106) [] []]] => .ok (.int .i64 (ixFrom (fun x => !refOk x) l 0), [.box [.clo (.func 106) [] []]])
  | _, _ => .err
def F152 : FSem := liftF [some (.sl shRef), none] G152
theorem FOk152 : FOk env37.P env37.gl 152 F152 := by
  refine FOk_of ok152 fun x h0 res hx C hC => ?_
  unfold G152 at hx
  split at hx
  · rename_i l u
    simp only [Tr.val_ok, Option.some.injEq] at hx
    subst hx
    refine Reach.len 0 shRef l rfl fun hl => ?_
    refine reach_ok (n0 := 1) env37_all env37_mix ok152 hC (go152_136  l) ?_
    exact reach_ixf l (fun x => !refOk x) (s152_136  l) env37_all env37_mix ok152 hC (on152_136  l) hl _ 0 rfl (Nat.zero_le _)
  · simp at hx

abbrev s139_115  (l : List (Sem Sh.str)) (i : Int) : St := { tmps := [.sl Sh.str l, .clo (.func 115) [] [.ptr 0 0], .any, .any, .any, .any, .any, .int .i64 l.length, .int .i64 i, .any, .any, .any, .any, .any, .any, .any, .any, .any, .any], heap := [.box [.clo (.func 80) [] []]] }
theorem go139_115  (l : List (Sem Sh.str)) : run env37 1 kpIx Tryz.f139.results.toList 300 (bodyOf Tryz.f139) (initSt Tryz.f139.ntmps [.sl Sh.str l, .clo (.func 115) [] [.ptr 0 0]] [.box [.clo (.func 80) [] []]]) = .ok (.head 2 (headK Tryz.f139 2) (s139_115  l 0)) := by kernel_rfl
theorem on139_115  (l : List (Sem Sh.str)) (i : Int) : run env37 1 kpIx Tryz.f139.results.toList 300 (headK Tryz.f139 2) (s139_115  l i) = ixTree (K := headK Tryz.f139 2) (e := Sh.str) l (fun x => !sName x) (s139_115  l) [.box [.clo (.func 80) [] []]] i := by kernel_rfl

theorem ok139 : fnChk env37.P 139 Tryz.f139 2 := by refine ⟨?_, ?_, ?_, ?_⟩ <;> kernel_rfl
def G139 : GSem [some (.sl Sh.str), none] := fun x h => match x, h with
  | (l, .clo (.func 115) [] [.ptr 0 0], _), [.box [.clo (.func 80) [] []]] => .ok (.int .i64 (ixFrom (fun x => !sName x) l 0), [.box [.clo (.func 80) [] []]])
  | _, _ => .err
def F139 : FSem := liftF [some (.sl Sh.str), none] G139
theorem FOk139 : FOk env37.P env37.gl 139 F139 := by
  refine FOk_of ok139 fun x h0 res hx C hC => ?_
  unfold G139 at hx
  split at hx
  · rename_i l u
    simp only [Tr.val_ok, Option.some.injEq] at hx
    subst hx
    refine Reach.len 0 Sh.str l rfl fun hl => ?_
    refine reach_ok (n0 := 1) env37_all env37_mix ok139 hC (go139_115  l) ?_
    exact reach_ixf l (fun x => !sName x) (s139_115  l) env37_all env37_mix ok139 hC (on139_115  l) hl _ 0 rfl (Nat.zero_le _)
  · simp at hx

abbrev s137_110  (l : List (Sem shVal)) (i : Int) : St := { tmps := [.sl shVal l, .clo (.func 110) [] [.ptr 0 0], .any, .any, .any, .any, .any, .int .i64 l.length, .int .i64 i, .any, .any, .any, .any, .any, .any, .any, .any, .any, .any], heap := [.box [.clo (.func 21) [] []]] }
theorem go137_110  (l : List (Sem shVal)) : run env37 1 kpIx Tryz.f137.results.toList 300 (bodyOf Tryz.f137) (initSt Tryz.f137.ntmps [.sl shVal l, .clo (.func 110) [] [.ptr 0 0]] [.box [.clo (.func 21) [] []]]) = .ok (.head 2 (headK Tryz.f137 2) (s137_110  l 0)) := by kernel_rfl
theorem on137_110  (l : List (Sem shVal)) (i : Int) : run env37 1 kpIx Tryz.f137.results.toList 300 (headK Tryz.f137 2) (s137_110  l i) = ixTree (K := headK Tryz.f137 2) (e := shVal) l (fun x => !vMay x) (s137_110  l) [.box [.clo (.func 21) [] []]] i := by kernel_rfl

theorem ok137 : fnChk env37.P 137 Tryz.f137 2 := by refine ⟨?_, ?_, ?_, ?_⟩ <;> kernel_rfl
def G137 : GSem [some (.sl shVal), none] := fun x h => match x, h with
  | (l, .clo (.func 110) [] [.ptr 0 0], _), [.box [.clo (.func 21) [] []]] => .ok (.int .i64 (ixFrom (fun x => !vMay x) l 0), [.box [.clo (.func 21) [] []]])
  | _, _ => .err
def F137 : FSem := liftF [some (.sl shVal), none] G137
theorem FOk137 : FOk env37.P env37.gl 137 F137 := by
  refine FOk_of ok137 fun x h0 res hx C hC => ?_
  unfold G137 at hx
  split at hx
  · rename_i l u
    simp only [Tr.val_ok, Option.some.injEq] at hx
    subst hx
    refine Reach.len 0 shVal l rfl fun hl => ?_
    refine reach_ok (n0 := 1) env37_all env37_mix ok137 hC (go137_110  l) ?_
    exact reach_ixf l (fun x => !vMay x) (s137_110  l) env37_all env37_mix ok137 hC (on137_110  l) hl _ 0 rfl (Nat.zero_le _)
  · simp at hx

abbrev s138_112  (l : List (Sem shSet)) (i : Int) : St := { tmps := [.sl shSet l, .clo (.func 112) [] [.ptr 0 0], .any, .any, .any, .any, .any, .int .i64 l.length, .int .i64 i, .any, .any, .any, .any, .any, .any, .any, .any, .any, .any], heap := [.box [.clo (.func 83) [] []]] }
theorem go138_112  (l : List (Sem shSet)) : run env37 1 kpIx Tryz.f138.results.toList 300 (bodyOf Tryz.f138) (initSt Tryz.f138.ntmps [.sl shSet l, .clo (.func 112) [] [.ptr 0 0]] [.box [.clo (.func 83) [] []]]) = .ok (.head 2 (headK Tryz.f138 2) (s138_112  l 0)) := by kernel_rfl
theorem on138_112  (l : List (Sem shSet)) (i : Int) : run env37 1 kpIx Tryz.f138.results.toList 300 (headK Tryz.f138 2) (s138_112  l i) = ixTree (K := headK Tryz.f138 2) (e := shSet) l (fun x => !setOk x) (s138_112  l) [.box [.clo (.func 83) [] []]] i := by kernel_rfl

theorem ok138 : fnChk env37.P 138 Tryz.f138 2 := by refine ⟨?_, ?_, ?_, ?_⟩ <;> kernel_rfl
def G138 : GSem [some (.sl shSet), none] := fun x h => match x, h with
  | (l, .clo (.func 112) [] [.ptr 0 0], _), [.box [.clo (.func 83) [] []]] => .ok (.int .i64 (ixFrom (fun x => !setOk x) l 0), [.box [.clo (.func 83) [] []]])
  | _, _ => .err
def F138 : FSem := liftF [some (.sl shSet), none] G138
theorem FOk138 : FOk env37.P env37.gl 138 F138 := by
  refine FOk_of ok138 fun x h0 res hx C hC => ?_
  unfold G138 at hx
  split at hx
  · rename_i l u
    simp only [Tr.val_ok, Option.some.injEq] at hx
    subst hx
    refine Reach.len 0 shSet l rfl fun hl => ?_
    refine reach_ok (n0 := 1) env37_all env37_mix ok138 hC (go138_112  l) ?_
    exact reach_ixf l (fun x => !setOk x) (s138_112  l) env37_all env37_mix ok138 hC (on138_112  l) hl _ 0 rfl (Nat.zero_le _)
  · simp at hx

abbrev kp127 : Nat → Keep := fun j => { }
theorem ok127 : fnChk (env37).P 127 Tryz.f127 1 := by refine ⟨?_, ?_, ?_, ?_⟩ <;> kernel_rfl
theorem go127 (x0 : Sem Sh.expr) : run (env37) 0 kp127 (Func.results Tryz.f127).toList 400 (bodyOf Tryz.f127) (initSt (Func.ntmps Tryz.f127) [datum Sh.expr x0] []) =
  Tr.br (!eMay (ExprT.mk (ExprT.op x0) (ExprT.v x0) (ExprT.s x0) (ExprT.l x0))) (Tr.ok (Leaf.ret (AV.tup [AV.str [], AV.int IntKind.i64 1]) []))
  (Tr.chk (eTextCN 16 (ExprT.mk (ExprT.op x0) (ExprT.v x0) (ExprT.s x0) (ExprT.l x0)))
    (Tr.ok (Leaf.ret (AV.tup [AV.str (eTextN 16 (ExprT.mk (ExprT.op x0) (ExprT.v x0) (ExprT.s x0) (ExprT.l x0))), AV.int IntKind.i64 0]) []))) := by kernel_rfl
def exText (x0 : Sem Sh.expr) : Sem Sh.str × Sem shInt :=
  (if (!eMay x0) = true then ([], 1) else (eTextN 16 x0, 0))
def exTextC (x0 : Sem Sh.expr) : Bool :=
  (if (!eMay x0) = true then true else if eTextCN 16 x0 = true then true else false)
def F127 : FSem := plainC [Sh.expr] [Sh.str, shInt] (fun x => exTextC x.1) fun x => ((exText x.1).1, (exText x.1).2, ())
theorem FOk127 : FOk (env37).P (env37).gl 127 F127 := by
  refine FOk_plainC (ok127) fun x hc C hC => ?_
  unfold exTextC at hc
  refine reach_ok env37_all env37_mix (ok127) (fun id _ => hC id) (go127 x.1) ?_
  generalize hy : exText x.1 = y
  unfold exText at hy
  try simp only [ExprT.eta]
  repeat' (first | (with_reducible refine OptOk_br (fun hsp => ?_) (fun hsp => ?_) <;> first | (rw [if_pos hsp] at hy; try rw [if_pos hsp] at hc) | (rw [if_neg (ne_t hsp)] at hy; try rw [if_neg (ne_t hsp)] at hc)) | (have hgi := guard_ite hc; with_reducible refine OptOk_chk hgi.1 ?_; replace hc := hgi.2; clear hgi) | with_reducible refine OptOk_chkT ?_)
  all_goals first | (cases hc; done) | (subst hy; first | rfl)

abbrev kp69 : Nat → Keep := fun j => if j = 3 then { slots := [0, 4, 5], prom := [(4, none, shTok)] } else { }
abbrev s69_3 (s0 : Sem Sh.str) (i5 : Int) (lh_0 : List (Sem shFor)) : St := {
  tmps :=
    [AV.str s0, AV.any, AV.any, AV.any, AV.vec 0, AV.int IntKind.i64 i5, AV.any, AV.any, AV.any, AV.any, AV.any, AV.any, AV.any, AV.any, AV.any, AV.any, AV.any,
      AV.any, AV.any, AV.any, AV.any, AV.any, AV.any, AV.any, AV.any, AV.any, AV.any, AV.any, AV.any, AV.any, AV.any, AV.any, AV.any, AV.any, AV.any, AV.any,
      AV.any, AV.any, AV.any, AV.any, AV.any, AV.any, AV.any, AV.any, AV.any, AV.any, AV.any],
  heap := [AO.vec shFor lh_0] }
theorem ok69 : fnChk (env37).P 69 Tryz.f69 1 := by refine ⟨?_, ?_, ?_, ?_⟩ <;> kernel_rfl
theorem go69 (x0 : Sem Sh.str) : run (env37) 0 kp69 (Func.results Tryz.f69).toList 400 (bodyOf Tryz.f69) (initSt (Func.ntmps Tryz.f69) [datum Sh.str x0] []) =
  Tr.ok (Leaf.head 3 (headK Tryz.f69 3) (s69_3 x0 0 [])) := by kernel_rfl
theorem on69_3 (s0 : Sem Sh.str) (i5 : Int) (lh_0 : List (Sem shFor)) : run (env37) 0 kp69 (Func.results Tryz.f69).toList 400 (headK Tryz.f69 3) (s69_3 s0 i5 lh_0) =
  Tr.br (decide (i5 < (↑(List.length s0) : Int)))
  (Tr.chk (inB i5 (List.length s0) && bif (↑(List.getD s0 i5.toNat 0).toNat : Int) == 32 then true else inB i5 (List.length s0))
    (Tr.br (bif (↑(List.getD s0 i5.toNat 0).toNat : Int) == 32 then true else (↑(List.getD s0 i5.toNat 0).toNat : Int) == 10)
      (Tr.ok (Leaf.head 3 (headK Tryz.f69 3) (s69_3 s0 (IntKind.i64.wrap (i5 + 1)) lh_0)))
      (Tr.chk (decide (0 ≤ i5) && decide (i5 ≤ (↑(List.length s0) : Int)) && decide ((↑(List.length s0) : Int) ≤ (↑(List.length s0) : Int)))
        (Tr.chk (tokFirstC (List.take ((↑(List.length s0) : Int).toNat - i5.toNat) (List.drop i5.toNat s0)))
        (Tr.chk (tokMayC (tokFirst (List.take ((↑(List.length s0) : Int).toNat - i5.toNat) (List.drop i5.toNat s0))).fst)
        (Tr.br
        (bif !tokMay (tokFirst (List.take ((↑(List.length s0) : Int).toNat - i5.toNat) (List.drop i5.toNat s0))).fst then true
        else (↑lh_0.length : Int) == 400)
        (Tr.ok (Leaf.ret (AV.tup [AV.nils, AV.int IntKind.i64 2]) []))
        (Tr.chk
        (decide (lh_0.length + [(tokFirst (List.take ((↑(List.length s0) : Int).toNat - i5.toNat) (List.drop i5.toNat s0))).fst].length ≤ 1073741824))
        (Tr.ok
        (Leaf.head 3 (headK Tryz.f69 3)
        (s69_3 s0 (IntKind.i64.wrap (i5 + (tokFirst (List.take ((↑(List.length s0) : Int).toNat - i5.toNat) (List.drop i5.toNat s0))).snd))
        (lh_0 ++ [(tokFirst (List.take ((↑(List.length s0) : Int).toNat - i5.toNat) (List.drop i5.toNat s0))).fst])))))))))))
  (Tr.ok (Leaf.ret (AV.tup [AV.vec 0, AV.int IntKind.i64 0]) [AO.vec shFor lh_0])) := by kernel_rfl
def cut_3 : Nat → (Sem Sh.str) → Int → (List (Sem shFor)) → Sem shTok.sl × Sem shInt
  | 0, _, _, _ => default
  | n + 1, s0, i5, lh_0 => (if decide (i5 < (↑(List.length s0) : Int)) = true then
  if (bif (↑(List.getD s0 i5.toNat 0).toNat : Int) == 32 then true else (↑(List.getD s0 i5.toNat 0).toNat : Int) == 10) = true then
    cut_3 n s0 (IntKind.i64.wrap (i5 + 1)) lh_0
  else
    if
        (bif !tokMay (tokFirst (List.take ((↑(List.length s0) : Int).toNat - i5.toNat) (List.drop i5.toNat s0))).fst then true
        else (↑lh_0.length : Int) == 400) =
        true then
      ([], 2)
    else
      cut_3 n s0 (IntKind.i64.wrap (i5 + (tokFirst (List.take ((↑(List.length s0) : Int).toNat - i5.toNat) (List.drop i5.toNat s0))).snd))
        (lh_0 ++ [(tokFirst (List.take ((↑(List.length s0) : Int).toNat - i5.toNat) (List.drop i5.toNat s0))).fst])
else (lh_0, 0))
def cutC_3 : Nat → (Sem Sh.str) → Int → (List (Sem shFor)) → Bool
  | 0, _, _, _ => false
  | n + 1, s0, i5, lh_0 => (if decide (i5 < (↑(List.length s0) : Int)) = true then
  if (inB i5 (List.length s0) && bif (↑(List.getD s0 i5.toNat 0).toNat : Int) == 32 then true else inB i5 (List.length s0)) = true then
    if (bif (↑(List.getD s0 i5.toNat 0).toNat : Int) == 32 then true else (↑(List.getD s0 i5.toNat 0).toNat : Int) == 10) = true then
      cutC_3 n s0 (IntKind.i64.wrap (i5 + 1)) lh_0
    else
      if (decide (0 ≤ i5) && decide (i5 ≤ (↑(List.length s0) : Int)) && decide ((↑(List.length s0) : Int) ≤ (↑(List.length s0) : Int))) = true then
        if tokFirstC (List.take ((↑(List.length s0) : Int).toNat - i5.toNat) (List.drop i5.toNat s0)) = true then
        if tokMayC (tokFirst (List.take ((↑(List.length s0) : Int).toNat - i5.toNat) (List.drop i5.toNat s0))).fst = true then
        if
        (bif !tokMay (tokFirst (List.take ((↑(List.length s0) : Int).toNat - i5.toNat) (List.drop i5.toNat s0))).fst then true
        else (↑lh_0.length : Int) == 400) =
        true then
        true
        else
        if
        decide (lh_0.length + [(tokFirst (List.take ((↑(List.length s0) : Int).toNat - i5.toNat) (List.drop i5.toNat s0))).fst].length ≤ 1073741824) =
        true then
        cutC_3 n s0 (IntKind.i64.wrap (i5 + (tokFirst (List.take ((↑(List.length s0) : Int).toNat - i5.toNat) (List.drop i5.toNat s0))).snd))
        (lh_0 ++ [(tokFirst (List.take ((↑(List.length s0) : Int).toNat - i5.toNat) (List.drop i5.toNat s0))).fst])
        else false
        else false
        else false
      else false
  else false
else true)
theorem at69_3 {C : Ctx} (hC : ∀ id, C.ρ0 id = none) : ∀ (n : Nat) (s0 : Sem Sh.str) (i5 : Int) (lh_0 : List (Sem shFor)), cutC_3 n s0 i5 lh_0 = true →
    Reach (env37) C 69 (headK Tryz.f69 3) (s69_3 s0 i5 lh_0) (fun r h => resOf h [shTok.sl, shInt] r = some ((cut_3 n s0 i5 lh_0).1, (cut_3 n s0 i5 lh_0).2, ()))
  | 0, s0, i5, lh_0, hc => by cases hc
  | n + 1, s0, i5, lh_0, hc => by
    refine reach_ok env37_all env37_mix (ok69) (fun id _ => hC id) (on69_3 _ _ _) ?_
    rw [cutC_3] at hc
    generalize hy : cut_3 (n + 1) s0 i5 lh_0 = y
    rw [cut_3] at hy
    try simp only [ExprT.eta]
    repeat' (first | (with_reducible refine OptOk_br (fun hsp => ?_) (fun hsp => ?_) <;> first | (rw [if_pos hsp] at hy; try rw [if_pos hsp] at hc) | (rw [if_neg (ne_t hsp)] at hy; try rw [if_neg (ne_t hsp)] at hc)) | (have hgi := guard_ite hc; with_reducible refine OptOk_chk hgi.1 ?_; replace hc := hgi.2; clear hgi) | with_reducible refine OptOk_chkT ?_)
    all_goals first | (cases hc; done) | (subst hy; first | (change Reach _ _ _ _ _ _; refine at69_3 hC n _ _ _ ?_ <;> exact hc) | rfl)
def cut (x0 : Sem Sh.str) : Sem shTok.sl × Sem shInt :=
  (cut_3 (List.length x0 + 1) x0 0 [])
def cutC (x0 : Sem Sh.str) : Bool :=
  (cutC_3 (List.length x0 + 1) x0 0 [])
def F69 : FSem := plainC [Sh.str] [shTok.sl, shInt] (fun x => cutC x.1) fun x => ((cut x.1).1, (cut x.1).2, ())
theorem FOk69 : FOk (env37).P (env37).gl 69 F69 := by
  refine FOk_plainC (ok69) fun x hc C hC => ?_
  unfold cutC at hc
  refine reach_ok env37_all env37_mix (ok69) (fun id _ => hC id) (go69 x.1) ?_
  generalize hy : cut x.1 = y
  unfold cut at hy
  try simp only [ExprT.eta]
  repeat' (first | (with_reducible refine OptOk_br (fun hsp => ?_) (fun hsp => ?_) <;> first | (rw [if_pos hsp] at hy; try rw [if_pos hsp] at hc) | (rw [if_neg (ne_t hsp)] at hy; try rw [if_neg (ne_t hsp)] at hc)) | (have hgi := guard_ite hc; with_reducible refine OptOk_chk hgi.1 ?_; replace hc := hgi.2; clear hgi) | with_reducible refine OptOk_chkT ?_)
  all_goals first | (cases hc; done) | (subst hy; first | (change Reach _ _ _ _ _ _; refine at69_3 hC _ _ _ _ ?_ <;> exact hc) | rfl)

noncomputable def env38 : Env := (((((((env37.add 27 F27b).add 152 F152).add 139 F139).add 137 F137).add 138 F138).add 127 F127).add 69 F69)
theorem env38_all : EnvAll env38 := (EnvAll.addS (EnvAll.addS (EnvAll.addS (EnvAll.addS (EnvAll.addS (EnvAll.addS (EnvAll.addS env37_all (SameE.refl env37) FOk27b) ((SameE.refl env37).add _ _) FOk152) (((SameE.refl env37).add _ _).add _ _) FOk139) ((((SameE.refl env37).add _ _).add _ _).add _ _) FOk137) (((((SameE.refl env37).add _ _).add _ _).add _ _).add _ _) FOk138) ((((((SameE.refl env37).add _ _).add _ _).add _ _).add _ _).add _ _) FOk127) (((((((SameE.refl env37).add _ _).add _ _).add _ _).add _ _).add _ _).add _ _) FOk69)
theorem env38_mix : env38.P.follows .mixedOrders = true := (mix_add (mix_add (mix_add (mix_add (mix_add (mix_add (mix_add env37_mix _ _) _ _) _ _) _ _) _ _) _ _) _ _)
end Cad

namespace Cad
open Go Go.Proofs

noncomputable def F133 : FSem := liftF (List.replicate 2 none) (autoG env38 Tryz.f133 (List.replicate 2 none))
theorem FOk133 : FOk env38.P env38.gl 133 F133 := FOk_auto _ env38_all env38_mix (by refine ⟨?_, ?_, ?_, ?_⟩ <;> kernel_rfl)

noncomputable def F135 : FSem := liftF (List.replicate 2 none) (autoG env38 Tryz.f135 (List.replicate 2 none))
theorem FOk135 : FOk env38.P env38.gl 135 F135 := FOk_auto _ env38_all env38_mix (by refine ⟨?_, ?_, ?_, ?_⟩ <;> kernel_rfl)

noncomputable def F114 : FSem := liftF (List.replicate 2 none) (autoG env38 Tryz.f114 (List.replicate 2 none))
theorem FOk114 : FOk env38.P env38.gl 114 F114 := FOk_auto _ env38_all env38_mix (by refine ⟨?_, ?_, ?_, ?_⟩ <;> kernel_rfl)

noncomputable def F109 : FSem := liftF (List.replicate 2 none) (autoG env38 Tryz.f109 (List.replicate 2 none))
theorem FOk109 : FOk env38.P env38.gl 109 F109 := FOk_auto _ env38_all env38_mix (by refine ⟨?_, ?_, ?_, ?_⟩ <;> kernel_rfl)

noncomputable def F111 : FSem := liftF (List.replicate 2 none) (autoG env38 Tryz.f111 (List.replicate 2 none))
theorem FOk111 : FOk env38.P env38.gl 111 F111 := FOk_auto _ env38_all env38_mix (by refine ⟨?_, ?_, ?_, ?_⟩ <;> kernel_rfl)

abbrev kp94 : Nat → Keep := fun j => { }
theorem ok94 : fnChk (env38).P 94 Tryz.f94 1 := by refine ⟨?_, ?_, ?_, ?_⟩ <;> kernel_rfl
theorem go94 (x0 : Sem Sh.expr) : run (env38) 0 kp94 (Func.results Tryz.f94).toList 400 (bodyOf Tryz.f94) (initSt (Func.ntmps Tryz.f94) [datum Sh.expr x0] []) =
  Tr.chk (exTextC (ExprT.mk (ExprT.op x0) (ExprT.v x0) (ExprT.s x0) (ExprT.l x0)))
  (Tr.ok (Leaf.ret (AV.str (exText (ExprT.mk (ExprT.op x0) (ExprT.v x0) (ExprT.s x0) (ExprT.l x0))).fst) [])) := by kernel_rfl
def written (x0 : Sem Sh.expr) : Sem Sh.str :=
  ((exText x0).fst)
def writtenC (x0 : Sem Sh.expr) : Bool :=
  (if exTextC x0 = true then true else false)
def F94 : FSem := plainC [Sh.expr] [Sh.str] (fun x => writtenC x.1) fun x => (written x.1, ())
theorem FOk94 : FOk (env38).P (env38).gl 94 F94 := by
  refine FOk_plainC (ok94) fun x hc C hC => ?_
  unfold writtenC at hc
  refine reach_ok env38_all env38_mix (ok94) (fun id _ => hC id) (go94 x.1) ?_
  generalize hy : written x.1 = y
  unfold written at hy
  try simp only [ExprT.eta]
  repeat' (first | (with_reducible refine OptOk_br (fun hsp => ?_) (fun hsp => ?_) <;> first | (rw [if_pos hsp] at hy; try rw [if_pos hsp] at hc) | (rw [if_neg (ne_t hsp)] at hy; try rw [if_neg (ne_t hsp)] at hc)) | (have hgi := guard_ite hc; with_reducible refine OptOk_chk hgi.1 ?_; replace hc := hgi.2; clear hgi) | with_reducible refine OptOk_chkT ?_)
  all_goals first | (cases hc; done) | (subst hy; first | rfl)

noncomputable def env39 : Env := ((((((env38.add 133 F133).add 135 F135).add 114 F114).add 109 F109).add 111 F111).add 94 F94)
theorem env39_all : EnvAll env39 := (EnvAll.addS (EnvAll.addS (EnvAll.addS (EnvAll.addS (EnvAll.addS (EnvAll.addS env38_all (SameE.refl env38) FOk133) ((SameE.refl env38).add _ _) FOk135) (((SameE.refl env38).add _ _).add _ _) FOk114) ((((SameE.refl env38).add _ _).add _ _).add _ _) FOk109) (((((SameE.refl env38).add _ _).add _ _).add _ _).add _ _) FOk111) ((((((SameE.refl env38).add _ _).add _ _).add _ _).add _ _).add _ _) FOk94)
theorem env39_mix : env39.P.follows .mixedOrders = true := (mix_add (mix_add (mix_add (mix_add (mix_add (mix_add env38_mix _ _) _ _) _ _) _ _) _ _) _ _)
end Cad

namespace Cad
open Go Go.Proofs

noncomputable def F107 : FSem := liftF (List.replicate 4 none) (autoG env39 Tryz.f107 (List.replicate 4 none))
theorem FOk107 : FOk env39.P env39.gl 107 F107 := FOk_auto _ env39_all env39_mix (by refine ⟨?_, ?_, ?_, ?_⟩ <;> kernel_rfl)

noncomputable def F108 : FSem := liftF (List.replicate 4 none) (autoG env39 Tryz.f108 (List.replicate 4 none))
theorem FOk108 : FOk env39.P env39.gl 108 F108 := FOk_auto _ env39_all env39_mix (by refine ⟨?_, ?_, ?_, ?_⟩ <;> kernel_rfl)

noncomputable def F86 : FSem := liftF (List.replicate 4 none) (autoG env39 Tryz.f86 (List.replicate 4 none))
theorem FOk86 : FOk env39.P env39.gl 86 F86 := FOk_auto _ env39_all env39_mix (by refine ⟨?_, ?_, ?_, ?_⟩ <;> kernel_rfl)

noncomputable def F82 : FSem := liftF (List.replicate 4 none) (autoG env39 Tryz.f82 (List.replicate 4 none))
theorem FOk82 : FOk env39.P env39.gl 82 F82 := FOk_auto _ env39_all env39_mix (by refine ⟨?_, ?_, ?_, ?_⟩ <;> kernel_rfl)

noncomputable def F84 : FSem := liftF (List.replicate 4 none) (autoG env39 Tryz.f84 (List.replicate 4 none))
theorem FOk84 : FOk env39.P env39.gl 84 F84 := FOk_auto _ env39_all env39_mix (by refine ⟨?_, ?_, ?_, ?_⟩ <;> kernel_rfl)

abbrev kp96 : Nat → Keep := fun j => { }
theorem ok96 : fnChk (env39).P 96 Tryz.f96 1 := by refine ⟨?_, ?_, ?_, ?_⟩ <;> kernel_rfl
theorem go96 (x0 : Sem Sh.expr) : run (env39) 0 kp96 (Func.results Tryz.f96).toList 400 (bodyOf Tryz.f96) (initSt (Func.ntmps Tryz.f96) [datum Sh.expr x0] []) =
  Tr.br (eNone (ExprT.mk (ExprT.op x0) (ExprT.v x0) (ExprT.s x0) (ExprT.l x0))) (Tr.ok (Leaf.ret (AV.str []) []))
  (Tr.chk (writtenC (ExprT.mk (ExprT.op x0) (ExprT.v x0) (ExprT.s x0) (ExprT.l x0)))
    (Tr.chk
      (decide ([32, 87, 72, 69, 82, 69, 32].length + List.length (written (ExprT.mk (ExprT.op x0) (ExprT.v x0) (ExprT.s x0) (ExprT.l x0))) ≤ 1099511627776))
      (Tr.ok (Leaf.ret (AV.str ([32, 87, 72, 69, 82, 69, 32] ++ written (ExprT.mk (ExprT.op x0) (ExprT.v x0) (ExprT.s x0) (ExprT.l x0)))) [])))) := by kernel_rfl
def wText (x0 : Sem Sh.expr) : Sem Sh.str :=
  (if eNone x0 = true then [] else [32, 87, 72, 69, 82, 69, 32] ++ written x0)
def wTextC (x0 : Sem Sh.expr) : Bool :=
  (if eNone x0 = true then true
else
  if writtenC x0 = true then if decide ([32, 87, 72, 69, 82, 69, 32].length + List.length (written x0) ≤ 1099511627776) = true then true else false else false)
def F96 : FSem := plainC [Sh.expr] [Sh.str] (fun x => wTextC x.1) fun x => (wText x.1, ())
theorem FOk96 : FOk (env39).P (env39).gl 96 F96 := by
  refine FOk_plainC (ok96) fun x hc C hC => ?_
  unfold wTextC at hc
  refine reach_ok env39_all env39_mix (ok96) (fun id _ => hC id) (go96 x.1) ?_
  generalize hy : wText x.1 = y
  unfold wText at hy
  try simp only [ExprT.eta]
  repeat' (first | (with_reducible refine OptOk_br (fun hsp => ?_) (fun hsp => ?_) <;> first | (rw [if_pos hsp] at hy; try rw [if_pos hsp] at hc) | (rw [if_neg (ne_t hsp)] at hy; try rw [if_neg (ne_t hsp)] at hc)) | (have hgi := guard_ite hc; with_reducible refine OptOk_chk hgi.1 ?_; replace hc := hgi.2; clear hgi) | with_reducible refine OptOk_chkT ?_)
  all_goals first | (cases hc; done) | (subst hy; first | rfl)

abbrev kp98 : Nat → Keep := fun j => { }
theorem ok98 : fnChk (env39).P 98 Tryz.f98 2 := by refine ⟨?_, ?_, ?_, ?_⟩ <;> kernel_rfl
theorem go98 (x0 : Sem Sh.str) (x1 : Sem Sh.expr) : run (env39) 0 kp98 (Func.results Tryz.f98).toList 400 (bodyOf Tryz.f98) (initSt (Func.ntmps Tryz.f98) [datum Sh.str x0, datum Sh.expr x1] []) =
  Tr.br (eNone (ExprT.mk (ExprT.op x1) (ExprT.v x1) (ExprT.s x1) (ExprT.l x1))) (Tr.ok (Leaf.ret (AV.str []) []))
  (Tr.chk (decide (List.length x0 + [67, 72, 69, 67, 75, 32, 40, 32].length ≤ 1099511627776))
    (Tr.chk (writtenC (ExprT.mk (ExprT.op x1) (ExprT.v x1) (ExprT.s x1) (ExprT.l x1)))
      (Tr.chk
        (decide
        (List.length (x0 ++ [67, 72, 69, 67, 75, 32, 40, 32]) + List.length (written (ExprT.mk (ExprT.op x1) (ExprT.v x1) (ExprT.s x1) (ExprT.l x1))) ≤
        1099511627776))
        (Tr.chk
        (decide
        (List.length (x0 ++ [67, 72, 69, 67, 75, 32, 40, 32] ++ written (ExprT.mk (ExprT.op x1) (ExprT.v x1) (ExprT.s x1) (ExprT.l x1))) + [32, 41].length ≤
        1099511627776))
        (Tr.ok
        (Leaf.ret (AV.str (x0 ++ [67, 72, 69, 67, 75, 32, 40, 32] ++ written (ExprT.mk (ExprT.op x1) (ExprT.v x1) (ExprT.s x1) (ExprT.l x1)) ++ [32, 41]))
        [])))))) := by kernel_rfl
def chText (x0 : Sem Sh.str) (x1 : Sem Sh.expr) : Sem Sh.str :=
  (if eNone x1 = true then [] else x0 ++ [67, 72, 69, 67, 75, 32, 40, 32] ++ written x1 ++ [32, 41])
def chTextC (x0 : Sem Sh.str) (x1 : Sem Sh.expr) : Bool :=
  (if eNone x1 = true then true
else
  if decide (List.length x0 + [67, 72, 69, 67, 75, 32, 40, 32].length ≤ 1099511627776) = true then
    if writtenC x1 = true then
      if decide (List.length (x0 ++ [67, 72, 69, 67, 75, 32, 40, 32]) + List.length (written x1) ≤ 1099511627776) = true then
        if decide (List.length (x0 ++ [67, 72, 69, 67, 75, 32, 40, 32] ++ written x1) + [32, 41].length ≤ 1099511627776) = true then true else false
      else false
    else false
  else false)
def F98 : FSem := plainC [Sh.str, Sh.expr] [Sh.str] (fun x => chTextC x.1 x.2.1) fun x => (chText x.1 x.2.1, ())
theorem FOk98 : FOk (env39).P (env39).gl 98 F98 := by
  refine FOk_plainC (ok98) fun x hc C hC => ?_
  unfold chTextC at hc
  refine reach_ok env39_all env39_mix (ok98) (fun id _ => hC id) (go98 x.1 x.2.1) ?_
  generalize hy : chText x.1 x.2.1 = y
  unfold chText at hy
  try simp only [ExprT.eta]
  repeat' (first | (with_reducible refine OptOk_br (fun hsp => ?_) (fun hsp => ?_) <;> first | (rw [if_pos hsp] at hy; try rw [if_pos hsp] at hc) | (rw [if_neg (ne_t hsp)] at hy; try rw [if_neg (ne_t hsp)] at hc)) | (have hgi := guard_ite hc; with_reducible refine OptOk_chk hgi.1 ?_; replace hc := hgi.2; clear hgi) | with_reducible refine OptOk_chkT ?_)
  all_goals first | (cases hc; done) | (subst hy; first | rfl)

abbrev kp93 : Nat → Keep := fun j => { }
theorem ok93 : fnChk (env39).P 93 Tryz.f93 1 := by refine ⟨?_, ?_, ?_, ?_⟩ <;> kernel_rfl
theorem go93 (x0 : Sem shSet) : run (env39) 0 kp93 (Func.results Tryz.f93).toList 400 (bodyOf Tryz.f93) (initSt (Func.ntmps Tryz.f93) [datum shSet x0] []) =
  Tr.chk (decide (List.length x0.fst + [32, 61, 32].length ≤ 1099511627776))
  (Tr.chk (writtenC (ExprT.mk (ExprT.op x0.snd) (ExprT.v x0.snd) (ExprT.s x0.snd) (ExprT.l x0.snd)))
    (Tr.chk
      (decide
        (List.length (x0.fst ++ [32, 61, 32]) + List.length (written (ExprT.mk (ExprT.op x0.snd) (ExprT.v x0.snd) (ExprT.s x0.snd) (ExprT.l x0.snd))) ≤
        1099511627776))
      (Tr.ok (Leaf.ret (AV.str (x0.fst ++ [32, 61, 32] ++ written (ExprT.mk (ExprT.op x0.snd) (ExprT.v x0.snd) (ExprT.s x0.snd) (ExprT.l x0.snd)))) [])))) := by kernel_rfl
def setText (x0 : Sem shSet) : Sem Sh.str :=
  (x0.fst ++ [32, 61, 32] ++ written x0.snd)
def setTextC (x0 : Sem shSet) : Bool :=
  (if decide (List.length x0.fst + [32, 61, 32].length ≤ 1099511627776) = true then
  if writtenC x0.snd = true then if decide (List.length (x0.fst ++ [32, 61, 32]) + List.length (written x0.snd) ≤ 1099511627776) = true then true else false
  else false
else false)
def F93 : FSem := plainC [shSet] [Sh.str] (fun x => setTextC x.1) fun x => (setText x.1, ())
theorem FOk93 : FOk (env39).P (env39).gl 93 F93 := by
  refine FOk_plainC (ok93) fun x hc C hC => ?_
  unfold setTextC at hc
  refine reach_ok env39_all env39_mix (ok93) (fun id _ => hC id) (go93 x.1) ?_
  generalize hy : setText x.1 = y
  unfold setText at hy
  try simp only [ExprT.eta]
  repeat' (first | (with_reducible refine OptOk_br (fun hsp => ?_) (fun hsp => ?_) <;> first | (rw [if_pos hsp] at hy; try rw [if_pos hsp] at hc) | (rw [if_neg (ne_t hsp)] at hy; try rw [if_neg (ne_t hsp)] at hc)) | (have hgi := guard_ite hc; with_reducible refine OptOk_chk hgi.1 ?_; replace hc := hgi.2; clear hgi) | with_reducible refine OptOk_chkT ?_)
  all_goals first | (cases hc; done) | (subst hy; first | rfl)

noncomputable def env40 : Env := ((((((((env39.add 107 F107).add 108 F108).add 86 F86).add 82 F82).add 84 F84).add 96 F96).add 98 F98).add 93 F93)
theorem env40_all : EnvAll env40 := (EnvAll.addS (EnvAll.addS (EnvAll.addS (EnvAll.addS (EnvAll.addS (EnvAll.addS (EnvAll.addS (EnvAll.addS env39_all (SameE.refl env39) FOk107) ((SameE.refl env39).add _ _) FOk108) (((SameE.refl env39).add _ _).add _ _) FOk86) ((((SameE.refl env39).add _ _).add _ _).add _ _) FOk82) (((((SameE.refl env39).add _ _).add _ _).add _ _).add _ _) FOk84) ((((((SameE.refl env39).add _ _).add _ _).add _ _).add _ _).add _ _) FOk96) (((((((SameE.refl env39).add _ _).add _ _).add _ _).add _ _).add _ _).add _ _) FOk98) ((((((((SameE.refl env39).add _ _).add _ _).add _ _).add _ _).add _ _).add _ _).add _ _) FOk93)
theorem env40_mix : env40.P.follows .mixedOrders = true := (mix_add (mix_add (mix_add (mix_add (mix_add (mix_add (mix_add (mix_add env39_mix _ _) _ _) _ _) _ _) _ _) _ _) _ _) _ _)
end Cad

