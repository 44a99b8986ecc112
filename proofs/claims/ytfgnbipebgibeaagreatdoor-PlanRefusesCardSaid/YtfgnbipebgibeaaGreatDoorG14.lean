/- Plans: copies, groups. Plans: joins. Plans: the whole. Texts of values and expressions, and tokens: nothing panics. Tokens: nothing panics. Statements' texts: nothing panics. stmt.May: nothing panics. What is asked of tables with rows, and of bases, holds. What is asked of tables with rows, and of bases, holds. What is asked of bases holds. Plans: sources: always an answer. Plans: targets, joins: always an answer. Plans: what is named: always an answer. Plans: copies, groups, joins: always an answer. -/
import Derived.Test.YtfgnbipebgibeaaGreatDoorG13
import Derived.Test.YtfgnbipebgibeaaGreatDoorG12
namespace Cad
open Go Go.Proofs
noncomputable section
set_option maxHeartbeats 4000000

abbrev etaM (y : CSem cpMk) : CSem cpMk := (y.1, (y.2.1.1, y.2.1.2.1, y.2.1.2.2.1, y.2.1.2.2.2.1, y.2.1.2.2.2.2.1, y.2.1.2.2.2.2.2.1, y.2.1.2.2.2.2.2.2.1, y.2.1.2.2.2.2.2.2.2.1, etaE y.2.1.2.2.2.2.2.2.2.2.1, y.2.1.2.2.2.2.2.2.2.2.2.1, y.2.1.2.2.2.2.2.2.2.2.2.2.1, etaE y.2.1.2.2.2.2.2.2.2.2.2.2.2.1, y.2.1.2.2.2.2.2.2.2.2.2.2.2.2), (y.2.2.1.1, y.2.2.1.2.1, y.2.2.1.2.2.1, y.2.2.1.2.2.2.1, y.2.2.1.2.2.2.2.1, etaE y.2.2.1.2.2.2.2.2), (y.2.2.2.1.1, y.2.2.2.1.2.1, y.2.2.2.1.2.2.1, y.2.2.2.1.2.2.2.1, y.2.2.2.1.2.2.2.2.1, etaE y.2.2.2.1.2.2.2.2.2), y.2.2.2.2.1, y.2.2.2.2.2.1, y.2.2.2.2.2.2.1, y.2.2.2.2.2.2.2.1, y.2.2.2.2.2.2.2.2.1, etaE y.2.2.2.2.2.2.2.2.2.1, y.2.2.2.2.2.2.2.2.2.2.1, ())
abbrev etaM3 (y : CSem cpMk3) : CSem cpMk3 := (y.1, (y.2.1.1, y.2.1.2.1, y.2.1.2.2.1, y.2.1.2.2.2.1, y.2.1.2.2.2.2.1, y.2.1.2.2.2.2.2.1, y.2.1.2.2.2.2.2.2.1, y.2.1.2.2.2.2.2.2.2.1, etaE y.2.1.2.2.2.2.2.2.2.2.1, y.2.1.2.2.2.2.2.2.2.2.2.1, y.2.1.2.2.2.2.2.2.2.2.2.2.1, etaE y.2.1.2.2.2.2.2.2.2.2.2.2.2.1, y.2.1.2.2.2.2.2.2.2.2.2.2.2.2), (y.2.2.1.1, y.2.2.1.2.1, y.2.2.1.2.2.1, y.2.2.1.2.2.2.1, y.2.2.1.2.2.2.2.1, etaE y.2.2.1.2.2.2.2.2), (y.2.2.2.1.1, y.2.2.2.1.2.1, y.2.2.2.1.2.2.1, y.2.2.2.1.2.2.2.1, y.2.2.2.1.2.2.2.2.1, etaE y.2.2.2.1.2.2.2.2.2), y.2.2.2.2.1, y.2.2.2.2.2.1, y.2.2.2.2.2.2.1, y.2.2.2.2.2.2.2.1, y.2.2.2.2.2.2.2.2.1, y.2.2.2.2.2.2.2.2.2.1, etaE y.2.2.2.2.2.2.2.2.2.2.1, y.2.2.2.2.2.2.2.2.2.2.2.1, y.2.2.2.2.2.2.2.2.2.2.2.2.1, ())

abbrev kp30p : Nat → Keep := fun _ => { }
theorem ok30p : fnChk env60.P 30 Tryz.f30 1 := by refine ⟨?_, ?_, ?_, ?_⟩ <;> kernel_rfl
def i30pz (_ : CSem cpMk) (a0 : Sem shRel.sl × CSem [CP.d shStmt, CP.d shTable, CP.d shTable, CP.d Sh.str, CP.d Sh.str, CP.d Sh.str, CP.d Sh.str, CP.nil, CP.d shInt, CP.nil, CP.nil, CP.d Sh.expr, CP.nil, CP.d shInt]) (a1 : Sem shInt × CSem cpMk3) (a2 : Sem shInt) : Tr (Empty ⊕ Raw) := Tr.chk (mNamedC a0) (Tr.br (a1.1 != 0) (Tr.re (ai a1.1) (cpHeap cpMk3 a1.2)) (Tr.br (decide (a2 < 0)) (Tr.re (ai 1) (cpHeap cpMk3 (a1.2.1, a1.2.2.1, a1.2.2.2.1, a1.2.2.2.2.1, a1.2.2.2.2.2.1, a1.2.2.2.2.2.2.1, a1.2.2.2.2.2.2.2.1, a1.2.2.2.2.2.2.2.2.1, a1.2.2.2.2.2.2.2.2.2.1, a2, a1.2.2.2.2.2.2.2.2.2.2.2))) (Tr.re (ai 0) (cpHeap cpMk3 (a1.2.1, a1.2.2.1, a1.2.2.2.1, a1.2.2.2.2.1, a1.2.2.2.2.2.1, a1.2.2.2.2.2.2.1, a1.2.2.2.2.2.2.2.1, a1.2.2.2.2.2.2.2.2.1, a1.2.2.2.2.2.2.2.2.2.1, a2, a1.2.2.2.2.2.2.2.2.2.2.2)))))
def i30p (y : CSem cpMk) : Tr (Empty ⊕ Raw) :=
  let a0 := etaM y
  let a1 := mNamed a0
  let a2 := ixInt a1.2.2.2.2.2.2.2.2.2.2.2.2.1 a1.2.2.2.1.2.2.1
  i30pz y a0 a1 a2
theorem go30p (y : CSem cpMk) : run env60 1 kp30p (Func.results Tryz.f30).toList 400 (bodyOf Tryz.f30) (initSt (Func.ntmps Tryz.f30) [AV.ptr 0 0] (cpHeap cpMk y)) = (i30p y).map (lf Tryz.f30 e0) := by kernel_rfl
def mCopyO (y : CSem cpMk) : Option (HArgs (List.map some [shInt]) × CSem cpMk3) := outB [shInt] cpMk3 t0 100000000 (i30p y)
def mCopyC (y : CSem cpMk) : Bool := (mCopyO y).isSome
def mCopy (y : CSem cpMk) : (Sem shInt) × CSem cpMk3 := (fun r : HArgs (List.map some [shInt]) × CSem cpMk3 => (r.1.1, r.2)) ((mCopyO y).getD (dfltH [shInt], dfltC cpMk3))
def F30p : FSem := boxF cpMk [] [shInt] cpMk3 (fun y _ => mCopyC y) fun y _ => (((mCopy y).1, ()), (mCopy y).2)
theorem FOk30p : FOk env60.P env60.gl 30 F30p := FOk_B1 (keep := kp30p) (gas := 400) (n := 100000000) (e := e0) (t := t0) (i := fun y x => i30p y) env60_all env60_mix ok30p (fun y x => go30p y) (on0 _ _ _ _ _) (fun _ _ => by kernel_rfl) (fun _ _ => by kernel_rfl)

abbrev kp32p : Nat → Keep := fun _ => { }
theorem ok32p : fnChk env60.P 32 Tryz.f32 1 := by refine ⟨?_, ?_, ?_, ?_⟩ <;> kernel_rfl
def i32pz (_ : CSem cpMk) (a0 : Sem shRel.sl × CSem [CP.d shStmt, CP.d shTable, CP.d shTable, CP.d Sh.str, CP.d Sh.str, CP.d Sh.str, CP.d Sh.str, CP.nil, CP.d shInt, CP.nil, CP.nil, CP.d Sh.expr, CP.nil, CP.d shInt]) (a1 : Sem shInt × CSem cpMk3) (a2 : Sem shCol) (_ : Sem shCol) (a4 : LC) (a5 : Sem shCol) : Tr (Empty ⊕ Raw) := Tr.chk (mNamedC a0) (Tr.br (a1.1 != 0) (Tr.re (ai a1.1) (cpHeap cpMk3 a1.2)) (Tr.chk (inB 1 a1.2.2.2.2.2.2.2.2.2.1.length) (Tr.chk (decide (Int.toNat 1 < a1.2.2.2.2.2.2.2.2.2.1.length)) (Tr.br (a2.2.1 != 1) (Tr.re (ai 5) (cpHeap cpMk3 a1.2)) (Tr.chk (inB 0 a1.2.2.2.2.2.2.2.2.2.1.length) (Tr.chk (decide (Int.toNat 0 < a1.2.2.2.2.2.2.2.2.2.1.length)) (Tr.chk (inB 1 a4.length) (Tr.chk (decide (Int.toNat 1 < a4.length)) (Tr.re (ai 0) (cpHeap cpMk3 (a1.2.1, a1.2.2.1, a1.2.2.2.1, a1.2.2.2.2.1, a1.2.2.2.2.2.1, a1.2.2.2.2.2.2.1, a1.2.2.2.2.2.2.2.1, a1.2.2.2.2.2.2.2.2.1, a4.set (Int.toNat 1) (a5.1, a5.2.1, false), a1.2.2.2.2.2.2.2.2.2.2)))))))))))
def i32p (y : CSem cpMk) : Tr (Empty ⊕ Raw) :=
  let a0 := etaM y
  let a1 := mNamed a0
  let a2 := a1.2.2.2.2.2.2.2.2.2.1.getD (Int.toNat 1) (dflt shCol)
  let a3 := a1.2.2.2.2.2.2.2.2.2.1.getD (Int.toNat 0) (dflt shCol)
  let a4 := a1.2.2.2.2.2.2.2.2.2.1.set (Int.toNat 0) (a3.1, a3.2.1, true)
  let a5 := a4.getD (Int.toNat 1) (dflt shCol)
  i32pz y a0 a1 a2 a3 a4 a5
theorem go32p (y : CSem cpMk) : run env60 1 kp32p (Func.results Tryz.f32).toList 400 (bodyOf Tryz.f32) (initSt (Func.ntmps Tryz.f32) [AV.ptr 0 0] (cpHeap cpMk y)) = (i32p y).map (lf Tryz.f32 e0) := by kernel_rfl
def mGroupO (y : CSem cpMk) : Option (HArgs (List.map some [shInt]) × CSem cpMk3) := outB [shInt] cpMk3 t0 100000000 (i32p y)
def mGroupC (y : CSem cpMk) : Bool := (mGroupO y).isSome
def mGroup (y : CSem cpMk) : (Sem shInt) × CSem cpMk3 := (fun r : HArgs (List.map some [shInt]) × CSem cpMk3 => (r.1.1, r.2)) ((mGroupO y).getD (dfltH [shInt], dfltC cpMk3))
def F32p : FSem := boxF cpMk [] [shInt] cpMk3 (fun y _ => mGroupC y) fun y _ => (((mGroup y).1, ()), (mGroup y).2)
theorem FOk32p : FOk env60.P env60.gl 32 F32p := FOk_B1 (keep := kp32p) (gas := 400) (n := 100000000) (e := e0) (t := t0) (i := fun y x => i32p y) env60_all env60_mix ok32p (fun y x => go32p y) (on0 _ _ _ _ _) (fun _ _ => by kernel_rfl) (fun _ _ => by kernel_rfl)

def env61 : Env := ((env60.add 30 F30p).add 32 F32p)
theorem env61_all : EnvAll env61 := (EnvAll.addS (EnvAll.addS env60_all (SameE.refl env60) FOk30p) ((SameE.refl env60).add _ _) FOk32p)
theorem env61_mix : env61.P.follows .mixedOrders = true := (mix_add (mix_add env60_mix _ _) _ _)
end
open Go Go.Proofs
noncomputable section
set_option maxHeartbeats 4000000

abbrev kp31p : Nat → Keep := fun j => if j = 11 then { slots := [0, 83, 84, 85], prom := [(0, some 60, .int .i64)] } else if j = 1000000 then { prom := [(0, some 50, shCol), (0, some 60, .int .i64)], sett := [(0, 60)] } else { }
inductive H31p where
  | h11 (l83 : LC) (i84 : Int) (i85 : Int) (z0 : CSem cpMk2)
abbrev e31p : H31p → Nat × St
  | .h11 l83 i84 i85 z0 => (11, ⟨tm 124 [(0, AV.ptr 0 0), (83, AV.sl shCol l83), (84, ai i84), (85, ai i85)], [AO.box (cpN [1, 2] cpMk2 z0), AO.vec shCol z0.2.2.2.2.2.2.2.2.1, AO.vec shInt z0.2.2.2.2.2.2.2.2.2.2.2.1]⟩)
theorem ok31p : fnChk env61.P 31 Tryz.f31 1 := by refine ⟨?_, ?_, ?_, ?_⟩ <;> kernel_rfl
def i31pz (y : CSem cpMk) (a0 : Sem shInt) (a1 : Sem Sh.expr × List (Sem shInt) × Sem shInt × Unit) (a2 : Int) (a3 : Int) : Tr (H31p ⊕ Raw) := Tr.br (decide (a0 < 0)) (Tr.re (ai 4) (cpHeap cpMk3 (y.1, y.2.1, y.2.2.1, y.2.2.2.1, y.2.2.2.2.1, y.2.2.2.2.2.1, y.2.2.2.2.2.2.1, y.2.2.2.2.2.2.2.1, [], y.2.2.2.2.2.2.2.2.1, a1))) (Tr.br (!hasFor y.2.2.1.2.2.2.2.1 (a0, y.2.2.2.2.2.2.1)) (Tr.re (ai 10) (cpHeap cpMk3 (y.1, y.2.1, y.2.2.1, y.2.2.2.1, y.2.2.2.2.1, y.2.2.2.2.2.1, y.2.2.2.2.2.2.1, y.2.2.2.2.2.2.2.1, [], y.2.2.2.2.2.2.2.2.1, a1))) (Tr.br (decide (a3 > 8)) (Tr.re (ai 13) (cpHeap cpMk3 (y.1, y.2.1, y.2.2.1, y.2.2.2.1, y.2.2.2.2.1, y.2.2.2.2.2.1, y.2.2.2.2.2.2.1, y.2.2.2.2.2.2.2.1, [], y.2.2.2.2.2.2.2.2.1, a1))) (Tr.chk (decide (List.length y.2.2.1.2.1 ≤ 1073741824)) (Tr.to (H31p.h11 y.2.2.2.1.2.1 a2 0 (y.1, y.2.1, y.2.2.1, y.2.2.2.1, y.2.2.2.2.1, y.2.2.2.2.2.1, y.2.2.2.2.2.2.1, y.2.2.2.2.2.2.2.1, y.2.2.1.2.1, y.2.2.1.2.2.1, a1))))))
def i31p (y : CSem cpMk) : Tr (H31p ⊕ Raw) :=
  let a0 := tPlace (y.2.2.1.1, y.2.2.1.2.1, y.2.2.1.2.2.1, y.2.2.1.2.2.2.1, y.2.2.1.2.2.2.2.1, etaE y.2.2.1.2.2.2.2.2) y.2.1.2.2.2.2.2.1
  let a1 := (y.2.2.2.2.2.2.2.2.2.1, [], a0, ())
  let a2 := (↑(List.length y.2.2.2.1.2.1) : Int)
  let a3 := IntKind.i64.wrap (IntKind.i64.wrap ((↑(List.length y.2.2.1.2.1) : Int) + a2) - 1)
  i31pz y a0 a1 a2 a3
def t31p_11z (l83 : LC) (i84 : Int) (i85 : Int) (z0 : CSem cpMk2) (a0 : LC) (a1 : Int) : Tr (H31p ⊕ Raw) := Tr.br (decide (i85 < i84)) (Tr.chk (inB i85 l83.length) (Tr.br (i85 != z0.2.2.2.1.2.2.1) (Tr.chk (decide (z0.2.2.2.2.2.2.2.2.2.2.2.1.length + [i85].length ≤ 1073741824)) (Tr.chk (decide (z0.2.2.2.2.2.2.2.2.1.length + a0.length ≤ 1073741824)) (Tr.to (H31p.h11 l83 i84 a1 (z0.1, z0.2.1, z0.2.2.1, z0.2.2.2.1, z0.2.2.2.2.1, z0.2.2.2.2.2.1, z0.2.2.2.2.2.2.1, z0.2.2.2.2.2.2.2.1, z0.2.2.2.2.2.2.2.2.1 ++ a0, z0.2.2.2.2.2.2.2.2.2.1, z0.2.2.2.2.2.2.2.2.2.2.1, z0.2.2.2.2.2.2.2.2.2.2.2.1 ++ [i85], z0.2.2.2.2.2.2.2.2.2.2.2.2))))) (Tr.to (H31p.h11 l83 i84 a1 z0)))) (Tr.re (ai 0) (cpHeap cpMk3 z0))
def t31p_11 (l83 : LC) (i84 : Int) (i85 : Int) (z0 : CSem cpMk2) : Tr (H31p ⊕ Raw) :=
  let a0 := [l83.getD i85.toNat (dflt shCol)]
  let a1 := IntKind.i64.wrap (i85 + 1)
  t31p_11z l83 i84 i85 z0 a0 a1
theorem go31p (y : CSem cpMk) : run env61 1 kp31p (Func.results Tryz.f31).toList 400 (bodyOf Tryz.f31) (initSt (Func.ntmps Tryz.f31) [AV.ptr 0 0] (cpHeap cpMk y)) = (i31p y).map (lf Tryz.f31 e31p) := by kernel_rfl
def t31p : H31p → Tr (H31p ⊕ Raw)
  | .h11 l83 i84 i85 z0 => t31p_11 l83 i84 i85 z0
theorem on31p : ∀ s, run env61 1 kp31p (Func.results Tryz.f31).toList 400 (headK Tryz.f31 (e31p s).1) (e31p s).2 = (t31p s).map (lf Tryz.f31 e31p) | .h11 l83 i84 i85 z0 => by kernel_rfl
def mJoinO (y : CSem cpMk) : Option (HArgs (List.map some [shInt]) × CSem cpMk3) := outB [shInt] cpMk3 t31p 100000000 (i31p y)
def mJoinC (y : CSem cpMk) : Bool := (mJoinO y).isSome
def mJoin (y : CSem cpMk) : (Sem shInt) × CSem cpMk3 := (fun r : HArgs (List.map some [shInt]) × CSem cpMk3 => (r.1.1, r.2)) ((mJoinO y).getD (dfltH [shInt], dfltC cpMk3))
def F31p : FSem := boxF cpMk [] [shInt] cpMk3 (fun y _ => mJoinC y) fun y _ => (((mJoin y).1, ()), (mJoin y).2)
theorem FOk31p : FOk env61.P env61.gl 31 F31p := FOk_B1 (keep := kp31p) (gas := 400) (n := 100000000) (e := e31p) (t := t31p) (i := fun y x => i31p y) env61_all env61_mix ok31p (fun y x => go31p y) on31p (fun _ _ => by kernel_rfl) (fun _ _ => by kernel_rfl)

def env62 : Env := (env61.add 31 F31p)
theorem env62_all : EnvAll env62 := (EnvAll.addS env61_all (SameE.refl env61) FOk31p)
theorem env62_mix : env62.P.follows .mixedOrders = true := (mix_add env61_mix _ _)
end
open Go Go.Proofs
noncomputable section
set_option maxHeartbeats 4000000

abbrev nilAV : AV := AV.agg [AV.str [], AV.str [], AV.str [], AV.str [], AV.nils, ai 0, AV.nils, AV.nils, AV.str [], ai 0, ai 0, AV.str [], AV.str [], AV.nils, AV.nils, ai 0]
abbrev planAV (z : CSem cpMk3) : AV := AV.agg [AV.str z.2.2.2.2.1, AV.str z.2.2.2.2.2.1, AV.str z.2.2.2.2.2.2.1, AV.str z.2.2.2.2.2.2.2.1, AV.vec 0, ai z.2.2.2.2.2.2.2.2.2.1, AV.nils, AV.nils, AV.str (ExprT.op z.2.2.2.2.2.2.2.2.2.2.1), ai (ExprT.v z.2.2.2.2.2.2.2.2.2.2.1).1, ai (ExprT.v z.2.2.2.2.2.2.2.2.2.2.1).2.1, AV.str (ExprT.v z.2.2.2.2.2.2.2.2.2.2.1).2.2, AV.str (ExprT.s z.2.2.2.2.2.2.2.2.2.2.1), AV.sl Sh.expr (ExprT.l z.2.2.2.2.2.2.2.2.2.2.1), AV.sl shInt z.2.2.2.2.2.2.2.2.2.2.2.1, ai z.2.2.2.2.2.2.2.2.2.2.2.2.1]
abbrev planAV0 (z : CSem cpMk) : AV := AV.agg [AV.str z.2.2.2.2.1, AV.str z.2.2.2.2.2.1, AV.str z.2.2.2.2.2.2.1, AV.str z.2.2.2.2.2.2.2.1, AV.nils, ai z.2.2.2.2.2.2.2.2.1, AV.nils, AV.nils, AV.str (ExprT.op z.2.2.2.2.2.2.2.2.2.1), ai (ExprT.v z.2.2.2.2.2.2.2.2.2.1).1, ai (ExprT.v z.2.2.2.2.2.2.2.2.2.1).2.1, AV.str (ExprT.v z.2.2.2.2.2.2.2.2.2.1).2.2, AV.str (ExprT.s z.2.2.2.2.2.2.2.2.2.1), AV.sl Sh.expr (ExprT.l z.2.2.2.2.2.2.2.2.2.1), AV.nils, ai z.2.2.2.2.2.2.2.2.2.2.1]

abbrev kp11p : Nat → Keep := fun _ => { }
theorem ok11p : fnChk env62.P 11 Tryz.f11 2 := by refine ⟨?_, ?_, ?_, ?_⟩ <;> kernel_rfl
def i11pz (_ : Sem shRel.sl) (x1 : Sem shStmt) (_ : ExprT) (_ : Sem Sh.str × Sem (Sh.str.pr (Sh.str.pr (Sh.str.sl.pr (shCol.sl.pr (Sh.str.pr (Sh.str.sl.pr (shRef.sl.pr (Sh.expr.pr (shVal.sl.pr (shSet.sl.pr (Sh.expr.pr Sh.str)))))))))))) (_ : Bool) (a3 : Bool) (a4 : Bool) (a5 : Bool) (_ : Sem shRel.sl × CSem [CP.d shStmt, CP.d shTable, CP.d shTable, CP.d Sh.str, CP.d Sh.str, CP.d Sh.str, CP.d Sh.str, CP.nil, CP.d shInt, CP.nil, CP.nil, CP.d Sh.expr, CP.nil, CP.d shInt]) (a7 : Bool) (a8 : Sem shInt × CSem cpMk) (a9 : Bool) (a10 : Sem shRel.sl × CSem [CP.d shStmt, CP.d shTable, CP.d shTable, CP.d Sh.str, CP.d Sh.str, CP.d Sh.str, CP.d Sh.str, CP.nil, CP.d shInt, CP.nil, CP.nil, CP.d Sh.expr, CP.nil, CP.d shInt]) (a11 : Sem shInt × CSem cpMk3) (a12 : Sem shRel.sl × CSem [CP.d shStmt, CP.d shTable, CP.d shTable, CP.d Sh.str, CP.d Sh.str, CP.d Sh.str, CP.d Sh.str, CP.vec shCol, CP.d shInt, CP.nil, CP.nil, CP.d Sh.expr, CP.d shInt.sl, CP.d shInt]) (a13 : Sem shInt × CSem cpMk3) (a14 : Sem shInt × CSem cpMk3) (a15 : Sem shRel.sl × CSem [CP.d shStmt, CP.d shTable, CP.d shTable, CP.d Sh.str, CP.d Sh.str, CP.d Sh.str, CP.d Sh.str, CP.vec shCol, CP.d shInt, CP.nil, CP.nil, CP.d Sh.expr, CP.d shInt.sl, CP.d shInt]) (a16 : Sem shInt × CSem cpMk3) (a17 : Sem shInt × CSem cpMk3) (a18 : Sem shRel.sl × CSem [CP.d shStmt, CP.d shTable, CP.d shTable, CP.d Sh.str, CP.d Sh.str, CP.d Sh.str, CP.d Sh.str, CP.vec shCol, CP.d shInt, CP.nil, CP.nil, CP.d Sh.expr, CP.d shInt.sl, CP.d shInt]) (a19 : Sem shInt × CSem cpMk3) : Tr (Empty ⊕ Raw) :=
 Tr.chk true (Tr.chk true (Tr.chk true (Tr.br (x1.1 == [99, 111, 112, 121]) (Tr.chk a3 (Tr.br a4 (Tr.re (AV.tup [nilAV, ai 1]) []) (Tr.chk a5 (Tr.chk a7 (Tr.br a9 (Tr.chk (mCopyC a10) (Tr.br (a11.1 == 0) (Tr.chk (mTargetC a12) (Tr.br (a13.1 != 0) (Tr.re (AV.tup [nilAV, ai a13.1]) []) (Tr.re (AV.tup [(planAV a13.2), ai 0]) [AO.vec shCol a13.2.2.2.2.2.2.2.2.2.1]))) (Tr.br (a11.1 != 0) (Tr.re (AV.tup [nilAV, ai a11.1]) []) (Tr.re (AV.tup [(planAV a11.2), ai 0]) [AO.vec shCol a11.2.2.2.2.2.2.2.2.2.1])))) (Tr.br a9 Tr.err (Tr.br (a8.1 != 0) (Tr.re (AV.tup [nilAV, ai a8.1]) []) (Tr.re (AV.tup [(planAV0 a8.2), ai 0]) [])))))))) (Tr.br (x1.1 == [106, 111, 105, 110]) (Tr.chk a3 (Tr.br a4 (Tr.re (AV.tup [nilAV, ai 1]) []) (Tr.chk a5 (Tr.chk a7 (Tr.br a9 (Tr.chk (mJoinC a10) (Tr.br (a14.1 == 0) (Tr.chk (mTargetC a15) (Tr.br (a16.1 != 0) (Tr.re (AV.tup [nilAV, ai a16.1]) []) (Tr.re (AV.tup [(planAV a16.2), ai 0]) [AO.vec shCol a16.2.2.2.2.2.2.2.2.2.1]))) (Tr.br (a14.1 != 0) (Tr.re (AV.tup [nilAV, ai a14.1]) []) (Tr.re (AV.tup [(planAV a14.2), ai 0]) [AO.vec shCol a14.2.2.2.2.2.2.2.2.2.1])))) (Tr.br a9 Tr.err (Tr.br (a8.1 != 0) (Tr.re (AV.tup [nilAV, ai a8.1]) []) (Tr.re (AV.tup [(planAV0 a8.2), ai 0]) []))))))))
 (Tr.br (x1.1 == [103, 114, 111, 117, 112]) (Tr.chk a3 (Tr.br a4 (Tr.re (AV.tup [nilAV, ai 1]) []) (Tr.chk a5 (Tr.chk a7 (Tr.br a9 (Tr.chk (mGroupC a10) (Tr.br (a17.1 == 0) (Tr.chk (mTargetC a18) (Tr.br (a19.1 != 0) (Tr.re (AV.tup [nilAV, ai a19.1]) []) (Tr.re (AV.tup [(planAV a19.2), ai 0]) [AO.vec shCol a19.2.2.2.2.2.2.2.2.2.1]))) (Tr.br (a17.1 != 0) (Tr.re (AV.tup [nilAV, ai a17.1]) []) (Tr.re (AV.tup [(planAV a17.2), ai 0]) [AO.vec shCol a17.2.2.2.2.2.2.2.2.2.1])))) (Tr.br a9 Tr.err (Tr.br (a8.1 != 0) (Tr.re (AV.tup [nilAV, ai a8.1]) []) (Tr.re (AV.tup [(planAV0 a8.2), ai 0]) [])))))))) (Tr.re (AV.tup [nilAV, ai 1]) []))))))
def i11p (x0 : Sem shRel.sl) (x1 : Sem shStmt) : Tr (Empty ⊕ Raw) :=
  let a0 := etaE x1.2.2.2.2.2.2.2.2.1
  let a1 := (x1.1, x1.2.1, x1.2.2.1, x1.2.2.2.1, x1.2.2.2.2.1, x1.2.2.2.2.2.1, x1.2.2.2.2.2.2.1, x1.2.2.2.2.2.2.2.1, a0, x1.2.2.2.2.2.2.2.2.2.1, x1.2.2.2.2.2.2.2.2.2.2.1, etaE x1.2.2.2.2.2.2.2.2.2.2.2.1, x1.2.2.2.2.2.2.2.2.2.2.2.2)
  let a2 := !stMay a1
  let a3 := stMayC a1 && bif a2 then true else bCheckC x0
  let a4 := bif a2 then true else bCheck x0 != 0
  let a5 := cpC 16 a0
  let a6 := (x0, a1, ([], [], 0, [], [], ExprT.mk [] (0, 0, []) [] []), ([], [], 0, [], [], ExprT.mk [] (0, 0, []) [] []), x1.1, x1.2.2.1, x1.2.2.2.2.2.2.2.2.2.2.2.2, x1.2.1, 0, a0, 0, ())
  let a7 := mSourcesC a6
  let a8 := mSources a6
  let a9 := a8.1 == 0
  let a10 := etaM a8.2
  let a11 := mCopy a10
  let a12 := etaM3 a11.2
  let a13 := mTarget a12
  let a14 := mJoin a10
  let a15 := etaM3 a14.2
  let a16 := mTarget a15
  let a17 := mGroup a10
  let a18 := etaM3 a17.2
  let a19 := mTarget a18
  i11pz x0 x1 a0 a1 a2 a3 a4 a5 a6 a7 a8 a9 a10 a11 a12 a13 a14 a15 a16 a17 a18 a19
theorem go11p (x0 : Sem shRel.sl) (x1 : Sem shStmt) : run env62 0 kp11p (Func.results Tryz.f11).toList 400 (bodyOf Tryz.f11) (initSt (Func.ntmps Tryz.f11) [datum shRel.sl x0, datum shStmt x1] []) = (i11p x0 x1).map (lf Tryz.f11 e0) := by kernel_rfl
def pOfO (x0 : Sem shRel.sl) (x1 : Sem shStmt) : Option (HArgs (List.map some [shPlan, shInt])) := outT [shPlan, shInt] t0 100000000 (i11p x0 x1)
def pOfC (x0 : Sem shRel.sl) (x1 : Sem shStmt) : Bool := (pOfO x0 x1).isSome
def pOf (x0 : Sem shRel.sl) (x1 : Sem shStmt) : Sem shPlan × Sem shInt := (fun r : HArgs (List.map some [shPlan, shInt]) => (r.1, r.2.1)) ((pOfO x0 x1).getD (dfltH [shPlan, shInt]))
def F11p : FSem := plainC [shRel.sl, shStmt] [shPlan, shInt] (fun x => pOfC x.1 x.2.1) fun x => ((pOf x.1 x.2.1).1, (pOf x.1 x.2.1).2, ())
theorem FOk11p : FOk env62.P env62.gl 11 F11p := FOk_T1 (ks := [shRel.sl, shStmt]) (outs := [shPlan, shInt]) (keep := kp11p) (gas := 400) (n := 100000000) (e := e0) (t := t0) (i := fun x => i11p x.1 x.2.1) env62_all env62_mix ok11p (fun x => go11p x.1 x.2.1) (on0 _ _ _ _ _) (fun _ => by kernel_rfl) (fun _ => by kernel_rfl)

def env63 : Env := (env62.add 11 F11p)
theorem env63_all : EnvAll env63 := (EnvAll.addS env62_all (SameE.refl env62) FOk11p)
theorem env63_mix : env63.P.follows .mixedOrders = true := (mix_add env62_mix _ _)
end
open Go Go.Proofs

theorem gi {c g : Bool} (h1 : c = true) (h2 : g = true) : (if c = true then g else false) = true := by rw [if_pos h1]; exact h2
theorem dec_le {a b : Nat} (h : a ≤ b) : decide (a ≤ b) = true := decide_eq_true h

theorem vMay_text {v : Sem shVal} (h : vMay v = true) (h2 : (v.1 == 2) = true) : v.2.2.length ≤ 40 := by
  have e : v.1 = 2 := by simpa using h2
  unfold vMay at h
  rw [e] at h
  simp only [show ((2 : Int) == 0) = false from rfl, show ((2 : Int) == 1) = false from rfl, show ((2 : Int) == 2) = true from rfl, Bool.false_eq_true, if_false, if_true] at h
  cases h1 : v.2.1 == 0
  · rw [h1] at h; simp at h
  · rw [h1] at h
    cases h3 : decide ((v.2.2.length : Int) ≤ 40)
    · rw [h3] at h; simp at h
    · have := of_decide_eq_true h3
      omega

theorem vTextC_true (v : Sem shVal) : vTextC v = true := by
  unfold vTextC
  split
  · rfl
  · rename_i hm
    have hm : vMay v = true := by simpa using hm
    split
    · rfl
    · split
      · rename_i h2
        have hl := vMay_text hm h2
        have hr := replaceAll_len v.2.2 [39] [39, 39]
        have hr2 : (Lib.replaceAll v.2.2 [39] [39, 39]).length ≤ 200 := by
          simp only [List.length_cons, List.length_nil] at hr
          omega
        refine gi ?_ (gi (dec_le ?_) (gi (dec_le ?_) rfl))
        · unfold replC
          simp
          omega
        · simp; omega
        · simp; omega
      · rfl

theorem vText_len (v : Sem shVal) : (vText v).length ≤ 300 := by
  unfold vText
  split
  · simp
  · rename_i hm
    have hm : vMay v = true := by simpa using hm
    split
    · have := itoaF_len v.2.1
      omega
    · split
      · rename_i h2
        have hl := vMay_text hm h2
        have hr := replaceAll_len v.2.2 [39] [39, 39]
        simp only [List.length_cons, List.length_nil] at hr
        simp
        omega
      · split
        · split <;> simp
        · simp

theorem wName_len {s : Str} (h : wName s = true) : s.length ≤ 16 := by
  have h : wordOk s = true := h
  unfold wordOk at h
  by_cases h2 : (s.length : Int) ≤ 16
  · omega
  · exfalso
    rw [decide_eq_false h2] at h
    cases h1 : decide ((s.length : Int) ≥ 1) <;> rw [h1] at h <;> simp at h

theorem mayS_col {g : ExprT → Int → Int → Bool × Int} {e : ExprT} {d n : Int} (h : (mayS g e d n).1 = true) (hc : e.op = [99, 111, 108]) : e.s.length ≤ 16 := by
  unfold mayS at h
  split at h
  · cases h
  · split at h
    · rename_i h1; rw [hc] at h1; simp at h1
    · split at h
      · cases h1 : isNil e.v
        · rw [h1] at h; simp at h
        · rw [h1] at h
          cases h2 : wName e.s
          · rw [h2] at h; simp at h
          · exact wName_len h2
      · rename_i h1; rw [hc] at h1; simp at h1

theorem toUpperA_len (s : Str) : (Lib.toUpperA s).length = s.length := by simp [Lib.toUpperA]

theorem eText_ok : ∀ (N : Nat) (e : ExprT) (d n : Int), N ≤ 16 → (mayN N e d n).1 = true → eTextCN N e = true ∧ (eTextN N e).length ≤ 400 * 2 ^ N - 100
  | 0, _, _, _, _, h => by cases h
  | N + 1, e, d, n, hN, h => by
    rw [mayN] at h
    obtain ⟨hl, h2⟩ := mayS_true h
    have hp : 2 ^ N ≤ 2 ^ 15 := Nat.pow_le_pow_right (by omega) (by omega)
    have hp1 : 1 ≤ 2 ^ N := Nat.one_le_two_pow
    have hpp : 2 ^ (N + 1) = 2 * 2 ^ N := by rw [Nat.pow_succ]; omega
    have hparts : ∀ x ∈ e.l, eTextCN N x = true ∧ (eTextN N x).length ≤ 400 * 2 ^ N - 100 := by
      intro x hx
      rcases h2 with h2 | h2
      · exfalso
        have : partsN e.op = 0 := by
          rcases h2 with h2 | h2 <;> rw [h2] <;> decide
        rw [this] at hl
        have : e.l = [] := List.eq_nil_of_length_eq_zero (by omega)
        rw [this] at hx; simp at hx
      · obtain ⟨m, hm⟩ := mayL_all e.l _ h2 x hx
        exact eText_ok N x _ _ (by omega) hm
    have hget : ∀ i, i < e.l.length → e.l.getD i (dflt Sh.expr) ∈ e.l := by
      intro i hi
      rw [List.getD_eq_getElem?_getD, List.getElem?_eq_getElem hi]
      exact List.getElem_mem hi
    rw [eTextCN, eTextN]
    unfold eTextSC eTextS
    rcases parts_cases e.op with ⟨hp0, hop | hop⟩ | ⟨hp0, hop | hop⟩ | ⟨hp0, hop⟩ | hp0
    · rw [hop]
      simp only [beq_self_eq_true, if_true]
      refine ⟨gi (vTextC_true _) rfl, ?_⟩
      have := vText_len e.v
      omega
    · have hs := mayS_col h hop
      rw [hop]
      refine ⟨rfl, ?_⟩
      show e.s.length ≤ _
      omega
    · rw [hp0] at hl
      have hlen : e.l.length = 1 := by omega
      obtain ⟨k1, k2⟩ := hparts _ (hget 0 (by omega))
      rw [hop]
      refine ⟨gi ?_ (gi k1 (gi (dec_le ?_) (gi (dec_le ?_) rfl))), ?_⟩
      · simp [inB, hlen]
      · simp at k2 ⊢; omega
      · simp at k2 ⊢; omega
      · show ([40, 78, 79, 84, 32] ++ eTextN N (e.l.getD 0 (dflt Sh.expr)) ++ [41]).length ≤ _
        simp at k2 ⊢; omega
    · rw [hp0] at hl
      have hlen : e.l.length = 1 := by omega
      obtain ⟨k1, k2⟩ := hparts _ (hget 0 (by omega))
      rw [hop]
      refine ⟨gi ?_ (gi k1 (gi (dec_le ?_) (gi (dec_le ?_) rfl))), ?_⟩
      · simp [inB, hlen]
      · simp at k2 ⊢; omega
      · simp at k2 ⊢; omega
      · show ([40] ++ eTextN N (e.l.getD 0 (dflt Sh.expr)) ++ [32, 73, 83, 32, 78, 85, 76, 76, 41]).length ≤ _
        simp at k2 ⊢; omega
    · rw [hp0] at hl
      have hlen : e.l.length = 2 := by omega
      obtain ⟨k1, k2⟩ := hparts _ (hget 0 (by omega))
      obtain ⟨k3, k4⟩ := hparts _ (hget 1 (by omega))
      have hu : (decide (e.op.length ≤ 140737488355328) && e.op.all fun b => decide (b.toNat < 128)) = true := by
        rcases hop with hop | hop | hop | hop | hop | hop <;> rw [hop] <;> decide
      have hol : e.op.length ≤ 3 := by
        rcases hop with hop | hop | hop | hop | hop | hop <;> rw [hop] <;> simp
      have hul := toUpperA_len e.op
      have n1 : (e.op == [108, 105, 116]) = false := by rcases hop with hop | hop | hop | hop | hop | hop <;> rw [hop] <;> rfl
      have n2 : (e.op == [99, 111, 108]) = false := by rcases hop with hop | hop | hop | hop | hop | hop <;> rw [hop] <;> rfl
      have n3 : (e.op == [110, 111, 116]) = false := by rcases hop with hop | hop | hop | hop | hop | hop <;> rw [hop] <;> rfl
      have n4 : (e.op == [110, 117, 108, 108]) = false := by rcases hop with hop | hop | hop | hop | hop | hop <;> rw [hop] <;> rfl
      simp only [n1, n2, n3, n4, Bool.false_eq_true, if_false]
      refine ⟨gi ?_ (gi k1 (gi (dec_le ?_) (gi (dec_le ?_) (gi hu (gi (dec_le ?_) (gi (dec_le ?_) (gi ?_ (gi k3 (gi (dec_le ?_) (gi (dec_le ?_) rfl)))))))))), ?_⟩
      · simp [inB, hlen]
      all_goals first
        | (simp [inB, hlen]; done)
        | (simp at k2 k4 ⊢; omega)
    · rw [hp0] at hl
      omega

theorem exTextC_true (e : ExprT) : exTextC e = true := by
  unfold exTextC
  split
  · rfl
  · rename_i h
    exact gi (eText_ok 16 e 1 0 (by omega) (by simpa [eMay] using h)).1 rfl

theorem exText_len (e : ExprT) : (exText e).1.length ≤ 30000000 := by
  unfold exText
  split
  · simp
  · rename_i h
    have := (eText_ok 16 e 1 0 (by omega) (by simpa [eMay] using h)).2
    show (eTextN 16 e).length ≤ _
    omega

open Go Go.Proofs

theorem lead_le (p : Int → Bool) : ∀ s : Str, lead p s ≤ s.length
  | [] => by simp [lead]
  | c :: r => by
    have := lead_le p r
    rw [lead]
    split <;> simp <;> omega
theorem runLen_le (f m : Int → Bool) (s : Str) : runLen f m s ≤ s.length := by
  cases s with
  | nil => simp [runLen]
  | cons c r =>
    have := lead_le m r
    rw [runLen]
    split <;> simp <;> omega

theorem wrapN (i : Nat) (h : i ≤ 4000000000) : IntKind.i64.wrap (i : Int) = (i : Int) := by
  have := wrap_add (i - 1) (by unfold maxStr; omega)
  cases i with
  | zero => rfl
  | succ i => simpa using this

theorem wrapN1 (i : Nat) (h : i ≤ 4000000000) : IntKind.i64.wrap ((i : Int) + 1) = ((i + 1 : Nat) : Int) := wrap_add i (by unfold maxStr; omega)

theorem quotedC_true : ∀ (n : Nat) (s : Str) (i : Nat) (a : Int) (b : Str), 1 ≤ i → i ≤ s.length → s.length + 2 ≤ n + i → s.length ≤ 1000000000 → quotedC_2 n s (i : Int) a b = true
  | 0, s, i, a, b, h1, h2, h3, h4 => by omega
  | n + 1, s, i, a, b, h1, h2, h3, h4 => by
    rw [quotedC_2]
    split
    · rename_i hlt
      have hlt : i < s.length := by have := of_decide_eq_true hlt; omega
      refine gi (inB_of hlt) ?_
      rw [wrapN1 i (by omega)]
      split
      · exact quotedC_true n s (i + 1) a b (by omega) (by omega) (by omega) h4
      · refine gi ?_ ?_
        · cases hd : decide (((i + 1 : Nat) : Int) < (s.length : Int))
          · rfl
          · exact inB_of (by have := of_decide_eq_true hd; omega)
        · split
          · rename_i hh
            have h5 : i + 1 < s.length := by
              cases hd : decide (((i + 1 : Nat) : Int) < (s.length : Int))
              · rw [hd] at hh; simp at hh
              · have := of_decide_eq_true hd; omega
            rw [wrapN1 (i + 1) (by omega)]
            exact quotedC_true n s (i + 1 + 1) a b (by omega) (by omega) (by omega) h4
          · refine gi ?_ (gi ?_ rfl)
            · simp; omega
            · unfold replC
              simp
              omega
    · rfl

theorem quoted_res : ∀ (n : Nat) (s : Str) (i : Nat) (a : Int) (b : Str), 1 ≤ i → i ≤ s.length → s.length + 2 ≤ n + i → s.length ≤ 1000000000 →
    (quoted_2 n s (i : Int) a b = ((0, []), 0)) ∨ ∃ k : Nat, (quoted_2 n s (i : Int) a b).2 = (k : Int) ∧ 1 ≤ k ∧ k ≤ s.length
  | 0, s, i, a, b, h1, h2, h3, h4 => by omega
  | n + 1, s, i, a, b, h1, h2, h3, h4 => by
    rw [quoted_2]
    split
    · rename_i hlt
      have hlt : i < s.length := by have := of_decide_eq_true hlt; omega
      rw [wrapN1 i (by omega)]
      split
      · exact quoted_res n s (i + 1) a b (by omega) (by omega) (by omega) h4
      · split
        · rename_i hh
          have h5 : i + 1 < s.length := by
            cases hd : decide (((i + 1 : Nat) : Int) < (s.length : Int))
            · rw [hd] at hh; simp at hh
            · have := of_decide_eq_true hd; omega
          rw [wrapN1 (i + 1) (by omega)]
          exact quoted_res n s (i + 1 + 1) a b (by omega) (by omega) (by omega) h4
        · exact .inr ⟨i + 1, rfl, by omega, by omega⟩
    · exact .inl rfl

theorem tokMayC_true (t : Sem shTok) : tokMayC t = true := by
  unfold tokMayC
  split
  · rfl
  · split
    · refine gi ?_ rfl
      cases h : ((t.2.length : Int) == 1)
      · rfl
      · have : (t.2.length : Int) = 1 := by simpa using h
        simp only [cond_true, beq_iff_eq]
        omega
    · simp

theorem tokFirstC_true (s : Str) (h0 : s ≠ []) (h1 : s.length ≤ 1000000000) : tokFirstC s = true := by
  have hl : 1 ≤ s.length := by cases s with | nil => exact absurd rfl h0 | cons _ _ => simp
  have r1 := runLen_le letterC partC s
  have r2 := runLen_le digitC digitC s
  have hq : quotedC s = true := quotedC_true (s.length + 1) s 1 _ _ (by omega) hl (by omega) h1
  have hb : inB 0 s.length = true := inB_of hl
  have d1 : (decide ((0 : Int) ≤ 0) && decide (0 ≤ (↑(runLen letterC partC s) : Int)) && decide ((↑(runLen letterC partC s) : Int) ≤ (↑(List.length s) : Int))) = true := by simp; omega
  have d2 : (decide ((0 : Int) ≤ 0) && decide (0 ≤ (↑(runLen digitC digitC s) : Int)) && decide ((↑(runLen digitC digitC s) : Int) ≤ (↑(List.length s) : Int))) = true := by simp; omega
  have d3 : (decide ((0 : Int) ≤ 0) && decide ((0 : Int) ≤ 1) && decide (1 ≤ (↑(List.length s) : Int))) = true := by simp; omega
  unfold tokFirstC
  simp only [hq, hb, if_true, Bool.false_eq_true, if_false]
  repeat' split
  all_goals first
    | rfl
    | (rename_i h; exfalso; apply h; simp; omega)

theorem tokFirst_res (s : Str) (h0 : s ≠ []) (h1 : s.length ≤ 1000000000) (hm : tokMay (tokFirst s).1 = true) : ∃ k : Nat, (tokFirst s).2 = (k : Int) ∧ 1 ≤ k ∧ k ≤ s.length := by
  have hl : 1 ≤ s.length := by cases s with | nil => exact absurd rfl h0 | cons _ _ => simp
  have r1 := runLen_le letterC partC s
  have r2 := runLen_le digitC digitC s
  have hq := quoted_res (s.length + 1) s 1 0 [] (by omega) hl (by omega) h1
  unfold tokFirst at hm ⊢
  simp only [if_true, Bool.false_eq_true, if_false] at hm ⊢
  split
  · rename_i h
    have := of_decide_eq_true h
    exact ⟨_, rfl, by omega, by omega⟩
  · rename_i h
    rw [if_neg h] at hm
    split
    · rename_i h2
      have := of_decide_eq_true h2
      exact ⟨_, rfl, by omega, by omega⟩
    · rename_i h2
      rw [if_neg h2] at hm
      split
      · rename_i h3
        rw [if_pos h3] at hm
        rcases hq with hq | ⟨k, hk, hk1, hk2⟩
        · exfalso
          have hqq : quoted s = ((0, []), 0) := hq
          rw [hqq] at hm
          revert hm
          decide
        · exact ⟨k, hk, hk1, hk2⟩
      · exact ⟨1, rfl, by omega, by omega⟩

theorem cutC_true : ∀ (n : Nat) (s : Str) (i : Nat) (l : List (Sem shFor)), i ≤ s.length → s.length + 1 ≤ n + i → s.length ≤ 1000000000 → l.length ≤ 400 → cutC_3 n s (i : Int) l = true
  | 0, s, i, l, h1, h2, h3, h4 => by omega
  | n + 1, s, i, l, h1, h2, h3, h4 => by
    rw [cutC_3]
    split
    · rename_i hlt
      have hlt : i < s.length := by have := of_decide_eq_true hlt; omega
      have e1 : List.take ((s.length : Int).toNat - (i : Int).toNat) (List.drop (i : Int).toNat s) = s.drop i := by
        simp only [Int.toNat_natCast]
        exact List.take_of_length_le (by simp)
      rw [e1]
      refine gi ?_ ?_
      · rw [inB_of hlt]
        cases (((s.getD (i : Int).toNat 0).toNat : Int) == 32) <;> rfl
      · split
        · rw [wrapN1 i (by omega)]
          exact cutC_true n s (i + 1) l (by omega) (by omega) h3 h4
        · have hne : s.drop i ≠ [] := by
            intro h
            have := congrArg List.length h
            simp at this
            omega
          have hdl : (s.drop i).length ≤ 1000000000 := by simp; omega
          refine gi ?_ (gi (tokFirstC_true _ hne hdl) (gi (tokMayC_true _) ?_))
          · simp; omega
          · split
            · rfl
            · rename_i hh
              have hm : tokMay (tokFirst (s.drop i)).1 = true := by
                cases hq : tokMay (tokFirst (s.drop i)).1
                · rw [hq] at hh; simp at hh
                · rfl
              have hl4 : l.length ≠ 400 := by
                intro h5
                rw [hm, h5] at hh
                simp at hh
              obtain ⟨k, hk, hk1, hk2⟩ := tokFirst_res _ hne hdl hm
              have hk3 : k ≤ s.length - i := by simpa using hk2
              refine gi (dec_le ?_) ?_
              · simp; omega
              · rw [hk, show ((i : Int) + (k : Int)) = ((i + k : Nat) : Int) by omega, wrapN (i + k) (by omega)]
                exact cutC_true n s (i + k) _ (by omega) (by omega) h3 (by simp; omega)
    · rfl

theorem cutC_all (s : Str) (h : s.length ≤ 1000000000) : cutC s = true := cutC_true (s.length + 1) s 0 [] (by omega) (by omega) h (by simp)
open Go Go.Proofs
set_option maxHeartbeats 4000000

structure ShortS (s : Sem shStmt) : Prop where
  op : s.1.length ≤ 1000
  table : s.2.1.length ≤ 1000
  other : s.2.2.1.length ≤ 1000
  names : s.2.2.2.1.length ≤ 20 ∧ ∀ x ∈ s.2.2.2.1, List.length x ≤ 1000
  cols : s.2.2.2.2.1.length ≤ 20 ∧ ∀ x ∈ s.2.2.2.2.1, List.length x.1 ≤ 1000
  key : s.2.2.2.2.2.1.length ≤ 1000
  uniques : s.2.2.2.2.2.2.1.length ≤ 20 ∧ ∀ x ∈ s.2.2.2.2.2.2.1, List.length x ≤ 1000
  refs : s.2.2.2.2.2.2.2.1.length ≤ 20 ∧ ∀ x ∈ s.2.2.2.2.2.2.2.1, List.length x.1 ≤ 1000 ∧ List.length x.2 ≤ 1000
  row : s.2.2.2.2.2.2.2.2.2.1.length ≤ 20
  sets : s.2.2.2.2.2.2.2.2.2.2.1.length ≤ 20 ∧ ∀ x ∈ s.2.2.2.2.2.2.2.2.2.2.1, List.length x.1 ≤ 1000
  role : s.2.2.2.2.2.2.2.2.2.2.2.2.length ≤ 1000

theorem join_len (sep : Str) (B : Nat) : ∀ l : List Str, (∀ x ∈ l, x.length ≤ B) → (Lib.join l sep).length ≤ l.length * (B + sep.length)
  | [], _ => by simp [Lib.join, List.intercalate]
  | [x], h => by
    rw [Lib.join_one]
    have := h x (by simp)
    simp
    omega
  | x :: y :: r, h => by
    have ih := join_len sep B (y :: r) (fun z hz => h z (List.mem_cons_of_mem _ hz))
    have hx := h x (by simp)
    have e : Lib.join (x :: y :: r) sep = x ++ sep ++ Lib.join (y :: r) sep := by simp [Lib.join, List.intercalate, List.intersperse]
    rw [e]
    simp only [List.length_append, List.length_cons] at ih ⊢
    rw [Nat.succ_mul]
    omega

theorem ixFrom_none {α : Type} (p : α → Bool) : ∀ (l : List α) (i : Nat), (!decide (ixFrom p l i ≥ 0)) = true → ∀ x ∈ l, p x = false
  | [], _, _, x, hx => by simp at hx
  | y :: r, i, h, x, hx => by
    rw [ixFrom] at h
    cases hy : p y
    · rw [hy] at h
      rcases List.mem_cons.1 hx with rfl | hx
      · exact hy
      · exact ixFrom_none p r (i + 1) (by simpa using h) x hx
    · exfalso
      rw [hy] at h
      simp at h
      try omega

theorem writtenC_true (e : ExprT) : writtenC e = true := gi (exTextC_true e) rfl
theorem written_len (e : ExprT) : (written e).length ≤ 30000000 := exText_len e
theorem wTextC_true (e : ExprT) : wTextC e = true := by
  unfold wTextC
  have := written_len e
  split
  · rfl
  · refine gi (writtenC_true e) (gi (dec_le ?_) rfl)
    simp; omega
theorem wText_len (e : ExprT) : (wText e).length ≤ 30000010 := by
  unfold wText
  have := written_len e
  split
  · simp
  · simp; omega
theorem chTextC_true (s : Str) (h : s.length ≤ 10) (e : ExprT) : chTextC s e = true := by
  unfold chTextC
  have := written_len e
  split
  · rfl
  · refine gi (dec_le ?_) (gi (writtenC_true e) (gi (dec_le ?_) (gi (dec_le ?_) rfl)))
    all_goals (simp; omega)
theorem chText_len (s : Str) (h : s.length ≤ 10) (e : ExprT) : (chText s e).length ≤ 30000030 := by
  unfold chText
  have := written_len e
  split
  · simp
  · simp; omega
theorem setTextC_true (x : Sem shSet) (h : List.length x.1 ≤ 1000) : setTextC x = true := by
  unfold setTextC
  have := written_len x.2
  refine gi (dec_le ?_) (gi (writtenC_true _) (gi (dec_le ?_) rfl))
  all_goals (simp; omega)
theorem setText_len (x : Sem shSet) (h : List.length x.1 ≤ 1000) : (setText x).length ≤ 30001010 := by
  unfold setText
  have := written_len x.2
  simp; omega
theorem colTextC_true (x : Sem shCol) (h : List.length x.1 ≤ 1000) (h1 : (1 : Int) ≤ x.2.1) (h2 : LE.le (α := Int) x.2.1 3) : colTextC x = true := by
  obtain ⟨nm, ty, nn⟩ := x
  replace h : nm.length ≤ 1000 := h
  replace h1 : LE.le (α := Int) 1 ty := h1
  replace h2 : LE.le (α := Int) ty 3 := h2
  have hw : IntKind.i64.wrap (ty - 1) = ty - 1 := wrap_small _ (by omega) (by omega)
  have hin : inB (ty - 1) 3 = true := by simp [inB]; omega
  unfold colTextC
  simp only [hw, hin, Bool.cond_eq_ite]
  repeat' split
  all_goals first
    | rfl
    | (rename_i hf; exfalso; apply hf; simp; omega)
    | (rename_i hf _; exfalso; apply hf; simp; omega)
    | (exfalso; simp_all; omega)
theorem colText_len (x : Sem shCol) (h : List.length x.1 ≤ 1000) : (colText x).length ≤ 1100 := by
  unfold colText
  simp only [Bool.cond_eq_ite]
  repeat' split
  all_goals (simp; omega)

theorem colTexts_eq : ∀ (l : List (Sem shCol)) (i : Int) (acc : List Str), colTexts_3 l i acc = Lib.join (acc ++ l.map colText) [32, 44, 32]
  | [], i, acc => by simp [colTexts_3]
  | x :: r, i, acc => by rw [colTexts_3, colTexts_eq r]; simp
theorem colTexts_len (B : Nat) (l : List (Sem shCol)) (h : ∀ x ∈ l, (colText x).length ≤ B) : (colTexts l).length ≤ l.length * (B + 3) := by
  unfold colTexts
  rw [colTexts_eq]
  have := join_len [32, 44, 32] B ([] ++ l.map colText) (fun y hy => by
    simp only [List.nil_append, List.mem_map] at hy
    obtain ⟨x, hx, rfl⟩ := hy
    exact h x hx)
  simpa using this
theorem colTextsC_ok (B : Nat) (hB : B ≤ 100000000) : ∀ (l : List (Sem shCol)) (i : Int) (acc : List Str), (∀ x ∈ l, colTextC x = true ∧ (colText x).length ≤ B) → (∀ x ∈ acc, x.length ≤ B) → acc.length + l.length ≤ 40 → colTextsC_3 l i acc = true
  | [], i, acc, _, ha, hl => by
    rw [colTextsC_3]
    refine gi ?_ rfl
    have h1 := join_len [32, 44, 32] B acc ha
    have h2 : acc.length * (B + 3) ≤ 40 * 100000003 := Nat.mul_le_mul (by simpa using hl) (by omega)
    replace h1 : (Lib.join acc [32, 44, 32]).length ≤ acc.length * (B + 3) := h1
    simp only [Bool.and_eq_true, decide_eq_true_eq]
    simp at hl
    exact ⟨by omega, by omega⟩
  | x :: r, i, acc, h, ha, hl => by
    rw [colTextsC_3]
    have hx := h x (by simp)
    simp at hl
    refine gi hx.1 (gi (dec_le ?_) ?_)
    · simp; omega
    · refine colTextsC_ok B hB r (i + 1) _ (fun y hy => h y (List.mem_cons_of_mem _ hy)) (fun y hy => ?_) (by simp; omega)
      rcases List.mem_append.1 hy with hy | hy
      · exact ha y hy
      · simp at hy; subst hy; exact hx.2

theorem strTexts_eq : ∀ (l : List (Sem Sh.str)) (i : Int) (acc : List Str), strTexts_3 l i acc = Lib.join (acc ++ l.map sSame) [32, 44, 32]
  | [], i, acc => by simp [strTexts_3]
  | x :: r, i, acc => by rw [strTexts_3, strTexts_eq r]; simp
theorem strTexts_len (B : Nat) (l : List (Sem Sh.str)) (h : ∀ x ∈ l, (sSame x).length ≤ B) : (strTexts l).length ≤ l.length * (B + 3) := by
  unfold strTexts
  rw [strTexts_eq]
  have := join_len [32, 44, 32] B ([] ++ l.map sSame) (fun y hy => by
    simp only [List.nil_append, List.mem_map] at hy
    obtain ⟨x, hx, rfl⟩ := hy
    exact h x hx)
  simpa using this
theorem strTextsC_ok (B : Nat) (hB : B ≤ 100000000) : ∀ (l : List (Sem Sh.str)) (i : Int) (acc : List Str), (∀ x ∈ l, (sSame x).length ≤ B) → (∀ x ∈ acc, x.length ≤ B) → acc.length + l.length ≤ 40 → strTextsC_3 l i acc = true
  | [], i, acc, _, ha, hl => by
    rw [strTextsC_3]
    refine gi ?_ rfl
    have h1 := join_len [32, 44, 32] B acc ha
    have h2 : acc.length * (B + 3) ≤ 40 * 100000003 := Nat.mul_le_mul (by simpa using hl) (by omega)
    replace h1 : (Lib.join acc [32, 44, 32]).length ≤ acc.length * (B + 3) := h1
    simp only [Bool.and_eq_true, decide_eq_true_eq]
    simp at hl
    exact ⟨by omega, by omega⟩
  | x :: r, i, acc, h, ha, hl => by
    rw [strTextsC_3]
    have hx := h x (by simp)
    simp at hl
    refine gi (dec_le ?_) ?_
    · simp; omega
    · refine strTextsC_ok B hB r (i + 1) _ (fun y hy => h y (List.mem_cons_of_mem _ hy)) (fun y hy => ?_) (by simp; omega)
      rcases List.mem_append.1 hy with hy | hy
      · exact ha y hy
      · simp at hy; subst hy; exact hx

theorem valTexts_eq : ∀ (l : List (Sem shVal)) (i : Int) (acc : List Str), valTexts_3 l i acc = Lib.join (acc ++ l.map vText) [32, 44, 32]
  | [], i, acc => by simp [valTexts_3]
  | x :: r, i, acc => by rw [valTexts_3, valTexts_eq r]; simp
theorem valTexts_len (B : Nat) (l : List (Sem shVal)) (h : ∀ x ∈ l, (vText x).length ≤ B) : (valTexts l).length ≤ l.length * (B + 3) := by
  unfold valTexts
  rw [valTexts_eq]
  have := join_len [32, 44, 32] B ([] ++ l.map vText) (fun y hy => by
    simp only [List.nil_append, List.mem_map] at hy
    obtain ⟨x, hx, rfl⟩ := hy
    exact h x hx)
  simpa using this
theorem valTextsC_ok (B : Nat) (hB : B ≤ 100000000) : ∀ (l : List (Sem shVal)) (i : Int) (acc : List Str), (∀ x ∈ l, vTextC x = true ∧ (vText x).length ≤ B) → (∀ x ∈ acc, x.length ≤ B) → acc.length + l.length ≤ 40 → valTextsC_3 l i acc = true
  | [], i, acc, _, ha, hl => by
    rw [valTextsC_3]
    refine gi ?_ rfl
    have h1 := join_len [32, 44, 32] B acc ha
    have h2 : acc.length * (B + 3) ≤ 40 * 100000003 := Nat.mul_le_mul (by simpa using hl) (by omega)
    replace h1 : (Lib.join acc [32, 44, 32]).length ≤ acc.length * (B + 3) := h1
    simp only [Bool.and_eq_true, decide_eq_true_eq]
    simp at hl
    exact ⟨by omega, by omega⟩
  | x :: r, i, acc, h, ha, hl => by
    rw [valTextsC_3]
    have hx := h x (by simp)
    simp at hl
    refine gi hx.1 (gi (dec_le ?_) ?_)
    · simp; omega
    · refine valTextsC_ok B hB r (i + 1) _ (fun y hy => h y (List.mem_cons_of_mem _ hy)) (fun y hy => ?_) (by simp; omega)
      rcases List.mem_append.1 hy with hy | hy
      · exact ha y hy
      · simp at hy; subst hy; exact hx.2

theorem setTexts_eq : ∀ (l : List (Sem shSet)) (i : Int) (acc : List Str), setTexts_3 l i acc = Lib.join (acc ++ l.map setText) [32, 44, 32]
  | [], i, acc => by simp [setTexts_3]
  | x :: r, i, acc => by rw [setTexts_3, setTexts_eq r]; simp
theorem setTexts_len (B : Nat) (l : List (Sem shSet)) (h : ∀ x ∈ l, (setText x).length ≤ B) : (setTexts l).length ≤ l.length * (B + 3) := by
  unfold setTexts
  rw [setTexts_eq]
  have := join_len [32, 44, 32] B ([] ++ l.map setText) (fun y hy => by
    simp only [List.nil_append, List.mem_map] at hy
    obtain ⟨x, hx, rfl⟩ := hy
    exact h x hx)
  simpa using this
theorem setTextsC_ok (B : Nat) (hB : B ≤ 100000000) : ∀ (l : List (Sem shSet)) (i : Int) (acc : List Str), (∀ x ∈ l, setTextC x = true ∧ (setText x).length ≤ B) → (∀ x ∈ acc, x.length ≤ B) → acc.length + l.length ≤ 40 → setTextsC_3 l i acc = true
  | [], i, acc, _, ha, hl => by
    rw [setTextsC_3]
    refine gi ?_ rfl
    have h1 := join_len [32, 44, 32] B acc ha
    have h2 : acc.length * (B + 3) ≤ 40 * 100000003 := Nat.mul_le_mul (by simpa using hl) (by omega)
    replace h1 : (Lib.join acc [32, 44, 32]).length ≤ acc.length * (B + 3) := h1
    simp only [Bool.and_eq_true, decide_eq_true_eq]
    simp at hl
    exact ⟨by omega, by omega⟩
  | x :: r, i, acc, h, ha, hl => by
    rw [setTextsC_3]
    have hx := h x (by simp)
    simp at hl
    refine gi hx.1 (gi (dec_le ?_) ?_)
    · simp; omega
    · refine setTextsC_ok B hB r (i + 1) _ (fun y hy => h y (List.mem_cons_of_mem _ hy)) (fun y hy => ?_) (by simp; omega)
      rcases List.mem_append.1 hy with hy | hy
      · exact ha y hy
      · simp at hy; subst hy; exact hx.2

theorem upd_ops {s : Sem shStmt} (h : sParts s = true) : (s.1 = [99, 114, 101, 97, 116, 101] ∧ creates s = true) ∨ (s.1 = [103, 114, 111, 117, 112] ∧ s.2.2.2.1.length = 2) ∨
    (s.1 ∈ ([[100, 114, 111, 112], [105, 110, 115, 101, 114, 116], [117, 112, 100, 97, 116, 101], [100, 101, 108, 101, 116, 101], [115, 101, 108, 101, 99, 116], [114, 101, 97, 100], [119, 114, 105, 116, 101], [117, 110, 114, 101, 97, 100], [117, 110, 119, 114, 105, 116, 101], [99, 111, 112, 121], [106, 111, 105, 110]] : List Str)) := by
  unfold sParts at h
  by_cases q0 : (s.1 == [99, 114, 101, 97, 116, 101]) = true
  · rw [if_pos q0] at h
    refine .inl ⟨eq_of_beq q0, ?_⟩
    cases h2 : creates s
    · rw [h2] at h
      cases h1 : sName s.2.1 <;> rw [h1] at h <;> cases h
    · rfl
  rw [if_neg q0] at h
  by_cases q1 : (s.1 == [100, 114, 111, 112]) = true
  · exact .inr (.inr (by rw [eq_of_beq q1]; simp))
  rw [if_neg q1] at h
  by_cases q2 : (s.1 == [105, 110, 115, 101, 114, 116]) = true
  · exact .inr (.inr (by rw [eq_of_beq q2]; simp))
  rw [if_neg q2] at h
  by_cases q3 : (s.1 == [117, 112, 100, 97, 116, 101]) = true
  · exact .inr (.inr (by rw [eq_of_beq q3]; simp))
  rw [if_neg q3] at h
  by_cases q4 : (s.1 == [100, 101, 108, 101, 116, 101]) = true
  · exact .inr (.inr (by rw [eq_of_beq q4]; simp))
  rw [if_neg q4] at h
  by_cases q5 : (s.1 == [115, 101, 108, 101, 99, 116]) = true
  · exact .inr (.inr (by rw [eq_of_beq q5]; simp))
  rw [if_neg q5] at h
  by_cases q6 : (s.1 == [114, 101, 97, 100]) = true
  · exact .inr (.inr (by rw [eq_of_beq q6]; simp))
  rw [if_neg q6] at h
  by_cases q7 : (s.1 == [119, 114, 105, 116, 101]) = true
  · exact .inr (.inr (by rw [eq_of_beq q7]; simp))
  rw [if_neg q7] at h
  by_cases q8 : (s.1 == [117, 110, 114, 101, 97, 100]) = true
  · exact .inr (.inr (by rw [eq_of_beq q8]; simp))
  rw [if_neg q8] at h
  by_cases q9 : (s.1 == [117, 110, 119, 114, 105, 116, 101]) = true
  · exact .inr (.inr (by rw [eq_of_beq q9]; simp))
  rw [if_neg q9] at h
  by_cases q10 : (s.1 == [99, 111, 112, 121]) = true
  · exact .inr (.inr (by rw [eq_of_beq q10]; simp))
  rw [if_neg q10] at h
  by_cases q11 : (s.1 == [106, 111, 105, 110]) = true
  · exact .inr (.inr (by rw [eq_of_beq q11]; simp))
  rw [if_neg q11] at h
  by_cases q12 : (s.1 == [103, 114, 111, 117, 112]) = true
  · rw [if_pos q12] at h
    refine .inr (.inl ⟨eq_of_beq q12, ?_⟩)
    by_cases hl : s.2.2.2.1.length = 2
    · exact hl
    · exfalso
      have hd : (bif decide ((s.2.2.2.1.length : Int) < 2) then true else decide ((s.2.2.2.1.length : Int) > 2)) = true := by
        rcases Nat.lt_or_gt_of_ne hl with h2 | h2
        · have : decide ((s.2.2.2.1.length : Int) < 2) = true := decide_eq_true (by omega)
          rw [this]; rfl
        · have : decide ((s.2.2.2.1.length : Int) > 2) = true := decide_eq_true (by omega)
          rw [this]; cases decide ((s.2.2.2.1.length : Int) < 2) <;> rfl
      rw [hd] at h
      cases h1 : sName s.2.1 <;> cases h2 : sName s.2.2.1 <;> rw [h1, h2] at h <;> cases h
  rw [if_neg q12] at h
  cases h

open Go Go.Proofs
set_option maxHeartbeats 4000000

theorem createdC_10_true {a0 : Sem Sh.str} {a1 : Sem Sh.str} {a2 : Sem Sh.str} {a3 : List (Sem Sh.str)} {a4 : List (Sem shCol)} {a5 : Sem Sh.str} {a6 : List (Sem Sh.str)} {a7 : List (Sem (Sh.str.pr Sh.str))} {a8 : Str} {a9 : Int} {a10 : Int} {a11 : Str} {a12 : Str} {a13 : List (Sem Sh.expr)} {a14 : List (Sem shVal)} {a15 : List (Sem (Sh.str.pr Sh.expr))} {a16 : Str} {a17 : Int} {a18 : Int} {a19 : Str} {a20 : Str} {a21 : List (Sem Sh.expr)} {a22 : Sem Sh.str} : ∀ (l : List (Sem (Sh.str.pr Sh.str))) (i : Int) (s : Str), (∀ x ∈ l, List.length x.1 ≤ 1000 ∧ List.length x.2 ≤ 1000) → s.length + l.length * 3000 ≤ 1000000 →
    createdC_10 a0 a1 a2 a3 a4 a5 a6 a7 a8 a9 a10 a11 a12 a13 a14 a15 a16 a17 a18 a19 a20 a21 a22 l i s = true ∧ (created_10 a0 a1 a2 a3 a4 a5 a6 a7 a8 a9 a10 a11 a12 a13 a14 a15 a16 a17 a18 a19 a20 a21 a22 l i s).length ≤ 40000000
  | [], i, s, _, hs => by
    rw [createdC_10, created_10]
    have h1 := chText_len [32, 44, 32] (by simp) (ExprT.mk a8 (a9, a10, a11) a12 a13)
    simp at hs
    refine ⟨gi (chTextC_true _ (by simp) _) (gi (dec_le ?_) (gi (dec_le ?_) rfl)), ?_⟩
    all_goals first | omega | (simp; omega)
  | x :: r, i, s, h, hs => by
    have hx := h x (by simp)
    simp at hs
    rw [createdC_10, created_10]
    obtain ⟨k1, k2⟩ := createdC_10_true (a0 := a0) (a1 := a1) (a2 := a2) (a3 := a3) (a4 := a4) (a5 := a5) (a6 := a6) (a7 := a7) (a8 := a8) (a9 := a9) (a10 := a10) (a11 := a11) (a12 := a12) (a13 := a13) (a14 := a14) (a15 := a15) (a16 := a16) (a17 := a17) (a18 := a18) (a19 := a19) (a20 := a20) (a21 := a21) (a22 := a22) r (i + 1) (s ++ ([32, 44, 32, 82, 69, 70, 69, 82, 69, 78, 67, 69, 83, 32, 40, 32] ++ x.1 ++ [32, 41, 32] ++ x.2)) (fun y hy => h y (List.mem_cons_of_mem _ hy)) (by simp; omega)
    refine ⟨gi (dec_le ?_) (gi (dec_le ?_) (gi (dec_le ?_) (gi (dec_le ?_) k1))), k2⟩
    all_goals (simp; omega)

theorem createdC_5_true {a0 : Sem Sh.str} {a1 : Sem Sh.str} {a2 : Sem Sh.str} {a3 : List (Sem Sh.str)} {a4 : List (Sem shCol)} {a5 : Sem Sh.str} {a6 : List (Sem Sh.str)} {a7 : List (Sem (Sh.str.pr Sh.str))} {a8 : Str} {a9 : Int} {a10 : Int} {a11 : Str} {a12 : Str} {a13 : List (Sem Sh.expr)} {a14 : List (Sem shVal)} {a15 : List (Sem (Sh.str.pr Sh.expr))} {a16 : Str} {a17 : Int} {a18 : Int} {a19 : Str} {a20 : Str} {a21 : List (Sem Sh.expr)} {a22 : Sem Sh.str} (h7 : a7.length ≤ 20 ∧ ∀ x ∈ a7, List.length x.1 ≤ 1000 ∧ List.length x.2 ≤ 1000) : ∀ (l : List (Sem Sh.str)) (i : Int) (s : Str), (∀ x ∈ l, List.length x ≤ 1000) → s.length + l.length * 3000 ≤ 900000 →
    createdC_5 a0 a1 a2 a3 a4 a5 a6 a7 a8 a9 a10 a11 a12 a13 a14 a15 a16 a17 a18 a19 a20 a21 a22 l i s = true ∧ (created_5 a0 a1 a2 a3 a4 a5 a6 a7 a8 a9 a10 a11 a12 a13 a14 a15 a16 a17 a18 a19 a20 a21 a22 l i s).length ≤ 40000000
  | [], i, s, _, hs => by
    rw [createdC_5, created_5]
    simp at hs
    exact createdC_10_true a7 0 s h7.2 (by have := h7.1; omega)
  | x :: r, i, s, h, hs => by
    have hx := h x (by simp)
    simp at hs
    rw [createdC_5, created_5]
    obtain ⟨k1, k2⟩ := createdC_5_true (a0 := a0) (a1 := a1) (a2 := a2) (a3 := a3) (a4 := a4) (a5 := a5) (a6 := a6) (a7 := a7) (a8 := a8) (a9 := a9) (a10 := a10) (a11 := a11) (a12 := a12) (a13 := a13) (a14 := a14) (a15 := a15) (a16 := a16) (a17 := a17) (a18 := a18) (a19 := a19) (a20 := a20) (a21 := a21) (a22 := a22) h7 r (i + 1) (s ++ ([32, 44, 32, 85, 78, 73, 81, 85, 69, 32, 40, 32] ++ x ++ [32, 41])) (fun y hy => h y (List.mem_cons_of_mem _ hy)) (by simp; omega)
    refine ⟨gi (dec_le ?_) (gi (dec_le ?_) (gi (dec_le ?_) k1)), k2⟩
    all_goals (simp; omega)

theorem creates_cols {s : Sem shStmt} (h : creates s = true) : ∀ x ∈ s.2.2.2.2.1, colOk x = true := by
  intro x hx
  have hq : (!decide (ixFrom (fun x => !colOk x) s.2.2.2.2.1 0 ≥ 0)) = true := by
    unfold creates at h
    cases h1 : (bif decide ((↑(List.length s.2.2.2.2.1) : Int) < 1) then true else decide ((↑(List.length s.2.2.2.2.1) : Int) > 8))
    · rw [h1] at h
      cases h2 : (!decide (ixFrom (fun x => !colOk x) s.2.2.2.2.1 0 ≥ 0))
      · rw [h2] at h; cases h
      · rfl
    · rw [h1] at h; cases h
  have := ixFrom_none (fun x => !colOk x) _ 0 hq x hx
  simpa using this

theorem colOk_type {x : Sem shCol} (h : colOk x = true) : LE.le (α := Int) 1 x.2.1 ∧ LE.le (α := Int) x.2.1 3 := by
  unfold colOk at h
  cases h1 : sName x.1
  · rw [h1] at h; cases h
  · rw [h1] at h
    cases h2 : decide (x.2.1 ≥ 1)
    · rw [h2] at h; cases h
    · rw [h2] at h
      have h3 : decide (x.2.1 ≤ 3) = true := h
      exact ⟨of_decide_eq_true h2, of_decide_eq_true h3⟩

theorem createdC_true {s : Sem shStmt} (hs : ShortS s) (hc : creates s = true) : createdC s = true ∧ (created s).length ≤ 40000000 := by
  have hcol := creates_cols hc
  have c1 : ∀ x ∈ s.2.2.2.2.1, colTextC x = true ∧ (colText x).length ≤ 1100 := fun x hx => ⟨colTextC_true x (hs.cols.2 x hx) (colOk_type (hcol x hx)).1 (colOk_type (hcol x hx)).2, colText_len x (hs.cols.2 x hx)⟩
  have c2 : colTextsC s.2.2.2.2.1 = true := colTextsC_ok 1100 (by omega) _ 0 [] c1 (by simp) (by have := hs.cols.1; simp; omega)
  have c3 := colTexts_len 1100 s.2.2.2.2.1 (fun x hx => (c1 x hx).2)
  have c4 : s.2.2.2.2.1.length * (1100 + 3) ≤ 20 * 1103 := Nat.mul_le_mul hs.cols.1 (by omega)
  have t1 := hs.table
  have t2 := hs.key
  have u1 := hs.uniques.1
  unfold createdC created
  obtain ⟨k1, k2⟩ := createdC_5_true (a0 := s.1) (a1 := s.2.1) (a2 := s.2.2.1) (a3 := s.2.2.2.1) (a4 := s.2.2.2.2.1) (a5 := s.2.2.2.2.2.1) (a6 := s.2.2.2.2.2.2.1) (a8 := s.2.2.2.2.2.2.2.2.1.op) (a9 := s.2.2.2.2.2.2.2.2.1.v.1) (a10 := s.2.2.2.2.2.2.2.2.1.v.2.1) (a11 := s.2.2.2.2.2.2.2.2.1.v.2.2) (a12 := s.2.2.2.2.2.2.2.2.1.s) (a13 := s.2.2.2.2.2.2.2.2.1.l) (a14 := s.2.2.2.2.2.2.2.2.2.1) (a15 := s.2.2.2.2.2.2.2.2.2.2.1) (a16 := s.2.2.2.2.2.2.2.2.2.2.2.1.op) (a17 := s.2.2.2.2.2.2.2.2.2.2.2.1.v.1) (a18 := s.2.2.2.2.2.2.2.2.2.2.2.1.v.2.1) (a19 := s.2.2.2.2.2.2.2.2.2.2.2.1.v.2.2) (a20 := s.2.2.2.2.2.2.2.2.2.2.2.1.s) (a21 := s.2.2.2.2.2.2.2.2.2.2.2.1.l) (a22 := s.2.2.2.2.2.2.2.2.2.2.2.2)
    hs.refs s.2.2.2.2.2.2.1 0 ([67, 82, 69, 65, 84, 69, 32, 84, 65, 66, 76, 69, 32] ++ s.2.1 ++ [32, 40, 32] ++ colTexts s.2.2.2.2.1 ++ ([32, 44, 32, 75, 69, 89, 32, 40, 32] ++ s.2.2.2.2.2.1 ++ [32, 41])) hs.uniques.2 (by
      have : s.2.2.2.2.2.2.1.length * 3000 ≤ 20 * 3000 := Nat.mul_le_mul u1 (by omega)
      simp; omega)
  refine ⟨gi (dec_le ?_) (gi (dec_le ?_) (gi c2 (gi (dec_le ?_) (gi (dec_le ?_) (gi (dec_le ?_) (gi (dec_le ?_) k1)))))), k2⟩
  all_goals (simp; omega)

theorem sTextC_true {s : Sem shStmt} (hs : ShortS s) (hp : sParts s = true) : sTextC s = true ∧ (sText s).length ≤ 1000000000 := by
  have t1 := hs.table
  have t2 := hs.other
  have t3 := hs.key
  have t4 := hs.role
  have t5 := hs.op
  have tu := toUpperA_len s.1
  have w1 := wText_len s.2.2.2.2.2.2.2.2.2.2.2.1
  have w2 := chText_len [32] (by simp) s.2.2.2.2.2.2.2.2.1
  have v1 : valTextsC s.2.2.2.2.2.2.2.2.2.1 = true := valTextsC_ok 300 (by omega) _ 0 [] (fun x _ => ⟨vTextC_true x, vText_len x⟩) (by simp) (by have := hs.row; simp; omega)
  have v2 := valTexts_len 300 s.2.2.2.2.2.2.2.2.2.1 (fun x _ => vText_len x)
  have v3 : s.2.2.2.2.2.2.2.2.2.1.length * (300 + 3) ≤ 20 * 303 := Nat.mul_le_mul hs.row (by omega)
  have e1 : setTextsC s.2.2.2.2.2.2.2.2.2.2.1 = true := setTextsC_ok 30001010 (by omega) _ 0 [] (fun x hx => ⟨setTextC_true x (hs.sets.2 x hx), setText_len x (hs.sets.2 x hx)⟩) (by simp) (by have := hs.sets.1; simp; omega)
  have e2 := setTexts_len 30001010 s.2.2.2.2.2.2.2.2.2.2.1 (fun x hx => setText_len x (hs.sets.2 x hx))
  have e3 : s.2.2.2.2.2.2.2.2.2.2.1.length * (30001010 + 3) ≤ 20 * 30001013 := Nat.mul_le_mul hs.sets.1 (by omega)
  have n1 : strTextsC s.2.2.2.1 = true := strTextsC_ok 1000 (by omega) _ 0 [] (fun x hx => hs.names.2 x hx) (by simp) (by have := hs.names.1; simp; omega)
  have n2 := strTexts_len 1000 s.2.2.2.1 (fun x hx => hs.names.2 x hx)
  have n3 : s.2.2.2.1.length * (1000 + 3) ≤ 20 * 1003 := Nat.mul_le_mul hs.names.1 (by omega)
  have go : ∀ op : Str, s.1 = op → (∀ z : Bool, z = true → z = true) := fun _ _ _ h => h
  clear go
  rcases upd_ops hp with ⟨hop, hc⟩ | ⟨hop, hl2⟩ | hop
  · have hup : (decide (List.length s.1 ≤ 140737488355328) && List.all s.1 fun b => decide (b.toNat < 128)) = true := by rw [hop]; decide
    have q0 : (s.1 == [99, 114, 101, 97, 116, 101]) = true := by rw [hop]; rfl
    have q1 : (s.1 == [100, 114, 111, 112]) = false := by rw [hop]; rfl
    have q2 : (s.1 == [105, 110, 115, 101, 114, 116]) = false := by rw [hop]; rfl
    have q3 : (s.1 == [117, 112, 100, 97, 116, 101]) = false := by rw [hop]; rfl
    have q4 : (s.1 == [100, 101, 108, 101, 116, 101]) = false := by rw [hop]; rfl
    have q5 : (s.1 == [115, 101, 108, 101, 99, 116]) = false := by rw [hop]; rfl
    have q6 : (s.1 == [114, 101, 97, 100]) = false := by rw [hop]; rfl
    have q7 : (s.1 == [119, 114, 105, 116, 101]) = false := by rw [hop]; rfl
    have q8 : (s.1 == [117, 110, 114, 101, 97, 100]) = false := by rw [hop]; rfl
    have q9 : (s.1 == [117, 110, 119, 114, 105, 116, 101]) = false := by rw [hop]; rfl
    have q10 : (s.1 == [99, 111, 112, 121]) = false := by rw [hop]; rfl
    have q11 : (s.1 == [106, 111, 105, 110]) = false := by rw [hop]; rfl
    have q12 : (s.1 == [103, 114, 111, 117, 112]) = false := by rw [hop]; rfl
    have kc := createdC_true hs hc
    refine ⟨?_, ?_⟩
    · unfold sTextC
      simp only [q0, q1, q2, q3, q4, q5, q6, q7, q8, q9, q10, q11, if_true, Bool.false_eq_true, if_false]
      repeat' (with_reducible refine gi ?_ ?_)
      all_goals first
        | rfl
        | exact hup
        | exact v1
        | exact e1
        | exact n1
        | exact wTextC_true _
        | exact chTextC_true _ (by simp) _
        | exact kc.1
        | (refine dec_le ?_; simp; omega)
        | (rw [hop]; decide)
        | (refine dec_le ?_; rw [hop]; simp [toUpperA_len]; omega)
    · unfold sText
      simp only [q0, q1, q2, q3, q4, q5, q6, q7, q8, q9, q10, q11, if_true, Bool.false_eq_true, if_false]
      have := kc.2
      omega
  · have hup : (decide (List.length s.1 ≤ 140737488355328) && List.all s.1 fun b => decide (b.toNat < 128)) = true := by rw [hop]; decide
    have q0 : (s.1 == [99, 114, 101, 97, 116, 101]) = false := by rw [hop]; rfl
    have q1 : (s.1 == [100, 114, 111, 112]) = false := by rw [hop]; rfl
    have q2 : (s.1 == [105, 110, 115, 101, 114, 116]) = false := by rw [hop]; rfl
    have q3 : (s.1 == [117, 112, 100, 97, 116, 101]) = false := by rw [hop]; rfl
    have q4 : (s.1 == [100, 101, 108, 101, 116, 101]) = false := by rw [hop]; rfl
    have q5 : (s.1 == [115, 101, 108, 101, 99, 116]) = false := by rw [hop]; rfl
    have q6 : (s.1 == [114, 101, 97, 100]) = false := by rw [hop]; rfl
    have q7 : (s.1 == [119, 114, 105, 116, 101]) = false := by rw [hop]; rfl
    have q8 : (s.1 == [117, 110, 114, 101, 97, 100]) = false := by rw [hop]; rfl
    have q9 : (s.1 == [117, 110, 119, 114, 105, 116, 101]) = false := by rw [hop]; rfl
    have q10 : (s.1 == [99, 111, 112, 121]) = false := by rw [hop]; rfl
    have q11 : (s.1 == [106, 111, 105, 110]) = false := by rw [hop]; rfl
    have q12 : (s.1 == [103, 114, 111, 117, 112]) = true := by rw [hop]; rfl
    have g0 : List.length (List.getD s.2.2.2.1 (Int.toNat 0) (dflt Sh.str)) ≤ 1000 := by
      rw [List.getD_eq_getElem?_getD, List.getElem?_eq_getElem (show (0 : Int).toNat < s.2.2.2.1.length by rw [hl2]; decide)]
      exact hs.names.2 _ (List.getElem_mem _)
    have g1 : List.length (List.getD s.2.2.2.1 (Int.toNat 1) (dflt Sh.str)) ≤ 1000 := by
      rw [List.getD_eq_getElem?_getD, List.getElem?_eq_getElem (show (1 : Int).toNat < s.2.2.2.1.length by rw [hl2]; decide)]
      exact hs.names.2 _ (List.getElem_mem _)
    refine ⟨?_, ?_⟩
    · unfold sTextC
      simp only [q0, q1, q2, q3, q4, q5, q6, q7, q8, q9, q10, q11, Bool.false_eq_true, if_false]
      repeat' (with_reducible refine gi ?_ ?_)
      all_goals first
        | rfl
        | exact hup
        | exact v1
        | exact e1
        | exact n1
        | exact wTextC_true _
        | exact chTextC_true _ (by simp) _
        | (simp [inB, hl2]; done)
        | (refine dec_le ?_; simp at g0 g1 ⊢; omega)
        | (rw [hop]; decide)
        | (refine dec_le ?_; rw [hop]; simp [toUpperA_len]; omega)
    · unfold sText
      simp only [q0, q1, q2, q3, q4, q5, q6, q7, q8, q9, q10, q11, Bool.false_eq_true, if_false]
      first
        | (simp at g0 g1 ⊢; omega)
        | (rw [hop]; simp [toUpperA_len]; omega)
  · simp only [List.mem_cons, List.not_mem_nil, or_false] at hop
    rcases hop with hop | hop | hop | hop | hop | hop | hop | hop | hop | hop | hop
    all_goals
      have hup : (decide (List.length s.1 ≤ 140737488355328) && List.all s.1 fun b => decide (b.toNat < 128)) = true := by rw [hop]; decide
      have q0 : (s.1 == [99, 114, 101, 97, 116, 101]) = false := by rw [hop]; rfl
      first | (have q1 : (s.1 == [100, 114, 111, 112]) = false := by rw [hop]; rfl) | (have q1 : (s.1 == [100, 114, 111, 112]) = true := by rw [hop]; rfl)
      first | (have q2 : (s.1 == [105, 110, 115, 101, 114, 116]) = false := by rw [hop]; rfl) | (have q2 : (s.1 == [105, 110, 115, 101, 114, 116]) = true := by rw [hop]; rfl)
      first | (have q3 : (s.1 == [117, 112, 100, 97, 116, 101]) = false := by rw [hop]; rfl) | (have q3 : (s.1 == [117, 112, 100, 97, 116, 101]) = true := by rw [hop]; rfl)
      first | (have q4 : (s.1 == [100, 101, 108, 101, 116, 101]) = false := by rw [hop]; rfl) | (have q4 : (s.1 == [100, 101, 108, 101, 116, 101]) = true := by rw [hop]; rfl)
      first | (have q5 : (s.1 == [115, 101, 108, 101, 99, 116]) = false := by rw [hop]; rfl) | (have q5 : (s.1 == [115, 101, 108, 101, 99, 116]) = true := by rw [hop]; rfl)
      first | (have q6 : (s.1 == [114, 101, 97, 100]) = false := by rw [hop]; rfl) | (have q6 : (s.1 == [114, 101, 97, 100]) = true := by rw [hop]; rfl)
      first | (have q7 : (s.1 == [119, 114, 105, 116, 101]) = false := by rw [hop]; rfl) | (have q7 : (s.1 == [119, 114, 105, 116, 101]) = true := by rw [hop]; rfl)
      first | (have q8 : (s.1 == [117, 110, 114, 101, 97, 100]) = false := by rw [hop]; rfl) | (have q8 : (s.1 == [117, 110, 114, 101, 97, 100]) = true := by rw [hop]; rfl)
      first | (have q9 : (s.1 == [117, 110, 119, 114, 105, 116, 101]) = false := by rw [hop]; rfl) | (have q9 : (s.1 == [117, 110, 119, 114, 105, 116, 101]) = true := by rw [hop]; rfl)
      first | (have q10 : (s.1 == [99, 111, 112, 121]) = false := by rw [hop]; rfl) | (have q10 : (s.1 == [99, 111, 112, 121]) = true := by rw [hop]; rfl)
      first | (have q11 : (s.1 == [106, 111, 105, 110]) = false := by rw [hop]; rfl) | (have q11 : (s.1 == [106, 111, 105, 110]) = true := by rw [hop]; rfl)
      have q12 : (s.1 == [103, 114, 111, 117, 112]) = false := by rw [hop]; rfl
      refine ⟨?_, ?_⟩
      · unfold sTextC
        simp only [q0, q1, q2, q3, q4, q5, q6, q7, q8, q9, q10, q11, if_true, Bool.false_eq_true, if_false]
        repeat' (with_reducible refine gi ?_ ?_)
        all_goals first
          | rfl
          | exact hup
          | exact v1
          | exact e1
          | exact n1
          | exact wTextC_true _
          | exact chTextC_true _ (by simp) _
          | (refine dec_le ?_; simp; omega)
          | (rw [hop]; decide)
          | (refine dec_le ?_; rw [hop]; simp [toUpperA_len]; omega)
      · unfold sText
        simp only [q0, q1, q2, q3, q4, q5, q6, q7, q8, q9, q10, q11, if_true, Bool.false_eq_true, if_false]
        first
          | (simp; omega)
          | (rw [hop]; simp [toUpperA_len]; omega)
theorem sEmptyC_true {x : Sem shStmt} (h1 : x.2.1.length ≤ 1000) (h2 : x.2.2.1.length ≤ 1000) (h3 : x.2.2.2.2.2.1.length ≤ 1000) (h4 : x.2.2.2.2.2.2.2.2.2.2.2.2.length ≤ 1000) : sEmptyC x = true := by
  unfold sEmptyC
  refine gi (dec_le ?_) (gi (dec_le ?_) (gi (dec_le ?_) rfl))
  all_goals first | omega | (simp; omega)

theorem bif_true {c g : Bool} (h : g = true) : (bif c then g else true) = true := by cases c <;> simp [h]

theorem sPartsC_true {s : Sem shStmt} (hs : ShortS s) : sPartsC s = true := by
  have t1 := hs.table
  have t2 := hs.other
  have t3 := hs.key
  have t4 := hs.role
  unfold sPartsC
  by_cases q0 : (s.1 == [99, 114, 101, 97, 116, 101]) = true
  · rw [if_pos q0]
    exact gi (bif_true (sEmptyC_true (by simp) (by first | exact t2 | simp) (by first | exact t3 | simp) (by first | exact t4 | simp))) rfl
  rw [if_neg q0]
  by_cases q1 : (s.1 == [100, 114, 111, 112]) = true
  · rw [if_pos q1]
    exact gi (bif_true (sEmptyC_true (by simp) (by first | exact t2 | simp) (by first | exact t3 | simp) (by first | exact t4 | simp))) rfl
  rw [if_neg q1]
  by_cases q2 : (s.1 == [105, 110, 115, 101, 114, 116]) = true
  · rw [if_pos q2]
    exact gi (bif_true (sEmptyC_true (by simp) (by first | exact t2 | simp) (by first | exact t3 | simp) (by first | exact t4 | simp))) rfl
  rw [if_neg q2]
  by_cases q3 : (s.1 == [117, 112, 100, 97, 116, 101]) = true
  · rw [if_pos q3]
    exact gi (bif_true (sEmptyC_true (by simp) (by first | exact t2 | simp) (by first | exact t3 | simp) (by first | exact t4 | simp))) rfl
  rw [if_neg q3]
  by_cases q4 : (s.1 == [100, 101, 108, 101, 116, 101]) = true
  · rw [if_pos q4]
    exact gi (bif_true (sEmptyC_true (by simp) (by first | exact t2 | simp) (by first | exact t3 | simp) (by first | exact t4 | simp))) rfl
  rw [if_neg q4]
  by_cases q5 : (s.1 == [115, 101, 108, 101, 99, 116]) = true
  · rw [if_pos q5]
    exact gi (bif_true (sEmptyC_true (by simp) (by first | exact t2 | simp) (by first | exact t3 | simp) (by first | exact t4 | simp))) rfl
  rw [if_neg q5]
  by_cases q6 : (s.1 == [114, 101, 97, 100]) = true
  · rw [if_pos q6]
    exact gi (bif_true (sEmptyC_true (by simp) (by first | exact t2 | simp) (by first | exact t3 | simp) (by first | exact t4 | simp))) rfl
  rw [if_neg q6]
  by_cases q7 : (s.1 == [119, 114, 105, 116, 101]) = true
  · rw [if_pos q7]
    exact gi (bif_true (sEmptyC_true (by simp) (by first | exact t2 | simp) (by first | exact t3 | simp) (by first | exact t4 | simp))) rfl
  rw [if_neg q7]
  by_cases q8 : (s.1 == [117, 110, 114, 101, 97, 100]) = true
  · rw [if_pos q8]
    exact gi (bif_true (sEmptyC_true (by simp) (by first | exact t2 | simp) (by first | exact t3 | simp) (by first | exact t4 | simp))) rfl
  rw [if_neg q8]
  by_cases q9 : (s.1 == [117, 110, 119, 114, 105, 116, 101]) = true
  · rw [if_pos q9]
    exact gi (bif_true (sEmptyC_true (by simp) (by first | exact t2 | simp) (by first | exact t3 | simp) (by first | exact t4 | simp))) rfl
  rw [if_neg q9]
  by_cases q10 : (s.1 == [99, 111, 112, 121]) = true
  · rw [if_pos q10]
    exact gi (bif_true (sEmptyC_true (by simp) (by first | exact t2 | simp) (by first | exact t3 | simp) (by first | exact t4 | simp))) rfl
  rw [if_neg q10]
  by_cases q11 : (s.1 == [106, 111, 105, 110]) = true
  · rw [if_pos q11]
    exact gi (bif_true (sEmptyC_true (by simp) (by first | exact t2 | simp) (by first | exact t3 | simp) (by first | exact t4 | simp))) rfl
  rw [if_neg q11]
  by_cases q12 : (s.1 == [103, 114, 111, 117, 112]) = true
  · rw [if_pos q12]
    exact gi (bif_true (sEmptyC_true (by simp) (by first | exact t2 | simp) (by first | exact t3 | simp) (by first | exact t4 | simp))) rfl
  rw [if_neg q12]

theorem stMayC_true {s : Sem shStmt} (hs : ShortS s) : stMayC s = true := by
  unfold stMayC
  refine gi ?_ rfl
  unfold stTextC
  refine gi (sPartsC_true hs) ?_
  split
  · rfl
  · rename_i h
    have hp : sParts s = true := by simpa using h
    obtain ⟨k1, k2⟩ := sTextC_true hs hp
    exact gi k1 (gi (cutC_all _ k2) rfl)
open Go Go.Proofs

theorem vsetAt_len : ∀ (es : List ((Int × Int × Str) × Int)) (n : Nat) (x : Int), (vsetAt es n x).length = es.length
  | [], _, _ => rfl
  | _ :: _, 0, _ => rfl
  | _ :: r, n + 1, x => by simp [vsetAt, vsetAt_len r n x]
theorem vent_len (es : List ((Int × Int × Str) × Int)) (k : Int × Int × Str) : (vent es k).length ≤ es.length + 1 := by
  unfold vent
  cases vhas es k <;> simp
theorem vidx_vent : ∀ (es : List ((Int × Int × Str) × Int)) (k : Int × Int × Str), (vhas es k = true → vidx es k < es.length) ∧ vidx es k ≤ es.length
  | [], k => ⟨fun h => by simp [vhas] at h, Nat.le_refl _⟩
  | p :: r, k => by
    obtain ⟨h1, h2⟩ := vidx_vent r k
    constructor
    · intro h
      rw [vidx]
      cases hk : (k == p.1) with
      | true => simp
      | false =>
        have : vhas r k = true := by simpa [vhas, hk] using h
        have := h1 this
        simp; omega
    · rw [vidx]
      cases (k == p.1) <;> simp <;> omega
theorem vidx_lt (es : List ((Int × Int × Str) × Int)) (k : Int × Int × Str) : vidx es k < (vent es k).length := by
  obtain ⟨h1, h2⟩ := vidx_vent es k
  unfold vent
  cases h : vhas es k with
  | true => exact h1 h
  | false => simp; omega

theorem rTwiceC_3_true {c : Int} {l : List (Sem shVal.sl)} (hc : ∀ r ∈ l, inB c (List.length r) = true) (hl : l.length ≤ 1000000) : ∀ (n i : Nat) (m : List ((Int × Int × Str) × Int)), i ≤ l.length → l.length < n + i → m.length ≤ i → rTwiceC_3 n c l (l.length : Int) (i : Int) m = true
  | 0, i, m, h1, h2, _ => by omega
  | n + 1, i, m, h1, h2, h3 => by
    rw [rTwiceC_3]
    by_cases h : i < l.length
    · rw [if_pos (lt_dec h), if_pos (inB_of h), getD_at l _ h, if_pos (hc _ (List.getElem_mem h)), if_pos (decide_eq_true (by omega)), if_pos (inB_of (vidx_lt _ _)), wrapN1 i (by omega)]
      split
      · rfl
      · refine rTwiceC_3_true hc hl n (i + 1) _ h (by omega) ?_
        rw [vsetAt_len]
        have := vent_len m (List.getD l[i] (Int.toNat c) (dflt shVal))
        omega
    · rw [if_neg (by simp; omega)]

theorem rTwiceC_true {x : Sem shRel} {c : Int} (hc : ∀ r ∈ x.2, inB c (List.length r) = true) (hl : x.2.length ≤ 1000000) : rTwiceC x c = true := by
  unfold rTwiceC
  exact rTwiceC_3_true hc hl 100000000 0 [] (by omega) (by omega) (by simp)

def inC (c : Int) (n : Nat) : Prop := 0 ≤ c ∧ c < n
theorem inC_inB {c : Int} {n : Nat} (h : inC c n) : inB c n = true := by
  simp [inB, h.1, h.2]
theorem may17_facts {a0 a1 a2 a3 a4 a5 a6 a7 a8 a9 b0} : ∀ (l : List (Sem shFor)) (i : Int), tMay_17 a0 a1 a2 a3 a4 a5 a6 a7 a8 a9 b0 l i = true → inC a2 a1.length ∧ ∀ f ∈ l, inC f.1 a1.length
  | [], i, h => by
    rw [tMay_17] at h
    split at h
    · rename_i h1
      refine ⟨?_, by simp⟩
      unfold inC
      cases h2 : decide (a2 ≥ 0) with
      | true =>
        rw [h2] at h1
        simp at h1 h2
        exact ⟨h2, h1⟩
      | false => rw [h2] at h1; simp at h1
    · cases h
  | x :: r, i, h => by
    rw [tMay_17] at h
    split at h
    · cases h
    · rename_i h1
      split at h
      · cases h
      · obtain ⟨h3, h4⟩ := may17_facts r _ h
        refine ⟨h3, fun f hf => ?_⟩
        rcases List.mem_cons.1 hf with rfl | hf
        · unfold inC
          cases h2 : decide (f.1 ≥ 0) with
          | true =>
            rw [h2] at h1
            simp at h1 h2
            exact ⟨h2, h1⟩
          | false => rw [h2] at h1; simp at h1
        · exact h4 f hf
theorem may11_facts {a0 a1 a2 a3 a4 a5 a6 a7 a8 a9 b0} : ∀ (l : List (Sem shInt)) (i : Int), tMay_11 a0 a1 a2 a3 a4 a5 a6 a7 a8 a9 b0 l i = true → inC a2 a1.length ∧ (∀ f ∈ a4, inC f.1 a1.length) ∧ ∀ u ∈ l, inC u a1.length
  | [], i, h => by
    rw [tMay_11] at h
    obtain ⟨h1, h2⟩ := may17_facts _ _ h
    exact ⟨h1, h2, by simp⟩
  | x :: r, i, h => by
    rw [tMay_11] at h
    split at h
    · cases h
    · rename_i h1
      obtain ⟨h3, h4, h5⟩ := may11_facts r _ h
      refine ⟨h3, h4, fun f hf => ?_⟩
      rcases List.mem_cons.1 hf with rfl | hf
      · unfold inC
        cases h2 : decide (f ≥ 0) with
        | true =>
          rw [h2] at h1
          simp at h1 h2
          exact ⟨h2, h1⟩
        | false => rw [h2] at h1; simp at h1
      · exact h5 f hf
theorem may4_facts {a0 a1 a2 a3 a4 a5 a6 a7 a8 a9 b0} : ∀ (l : List (Sem shCol)) (i : Int), tMay_4 a0 a1 a2 a3 a4 a5 a6 a7 a8 a9 b0 l i = true → inC a2 a1.length ∧ (∀ f ∈ a4, inC f.1 a1.length) ∧ ∀ u ∈ a3, inC u a1.length
  | [], i, h => by
    rw [tMay_4] at h
    exact may11_facts _ _ h
  | x :: r, i, h => by
    rw [tMay_4] at h
    split at h
    · cases h
    · exact may4_facts r _ h
theorem may_facts {t : Sem shTable} (h : tMay t = true) : inC t.2.2.1 t.2.1.length ∧ (∀ f ∈ t.2.2.2.2.1, inC f.1 t.2.1.length) ∧ (∀ u ∈ t.2.2.2.1, inC u t.2.1.length) ∧ t.2.1.length ≤ 8 ∧ 1 ≤ t.2.1.length := by
  unfold tMay at h
  split at h
  · cases h
  · rename_i h1
    obtain ⟨h2, h3, h4⟩ := may4_facts _ _ h
    refine ⟨h2, h3, h4, ?_⟩
    cases hn : nameOk t.1 with
    | false => rw [hn] at h1; simp at h1
    | true =>
      rw [hn] at h1
      cases hd : decide ((List.length t.2.1 : Int) < 1) with
      | true => rw [hd] at h1; simp at h1
      | false =>
        rw [hd] at h1
        simp at h1 hd
        omega
theorem fits_len {t : Sem shTable} {row : List (Sem shVal)} (h : (tFits t row != 0) ≠ true) : row.length = t.2.1.length := by
  simp at h
  unfold tFits at h
  split at h
  · cases h
  · rename_i h1
    cases hm : tMay t with
    | false => rw [hm] at h1; simp at h1
    | true =>
      rw [hm] at h1
      simp at h1
      omega
open Go Go.Proofs

theorem rCheckC_21_true {a0 a1 a2 a3 a4 a5 a6 a7 a8 a9 b0} {rows : List (Sem shVal.sl)} (hc : ∀ r ∈ rows, inB a2 (List.length r) = true) (hl : rows.length ≤ 1000000) : ∀ (n i : Nat), 1 ≤ i → rows.length < n + i → 0 < n → rCheckC_21 n (i : Int) a0 a1 a2 a3 a4 a5 a6 a7 a8 a9 b0 rows = true
  | 0, i, _, _, h => by omega
  | n + 1, i, h1, h2, _ => by
    rw [rCheckC_21]
    by_cases h : i < rows.length
    · have e : ((i : Int) - 1) = ((i - 1 : Nat) : Int) := by omega
      have h' : i - 1 < rows.length := by omega
      rw [e, wrapN (i - 1) (by omega), if_pos (lt_dec h), if_pos (inB_of h'), getD_at rows _ h', if_pos (hc _ (List.getElem_mem h')), if_pos (inB_of h), getD_at rows _ h, if_pos (hc _ (List.getElem_mem h)), wrapN1 i (by omega)]
      split
      · rfl
      · exact rCheckC_21_true hc hl n (i + 1) (by omega) (by omega) (by omega)
    · rw [if_neg (by simp; omega)]

theorem rCheckC_15_true {a0 a1 a2 a3 a4 a5 a6 a7 a8 a9 b0} {rows : List (Sem shVal.sl)} {us : List (Sem shInt)} (hc : ∀ r ∈ rows, inB a2 (List.length r) = true) (hu : ∀ u ∈ us, ∀ r ∈ rows, inB u (List.length r) = true) (hl : rows.length ≤ 1000000) (hl2 : us.length ≤ 1000000) :
    ∀ (n i : Nat), i ≤ us.length → us.length + rows.length + 2 < n + i → rCheckC_15 n us (us.length : Int) (i : Int) a0 a1 a2 a3 a4 a5 a6 a7 a8 a9 b0 rows = true
  | 0, i, h1, h2 => by omega
  | n + 1, i, h1, h2 => by
    rw [rCheckC_15]
    by_cases h : i < us.length
    · rw [if_pos (lt_dec h), if_pos (inB_of h), getD_at us _ h, if_pos (rTwiceC_true (hu _ (List.getElem_mem h)) hl), wrapN1 i (by omega)]
      split
      · rfl
      · exact rCheckC_15_true hc hu hl hl2 n (i + 1) (by omega) (by omega)
    · rw [if_neg (by simp; omega)]
      exact rCheckC_21_true hc hl n 1 (by omega) (by omega) (by omega)

theorem rCheckC_6_true {a0 : Str} {a1 : List (Sem shCol)} {a2 : Int} {a3 : List Int} {a4 : List (Sem shFor)} {a5 a6 a7 a8 a9 b0} {rows : List (Sem shVal.sl)} (hk : inC a2 a1.length) (hu : ∀ u ∈ a3, inC u a1.length) (hl : rows.length ≤ 1000000) (hl2 : a3.length ≤ 1000000) :
    ∀ (n i : Nat), i ≤ rows.length → a3.length + rows.length + rows.length + 5 < n + i → (∀ (j : Nat) r, j < i → rows[j]? = some r → List.length r = a1.length) → rCheckC_6 n rows (rows.length : Int) (i : Int) a0 a1 a2 a3 a4 a5 a6 a7 a8 a9 b0 rows = true
  | 0, i, h1, h2, _ => by omega
  | n + 1, i, h1, h2, h3 => by
    rw [rCheckC_6]
    by_cases h : i < rows.length
    · rw [if_pos (lt_dec h), if_pos (inB_of h), getD_at rows _ h, wrapN1 i (by omega)]
      split
      · rfl
      · rename_i hf
        refine rCheckC_6_true hk hu hl hl2 n (i + 1) (by omega) (by omega) (fun j r hj hr => ?_)
        by_cases hji : j < i
        · exact h3 j r hji hr
        · obtain rfl : j = i := by omega
          rw [List.getElem?_eq_getElem h] at hr
          cases hr
          exact fits_len hf
    · rw [if_neg (by simp; omega)]
      have hlen : ∀ r ∈ rows, List.length r = a1.length := by
        intro r hr
        obtain ⟨j, hj, rfl⟩ := List.getElem_of_mem hr
        exact h3 j _ (by omega) (List.getElem?_eq_getElem hj)
      have hc : ∀ u, inC u a1.length → ∀ r ∈ rows, inB u (List.length r) = true := by
        intro u hu' r hr
        rw [hlen r hr]
        exact inC_inB hu'
      rw [if_pos (rTwiceC_true (hc _ hk) hl)]
      split
      · rfl
      · exact rCheckC_15_true (hc _ hk) (fun u hu' => hc u (hu u hu')) hl hl2 n 0 (by omega) (by omega)

structure ShortR (x : Sem shRel) : Prop where
  uq : x.1.2.2.2.1.length ≤ 1000
  rf : x.1.2.2.2.2.1.length ≤ 1000
  rw : x.2.length ≤ 1000

theorem rCheckC_true {x : Sem shRel} (h : ShortR x) : rCheckC x = true := by
  unfold rCheckC
  split
  · rfl
  · rename_i hm
    have hm : tMay x.1 = true := by simpa using hm
    obtain ⟨f1, f2, f3, _⟩ := may_facts hm
    split
    · rfl
    · have := h.uq
      have := h.rw
      exact rCheckC_6_true f1 f3 (by omega) (by omega) 100000000 0 (by omega) (by omega) (fun j r hj => by omega)

structure OkR (x : Sem shRel) : Prop where
  may : tMay x.1 = true
  len : ∀ r ∈ x.2, List.length r = x.1.2.1.length
  few : x.2.length ≤ 200

theorem rCheck_6_fits {a0 : Str} {a1 : List (Sem shCol)} {a2 : Int} {a3 : List Int} {a4 : List (Sem shFor)} {a5 a6 a7 a8 a9 b0} {rows : List (Sem shVal.sl)} (hl : rows.length ≤ 1000000) :
    ∀ (n i : Nat), i ≤ rows.length → rows.length < n + i → rCheck_6 n rows (rows.length : Int) (i : Int) a0 a1 a2 a3 a4 a5 a6 a7 a8 a9 b0 rows = (0 : Int) → ∀ (j : Nat) r, i ≤ j → rows[j]? = some r → tFits (a0, a1, a2, a3, a4, ExprT.mk a5 (a6, a7, a8) a9 b0) r = (0 : Int)
  | 0, i, h1, h2, _ => by omega
  | n + 1, i, h1, h2, h3 => by
    rw [rCheck_6] at h3
    intro j r hj hr
    have hjl : j < rows.length := (List.getElem?_eq_some_iff.1 hr).1
    have h : i < rows.length := by omega
    rw [if_pos (lt_dec h), getD_at rows _ h, wrapN1 i (by omega)] at h3
    split at h3
    · rename_i h4
      rw [h3] at h4
      simp at h4
    · rename_i h4
      by_cases hji : i = j
      · subst hji
        rw [List.getElem?_eq_getElem h] at hr
        cases hr
        simpa using h4
      · exact rCheck_6_fits hl n (i + 1) (by omega) (by omega) h3 j r (by omega) hr

theorem rCheck_fits {x : Sem shRel} (h : rCheck x = (0 : Int)) : tMay x.1 = true ∧ (x.2.length ≤ 200) ∧ ∀ r ∈ x.2, tFits x.1 r = (0 : Int) := by
  unfold rCheck at h
  split at h
  · cases h
  · rename_i hm
    have hm : tMay x.1 = true := by simpa using hm
    split at h
    · cases h
    · rename_i hl
      have hl : x.2.length ≤ 200 := by simp at hl; omega
      refine ⟨hm, hl, fun r hr => ?_⟩
      obtain ⟨j, hj, rfl⟩ := List.getElem_of_mem hr
      have := rCheck_6_fits (by omega) 100000000 0 (by omega) (by omega) h j _ (by omega) (List.getElem?_eq_getElem hj)
      obtain ⟨⟨a0, a1, a2, a3, a4, e⟩, rows⟩ := x
      cases e
      exact this

theorem rCheck_ok {x : Sem shRel} (h : rCheck x = (0 : Int)) : OkR x := by
  obtain ⟨h1, h2, h3⟩ := rCheck_fits h
  exact ⟨h1, fun r hr => fits_len (by rw [h3 r hr]; simp), h2⟩
open Go Go.Proofs

theorem bBoundC_11_true {l0 : List (Sem shRel)} {i7 : Int} {l11 i12 i13 l19 i20 i21 a0 a1 a2 a3 a4 a5 a6 a7 a8 a9 b0 c1 s1} {rows W : List (Sem shVal.sl)} (hc : ∀ r ∈ rows, inB c1 (List.length r) = true) (h7 : inB i7 l0.length = true) (hl : rows.length ≤ 1000000) (K : Nat)
    (hk : ∀ n', K ≤ n' → bBoundC_5 n' l0 l11 i12 i13 l19 i20 (IntKind.i64.wrap (i21 + 1)) a0 a1 a2 a3 a4 a5 a6 a7 a8 a9 b0 W = true) : ∀ (n k : Nat), k ≤ rows.length → rows.length + 1 + K ≤ n + k → bBoundC_11 n l0 i7 l11 i12 i13 l19 i20 i21 rows (rows.length : Int) (k : Int) a0 a1 a2 a3 a4 a5 a6 a7 a8 a9 b0 W c1 s1 = true
  | 0, k, h1, h2 => by omega
  | n + 1, k, h1, h2 => by
    rw [bBoundC_11]
    by_cases h : k < rows.length
    · rw [if_pos (lt_dec h), if_pos (inB_of h), getD_at rows _ h, if_pos (hc _ (List.getElem_mem h)), h7, Bool.and_self, if_pos (bif_true rfl), wrapN1 k (by omega)]
      split
      · rfl
      · exact bBoundC_11_true hc h7 hl K hk n (k + 1) (by omega) (by omega)
    · rw [if_neg (by simp; omega)]
      exact hk n (by omega)

theorem bFind_range (l : List (Sem shRel)) (s : Str) : bFind l s = (-1 : Int) ∨ ((0 : Int) ≤ bFind l s ∧ LT.lt (α := Int) (bFind l s) l.length) := by
  have := ixFrom_range (fun x : Sem shRel => x.1.1 == s) l 0
  simp at this
  exact this

theorem bBoundC_5_true {l0 : List (Sem shRel)} {l11 i12 i13 a0 a1 a2 a3 a4 a5 a6 a7 a8 a9 b0} {refs : List (Sem shFor)} {rows : List (Sem shVal.sl)} (hc : ∀ f ∈ refs, ∀ r ∈ rows, inB f.1 (List.length r) = true) (hl : rows.length ≤ 200) (hl2 : refs.length ≤ 1000) (K : Nat)
    (hk : ∀ n', K ≤ n' → bBoundC_2 n' l0 l11 i12 (IntKind.i64.wrap (i13 + 1)) = true) : ∀ (m n j : Nat), refs.length - j = m → j ≤ refs.length → m * 210 + 2 + K ≤ n → bBoundC_5 n l0 l11 i12 i13 refs (refs.length : Int) (j : Int) a0 a1 a2 a3 a4 a5 a6 a7 a8 a9 b0 rows = true
  | m, 0, j, hm, h1, h2 => by omega
  | 0, n + 1, j, hm, h1, h2 => by
    rw [bBoundC_5, if_neg (by simp; omega)]
    exact hk n (by omega)
  | m + 1, n + 1, j, hm, h1, h2 => by
    rw [bBoundC_5]
    have h : j < refs.length := by omega
    rw [if_pos (lt_dec h), if_pos (inB_of h), getD_at refs _ h]
    split
    · rfl
    · rename_i hf
      have hf : ¬ LT.lt (α := Int) (bFind l0 refs[j].2) 0 := by simpa using hf
      refine bBoundC_11_true (hc _ (List.getElem_mem h)) ?_ (by omega) (m * 210 + 2 + K) (fun n' hn' => ?_) n 0 (by omega) (by omega)
      · rcases bFind_range l0 refs[j].2 with h3 | ⟨h3, h4⟩
        · rw [h3] at hf; simp at hf
        · simp [inB, h3, h4]
      · rw [wrapN1 j (by omega)]
        exact bBoundC_5_true hc hl hl2 K hk m n' (j + 1) (by omega) (by omega) hn'

theorem bBoundC_2_true {l0 db : List (Sem shRel)} (hok : ∀ x ∈ db, OkR x) (hs : ∀ x ∈ db, ShortR x) (hl : db.length ≤ 12) (m : Nat) : ∀ (n i : Nat), db.length - i = m → i ≤ db.length → m * 300000 + 1 ≤ n → bBoundC_2 n l0 db (db.length : Int) (i : Int) = true := by
  induction m with
  | zero =>
    intro n i hm h1 h2
    obtain ⟨n, rfl⟩ : ∃ k, n = k + 1 := ⟨n - 1, by omega⟩
    rw [bBoundC_2, if_neg (by simp; omega)]
  | succ m ih =>
    intro n i hm h1 h2
    obtain ⟨n, rfl⟩ : ∃ k, n = k + 1 := ⟨n - 1, by omega⟩
    rw [bBoundC_2]
    have h : i < db.length := by omega
    have hmem : db[i] ∈ db := List.getElem_mem h
    have ok := hok _ hmem
    have sh := hs _ hmem
    obtain ⟨_, f2, _⟩ := may_facts ok.may
    rw [if_pos (lt_dec h), if_pos (inB_of h), getD_at db _ h]
    refine bBoundC_5_true (fun f hf r hr => ?_) ok.few sh.rf (m * 300000 + 1) (fun n' hn' => ?_) _ n 0 rfl (by omega) ?_
    · rw [ok.len r hr]
      exact inC_inB (f2 f hf)
    · rw [wrapN1 i (by omega)]
      exact ih n' (i + 1) (by omega) (by omega) hn'
    · have := sh.rf
      omega

theorem bBoundC_true {db : List (Sem shRel)} (hok : ∀ x ∈ db, OkR x) (hs : ∀ x ∈ db, ShortR x) (hl : db.length ≤ 12) : bBoundC db = true := by
  unfold bBoundC
  exact bBoundC_2_true hok hs hl _ 100000000 0 rfl (by omega) (by omega)

theorem bCheckC_9_true {db : List (Sem shRel)} (hs : ∀ x ∈ db, ShortR x) (hl : db.length ≤ 12) : ∀ (n i : Nat), i ≤ db.length → db.length + 1 ≤ n + i → (∀ (j : Nat) x, j < i → db[j]? = some x → OkR x) → bCheckC_9 n db db (db.length : Int) (i : Int) = true
  | 0, i, h1, h2, _ => by omega
  | n + 1, i, h1, h2, h3 => by
    rw [bCheckC_9]
    by_cases h : i < db.length
    · rw [if_pos (lt_dec h), if_pos (inB_of h), getD_at db _ h, if_pos (rCheckC_true (hs _ (List.getElem_mem h))), wrapN1 i (by omega)]
      split
      · rfl
      · rename_i hr
        refine bCheckC_9_true hs hl n (i + 1) (by omega) (by omega) (fun j x hj hx => ?_)
        by_cases hji : j < i
        · exact h3 j x hji hx
        · obtain rfl : j = i := by omega
          rw [List.getElem?_eq_getElem h] at hx
          cases hx
          exact rCheck_ok (by simpa using hr)
    · rw [if_neg (by simp; omega)]
      rw [if_pos (bBoundC_true (fun x hx => ?_) hs hl)]
      obtain ⟨j, hj, rfl⟩ := List.getElem_of_mem hx
      exact h3 j _ (by omega) (List.getElem?_eq_getElem hj)

theorem bCheckC_4_true {db : List (Sem shRel)} (hs : ∀ x ∈ db, ShortR x) (hl : db.length ≤ 12) : ∀ (n i : Nat), 1 ≤ i → i ≤ db.length + 1 → db.length + db.length + 4 ≤ n + i → bCheckC_4 n db (i : Int) = true
  | 0, i, _, h1, h2 => by omega
  | n + 1, i, h0, h1, h2 => by
    rw [bCheckC_4]
    by_cases h : i < db.length
    · have e : ((i : Int) - 1) = ((i - 1 : Nat) : Int) := by omega
      have h' : i - 1 < db.length := by omega
      rw [e, wrapN (i - 1) (by omega), if_pos (lt_dec h), if_pos (inB_of h'), if_pos (inB_of h), wrapN1 i (by omega)]
      split
      · rfl
      · exact bCheckC_4_true hs hl n (i + 1) (by omega) (by omega) (by omega)
    · rw [if_neg (by simp; omega)]
      exact bCheckC_9_true hs hl n 0 (by omega) (by omega) (fun j x hj => by omega)

theorem bCheckC_true {db : List (Sem shRel)} (hs : ∀ x ∈ db, ShortR x) : bCheckC db = true := by
  unfold bCheckC
  split
  · rfl
  · rename_i h
    have : db.length ≤ 12 := by simp at h; omega
    exact bCheckC_4_true hs this 100000000 1 (by omega) (by omega) (by omega)
open Go Go.Proofs
set_option maxHeartbeats 4000000

theorem getD_at' {α : Type} (l : List α) (d : α) {i : Nat} (h : i < l.length) : l.getD ((i : Int).toNat) d = l[i] := by
  rw [Int.toNat_natCast, List.getD_eq_getElem?_getD, List.getElem?_eq_getElem h, Option.getD_some]

def SrcOk (y : CSem cpMk) (y' : CSem cpMk) : Prop :=
  (0 : Int) ≤ bFind y.1 y.2.2.2.2.2.1 ∧ (y.2.2.2.2.2.2.1 = [] ∨ (0 : Int) ≤ bFind y.1 y.2.2.2.2.2.2.1) ∧ LT.lt (α := Int) (bFind y.1 y.2.1.2.1) 0 ∧ y.2.2.2.2.2.1 ≠ y.2.2.2.2.2.2.1 ∧
  y'.2.2.1 = (List.getD y.1 (Int.toNat (bFind y.1 y.2.2.2.2.2.1)) (dflt shRel)).1 ∧
  y'.2.2.2.1 = (if y.2.2.2.2.2.2.1 = [] then y.2.2.2.1 else (List.getD y.1 (Int.toNat (bFind y.1 y.2.2.2.2.2.2.1)) (dflt shRel)).1)

def SrcR (y : CSem cpMk) (r : Raw) : Prop := ∃ (e : Int) (y' : CSem cpMk), r = (.int .i64 e, cpHeap cpMk y') ∧ y'.1 = y.1 ∧ y'.2.1 = y.2.1 ∧ y'.2.2.2.2 = y.2.2.2.2 ∧ (e = 0 → SrcOk y y')

theorem inB_find {l : List (Sem shRel)} {s : Str} (h : (0 : Int) ≤ bFind l s) : inB (bFind l s) (List.length l) = true := by
  rcases bFind_range l s with h1 | ⟨h1, h2⟩
  · rw [h1] at h; omega
  · simp only [inB, Bool.and_eq_true, decide_eq_true_eq]; exact ⟨h1, h2⟩

theorem src11 (y : CSem cpMk) (ns : List Str) (hl : List.length y.1 ≤ 1000000) (h1 : (0 : Int) ≤ bFind y.1 y.2.2.2.2.2.1) (h2 : y.2.2.2.2.2.2.1 = [] ∨ (0 : Int) ≤ bFind y.1 y.2.2.2.2.2.2.1) (h3 : LT.lt (α := Int) (bFind y.1 y.2.1.2.1) 0) (h4 : y.2.2.2.2.2.1 ≠ y.2.2.2.2.2.2.1) (n : Nat) (hn : 1 + List.length y.1 ≤ n) :
    ∃ r, iterT t36p n (.h11 y.1 (List.length y.1 : Int) 0 y ns) = some r ∧ SrcR y r := by
  refine iter_inv (t := t36p) (β := Unit) (List.length y.1) (fun _ i => .h11 y.1 (List.length y.1 : Int) (i : Int) y ns) (fun _ _ => True) (SrcR y) 1 ?_ ?_ (List.length y.1) 0 () n rfl (Nat.zero_le _) trivial hn
  · intro b i hi _
    simp only [t36p, t36p_11, t36p_11z, Tr.val, lt_dec hi, inB_of hi, if_true]
    rw [wrap_add i (by unfold maxStr; omega)]
    by_cases c1 : (!hasStr ns (List.getD y.1 (Int.toNat (i : Int)) (dflt shRel)).1.1) = true
    · simp only [c1, if_true]
      split
      · exact Or.inr ⟨_, rfl, 10, y, rfl, rfl, rfl, rfl, fun h => by cases h⟩
      · exact Or.inl ⟨(), trivial, rfl⟩
    · simp only [c1]
      exact Or.inl ⟨(), trivial, rfl⟩
  · intro b n _ hn
    obtain ⟨n, rfl⟩ : ∃ k, n = k + 1 := ⟨n - 1, by omega⟩
    rw [iterT_val]
    simp only [t36p, t36p_11, t36p_11z, Tr.val, lt_dec', inB_find h1, if_true]
    by_cases c1 : (!y.2.2.2.2.2.2.1 == []) = true
    · have hne : y.2.2.2.2.2.2.1 ≠ [] := by simpa using c1
      have hb : (0 : Int) ≤ bFind y.1 y.2.2.2.2.2.2.1 := h2.resolve_left hne
      simp only [c1, if_true, inB_find hb]
      refine ⟨_, rfl, 0, _, rfl, rfl, rfl, rfl, fun _ => ⟨h1, h2, h3, h4, rfl, ?_⟩⟩
      simp [hne]
    · have he : y.2.2.2.2.2.2.1 = [] := by simpa using c1
      simp only [c1]
      refine ⟨_, rfl, 0, _, rfl, rfl, rfl, rfl, fun _ => ⟨h1, h2, h3, h4, rfl, ?_⟩⟩
      simp [he]

theorem src3 (y : CSem cpMk) (ns : List Str) (hns : ns = if (y.2.2.2.2.2.2.1 == []) = true then [y.2.2.2.2.2.1] else [y.2.2.2.2.2.1, y.2.2.2.2.2.2.1]) (hl : List.length y.1 ≤ 1000000) (n : Nat) (hn : 2 + List.length y.1 + ns.length ≤ n) :
    ∃ r, iterT t36p n (.h3 ns (List.length ns : Int) 0 y ns) = some r ∧ SrcR y r := by
  have hnl : ns.length ≤ 2 := by rw [hns]; split <;> simp
  refine iter_inv (t := t36p) (β := Unit) ns.length (fun _ i => .h3 ns (List.length ns : Int) (i : Int) y ns) (fun _ i => ∀ j (hj : j < ns.length), j < i → (0 : Int) ≤ bFind y.1 ns[j]) (SrcR y) (2 + List.length y.1) ?_ ?_ ns.length 0 () n rfl (Nat.zero_le _) (fun j _ h => by omega) hn
  · intro b i hi hI
    simp only [t36p, t36p_3, t36p_3z, Tr.val, lt_dec hi, inB_of hi, if_true, getD_at' ns _ hi]
    rw [wrap_add i (by unfold maxStr; omega)]
    by_cases c1 : (0 : Int) ≤ bFind y.1 ns[i]
    · have : decide (LT.lt (α := Int) (bFind y.1 ns[i]) 0) = false := by simpa using c1
      simp only [this]
      refine Or.inl ⟨(), fun j hj hji => ?_, rfl⟩
      by_cases hji2 : j = i
      · subst hji2; exact c1
      · exact hI j hj (by omega)
    · have : decide (LT.lt (α := Int) (bFind y.1 ns[i]) 0) = true := by simpa using c1
      simp only [this, if_true]
      exact Or.inr ⟨_, rfl, 6, y, rfl, rfl, rfl, rfl, fun h => by cases h⟩
  · intro b n hI hn
    obtain ⟨n, rfl⟩ : ∃ k, n = k + 1 := ⟨n - 1, by omega⟩
    have h1 : (0 : Int) ≤ bFind y.1 y.2.2.2.2.2.1 := by
      have := hI 0 (by rw [hns]; split <;> simp) (by rw [hns]; split <;> simp)
      simp only [hns] at this
      revert this
      split <;> exact id
    have h2 : y.2.2.2.2.2.2.1 = [] ∨ (0 : Int) ≤ bFind y.1 y.2.2.2.2.2.2.1 := by
      by_cases hw : (y.2.2.2.2.2.2.1 == []) = true
      · left; simpa using hw
      · right
        have e : ns = [y.2.2.2.2.2.1, y.2.2.2.2.2.2.1] := by rw [hns, if_neg hw]
        have := hI 1 (by rw [e]; simp) (by rw [e]; simp)
        simpa [e] using this
    rw [iterT_val]
    simp only [t36p, t36p_3, t36p_3z, Tr.val, lt_dec']
    by_cases c1 : (bif decide (GE.ge (α := Int) (bFind y.1 y.2.1.2.1) 0) then true else y.2.2.2.2.2.1 == y.2.2.2.2.2.2.1) = true
    · simp only [c1, if_true]
      exact ⟨_, rfl, 7, y, rfl, rfl, rfl, rfl, fun h => by cases h⟩
    · simp only [c1]
      have hd : decide (GE.ge (α := Int) (bFind y.1 y.2.1.2.1) 0) = false := by
        cases hh : decide (GE.ge (α := Int) (bFind y.1 y.2.1.2.1) 0) with
        | false => rfl
        | true => rw [hh] at c1; simp at c1
      rw [hd] at c1
      exact src11 y ns hl h1 h2 (by simpa using hd) (by simpa using c1) n (by omega)

theorem mSources_ok (y : CSem cpMk) (hl : List.length y.1 ≤ 1000000) : ∃ (e : Int) (y' : CSem cpMk), mSourcesO y = some ((e, ()), y') ∧ y'.1 = y.1 ∧ y'.2.1 = y.2.1 ∧ y'.2.2.2.2 = y.2.2.2.2 ∧ (e = 0 → SrcOk y y') := by
  have hps : pSources (y.2.2.2.2.1, y.2.2.2.2.2.1, y.2.2.2.2.2.2.1, (y.2.2.2.2.2.2.2.1, [], y.2.2.2.2.2.2.2.2.1, [], [], etaE y.2.2.2.2.2.2.2.2.2.1), [], y.2.2.2.2.2.2.2.2.2.2.1) = if (y.2.2.2.2.2.2.1 == []) = true then [y.2.2.2.2.2.1] else [y.2.2.2.2.2.1, y.2.2.2.2.2.2.1] := rfl
  obtain ⟨r, h1, e, y', rfl, h2⟩ := src3 y _ hps hl 100000000 (by
    have : List.length (pSources (y.2.2.2.2.1, y.2.2.2.2.2.1, y.2.2.2.2.2.2.1, (y.2.2.2.2.2.2.2.1, [], y.2.2.2.2.2.2.2.2.1, [], [], etaE y.2.2.2.2.2.2.2.2.2.1), [], y.2.2.2.2.2.2.2.2.2.2.1)) ≤ 2 := by rw [hps]; split <;> simp
    omega)
  refine ⟨e, y', ?_, h2⟩
  unfold mSourcesO outB runT
  simp only [i36p, i36pz, Tr.val]
  rw [h1]
  exact boxRes_heap (outs := [shInt]) (r := .int .i64 e) (a := (e, ())) y' rfl
open Go Go.Proofs
set_option maxHeartbeats 4000000

theorem toNat_lt' {i n : Nat} (h : i < n) : decide ((i : Int).toNat < n) = true := by simpa using h

theorem mTarget_ok (y : CSem cpMk3) (hl : y.2.2.2.2.2.2.2.2.1.length ≤ 1000000) : ∃ e : Int, mTargetO y = some ((e, ()), y) := by
  have h := iter_inv (t := t37p) (β := Unit) y.2.2.2.2.2.2.2.2.1.length (fun _ i => .h2 (y.2.2.2.2.2.2.2.2.1.length : Int) (i : Int) y) (fun _ _ => True) (fun r => ∃ e : Int, r = (.int .i64 e, cpHeap cpMk3 y)) 1 (by
      intro b i hi _
      simp only [t37p, t37p_2, t37p_2z, Tr.val, lt_dec hi, inB_of hi, toNat_lt' hi, if_true]
      rw [wrap_add i (by unfold maxStr; omega)]
      split
      · exact Or.inr ⟨_, rfl, 7, rfl⟩
      · exact Or.inl ⟨(), trivial, rfl⟩) (by
      intro b n _ hn
      obtain ⟨n, rfl⟩ : ∃ k, n = k + 1 := ⟨n - 1, by omega⟩
      have hv : ∃ e : Int, (t37p (.h2 (y.2.2.2.2.2.2.2.2.1.length : Int) (y.2.2.2.2.2.2.2.2.1.length : Int) y)).val = some (.inr (.int .i64 e, cpHeap cpMk3 y)) := by
        simp only [t37p, t37p_2, t37p_2z, Tr.val, lt_dec']
        split
        · simp_all
        · split
          · exact ⟨_, rfl⟩
          · split <;> exact ⟨_, rfl⟩
      obtain ⟨e, hv⟩ := hv
      rw [iterT_val, hv]
      exact ⟨_, rfl, e, rfl⟩)
    y.2.2.2.2.2.2.2.2.1.length 0 () 100000000 rfl (Nat.zero_le _) trivial (by omega)
  obtain ⟨r, h1, e, rfl⟩ := h
  refine ⟨e, ?_⟩
  unfold mTargetO outB runT
  simp only [i37p, Tr.val]
  have h1' : iterT t37p 100000000 (.h2 (y.2.2.2.2.2.2.2.2.1.length : Int) 0 y) = some (.int .i64 e, cpHeap cpMk3 y) := h1
  rw [h1']
  exact boxRes_heap (outs := [shInt]) (r := .int .i64 e) (a := (e, ())) y rfl
open Go Go.Proofs
set_option maxHeartbeats 4000000

theorem tPlace_range (t : Sem shTable) (s : Str) : tPlace t s = (-1 : Int) ∨ ((0 : Int) ≤ tPlace t s ∧ LT.lt (α := Int) (tPlace t s) (List.length t.2.1)) := by
  have := ixFrom_range (fun c : Sem shCol => c.1 == s) t.2.1 0
  unfold tPlace
  simpa using this

theorem inB_place {t : Sem shTable} {s : Str} (h : ¬ LT.lt (α := Int) (tPlace t s) 0) : inB (tPlace t s) (List.length t.2.1) = true := by
  rcases tPlace_range t s with h1 | ⟨h1, h2⟩
  · rw [h1] at h; simp at h
  · simp only [inB, Bool.and_eq_true, decide_eq_true_eq]; exact ⟨h1, h2⟩

theorem take_succ' {α : Type} {l : List α} {i : Nat} (h : i < l.length) : l.take (i + 1) = l.take i ++ [l[i]] := by
  rw [List.take_add_one, List.getElem?_eq_getElem h]
  rfl

def NmKeep (y : CSem cpMk) (z : CSem cpMk2) : Prop := z.1 = y.1 ∧ z.2.1 = y.2.1 ∧ z.2.2.1 = y.2.2.1 ∧ z.2.2.2.1 = y.2.2.2.1 ∧ z.2.2.2.2.1 = y.2.2.2.2.1 ∧ z.2.2.2.2.2.1 = y.2.2.2.2.2.1 ∧ z.2.2.2.2.2.2.1 = y.2.2.2.2.2.2.1 ∧ z.2.2.2.2.2.2.2.1 = y.2.2.2.2.2.2.2.1 ∧
  z.2.2.2.2.2.2.2.2.2.1 = y.2.2.2.2.2.2.2.2.1 ∧ z.2.2.2.2.2.2.2.2.2.2.1 = y.2.2.2.2.2.2.2.2.2.1 ∧ z.2.2.2.2.2.2.2.2.2.2.2.2 = y.2.2.2.2.2.2.2.2.2.2

abbrev nmCols (z : CSem cpMk2) : List (Sem shCol) := z.2.2.2.2.2.2.2.2.1
abbrev nmIx (z : CSem cpMk2) : List (Sem shInt) := z.2.2.2.2.2.2.2.2.2.2.2.1

def NmI (y : CSem cpMk) (l : List Str) (z : CSem cpMk2) : Prop := NmKeep y z ∧ nmIx z = l.map (fun s => tPlace y.2.2.1 s) ∧ nmCols z = l.map (fun s => List.getD y.2.2.1.2.1 (Int.toNat (tPlace y.2.2.1 s)) (dflt shCol)) ∧ ∀ s ∈ l, ¬ LT.lt (α := Int) (tPlace y.2.2.1 s) 0

def NmR (y : CSem cpMk) (r : Raw) : Prop := ∃ (e : Int) (z : CSem cpMk2), r = (.int .i64 e, cpHeap cpMk3 z) ∧ NmKeep y z ∧ (e = 0 → NmI y y.2.1.2.2.2.1 z)

theorem nm12b (y : CSem cpMk) (z : CSem cpMk2) (hz : NmI y y.2.1.2.2.2.1 z) (hl : (nmIx z).length ≤ 1000000) (m : Nat) : ∀ (i n : Nat), (nmIx z).length - i = m → i ≤ (nmIx z).length → 1 + m ≤ n → ∃ r, iterT t66p n (.h12b ((nmIx z).length : Int) (i : Int) z) = some r ∧ NmR y r := by
  intro i n hm hi hn
  refine iter_inv (t := t66p) (β := Unit) (nmIx z).length (fun _ i => .h12b ((nmIx z).length : Int) (i : Int) z) (fun _ _ => True) (NmR y) 1 ?_ ?_ m i () n hm hi trivial hn
  · intro b i hi _
    have hd : (decide (0 ≤ 0) && decide ((0 : Int) ≤ (i : Int)) && decide ((i : Int) ≤ ((nmIx z).length : Int))) = true := by simp; omega
    simp only [t66p, t66p_12b, t66p_12bz, Tr.val, lt_dec hi, inB_of hi, if_true, hd]
    rw [wrap_add i (by unfold maxStr; omega)]
    split
    · exact Or.inr ⟨_, rfl, 7, z, rfl, hz.1, fun h => by cases h⟩
    · exact Or.inl ⟨(), trivial, rfl⟩
  · intro b n _ hn
    obtain ⟨n, rfl⟩ : ∃ k, n = k + 1 := ⟨n - 1, by omega⟩
    rw [iterT_val]
    simp only [t66p, t66p_12b, t66p_12bz, Tr.val, lt_dec']
    exact ⟨_, rfl, 0, z, rfl, hz.1, fun _ => hz⟩

theorem nm12 (y : CSem cpMk) (z : CSem cpMk2) (hz : NmI y y.2.1.2.2.2.1 z) (hl : (nmIx z).length ≤ 1000000) (n : Nat) (hn : 2 + (nmIx z).length ≤ n) : ∃ r, iterT t66p n (.h12 ((nmIx z).length : Int) 0 z) = some r ∧ NmR y r := by
  obtain ⟨n, rfl⟩ : ∃ k, n = k + 1 := ⟨n - 1, by omega⟩
  rw [iterT_val]
  by_cases h : 0 < (nmIx z).length
  · have hd : (decide (0 ≤ 0) && decide ((0 : Int) ≤ ((0 : Nat) : Int)) && decide (((0 : Nat) : Int) ≤ ((nmIx z).length : Int))) = true := by simp
    have hv : (∃ r, (t66p (.h12 ((nmIx z).length : Int) ((0 : Nat) : Int) z)).val = some (.inr r) ∧ NmR y r) ∨ (t66p (.h12 ((nmIx z).length : Int) ((0 : Nat) : Int) z)).val = some (.inl (.h12b ((nmIx z).length : Int) ((1 : Nat) : Int) z)) := by
      simp only [t66p, t66p_12, t66p_12z, Tr.val, lt_dec h, inB_of h, toNat_lt' h, if_true, hd]
      rw [wrap_add 0 (by unfold maxStr; omega)]
      split
      · exact Or.inl ⟨_, rfl, 7, z, rfl, hz.1, fun h => by cases h⟩
      · exact Or.inr rfl
    rw [Int.ofNat_zero] at hv
    rcases hv with ⟨r, h1, h2⟩ | h1
    · rw [h1]; exact ⟨r, rfl, h2⟩
    · rw [h1]; exact nm12b y z hz hl _ 1 n rfl (by omega) (by omega)
  · have h0 : (nmIx z).length = 0 := by omega
    have hv : (t66p (.h12 ((nmIx z).length : Int) 0 z)).val = some (.inr (.int .i64 0, cpHeap cpMk3 z)) := by
      rw [h0]
      simp [t66p, t66p_12, t66p_12z, Tr.val]
    rw [hv]
    exact ⟨_, rfl, 0, z, rfl, hz.1, fun _ => hz⟩

theorem nm3 (y : CSem cpMk) (z : CSem cpMk2) (hz : NmI y [] z) (hl : y.2.1.2.2.2.1.length ≤ 1000000) (n : Nat) (hn : 3 + y.2.1.2.2.2.1.length + y.2.1.2.2.2.1.length ≤ n) : ∃ r, iterT t66p n (.h3 y.2.1.2.2.2.1 (y.2.1.2.2.2.1.length : Int) 0 z) = some r ∧ NmR y r := by
  refine iter_inv (t := t66p) (β := CSem cpMk2) y.2.1.2.2.2.1.length (fun z i => .h3 y.2.1.2.2.2.1 (y.2.1.2.2.2.1.length : Int) (i : Int) z) (fun z i => NmI y (y.2.1.2.2.2.1.take i) z) (NmR y) (3 + y.2.1.2.2.2.1.length) ?_ ?_ y.2.1.2.2.2.1.length 0 z n rfl (Nat.zero_le _) (by simpa using hz) hn
  · intro z i hi hI
    obtain ⟨hk, hx, hc, hp⟩ := hI
    have hkl : (nmIx z).length ≤ 1000000 := by rw [hx, List.length_map, List.length_take]; omega
    have hcl : (nmCols z).length ≤ 1000000 := by rw [hc, List.length_map, List.length_take]; omega
    have e3 : z.2.2.1 = y.2.2.1 := hk.2.2.1
    simp only [t66p, t66p_3, t66p_3z, Tr.val, lt_dec hi, inB_of hi, if_true, getD_at' _ _ hi, etaE_eq, Prod.eta]
    rw [wrap_add i (by unfold maxStr; omega)]
    by_cases c1 : LT.lt (α := Int) (tPlace z.2.2.1 y.2.1.2.2.2.1[i]) 0
    · simp only [decide_eq_true c1, if_true]
      exact Or.inr ⟨_, rfl, 4, z, rfl, hk, fun h => by cases h⟩
    · simp only [decide_eq_false c1, inB_place c1]
      refine Or.inl ⟨(z.1, z.2.1, z.2.2.1, z.2.2.2.1, z.2.2.2.2.1, z.2.2.2.2.2.1, z.2.2.2.2.2.2.1, z.2.2.2.2.2.2.2.1, z.2.2.2.2.2.2.2.2.1 ++ [List.getD z.2.2.1.2.1 (Int.toNat (tPlace z.2.2.1 y.2.1.2.2.2.1[i])) (dflt shCol)], z.2.2.2.2.2.2.2.2.2.1, z.2.2.2.2.2.2.2.2.2.2.1, z.2.2.2.2.2.2.2.2.2.2.2.1 ++ [tPlace z.2.2.1 y.2.1.2.2.2.1[i]], z.2.2.2.2.2.2.2.2.2.2.2.2), ⟨hk, ?_, ?_, ?_⟩, ?_⟩
      rotate_left 3
      · rw [if_neg (by simp), if_pos (by have : z.2.2.2.2.2.2.2.2.2.2.2.1.length ≤ 1000000 := hkl; simp; omega), if_pos trivial, if_pos (by have : z.2.2.2.2.2.2.2.2.1.length ≤ 1000000 := hcl; simp; omega)]
      · show nmIx z ++ [tPlace z.2.2.1 y.2.1.2.2.2.1[i]] = _
        rw [hx, e3, take_succ' hi, List.map_append]
        rfl
      · show nmCols z ++ [List.getD z.2.2.1.2.1 (Int.toNat (tPlace z.2.2.1 y.2.1.2.2.2.1[i])) (dflt shCol)] = _
        rw [hc, e3, take_succ' hi, List.map_append]
        rfl
      · intro s hs
        rw [take_succ' hi, List.mem_append] at hs
        rcases hs with hs | hs
        · exact hp s hs
        · rw [List.mem_singleton] at hs
          rw [hs, ← e3]; exact c1
  · intro z n hI hn
    obtain ⟨n, rfl⟩ : ∃ k, n = k + 1 := ⟨n - 1, by omega⟩
    rw [List.take_length] at hI
    have hkl : (nmIx z).length = y.2.1.2.2.2.1.length := by rw [hI.2.1, List.length_map]
    rw [iterT_val]
    simp only [t66p, t66p_3, t66p_3z, Tr.val, lt_dec']
    exact nm12 y z hI (by omega) n (by have : 2 + (nmIx z).length ≤ n := by rw [hkl]; omega
                                       exact this)

theorem mNamed_ok (y : CSem cpMk) (hl : y.2.1.2.2.2.1.length ≤ 1000000) : ∃ (e : Int) (z : CSem cpMk2), mNamedO y = some ((e, ()), z) ∧ NmKeep y z ∧ (e = 0 → NmI y y.2.1.2.2.2.1 z) := by
  obtain ⟨r, h1, e, z, rfl, h2⟩ := nm3 y (y.1, y.2.1, y.2.2.1, y.2.2.2.1, y.2.2.2.2.1, y.2.2.2.2.2.1, y.2.2.2.2.2.2.1, y.2.2.2.2.2.2.2.1, [], y.2.2.2.2.2.2.2.2.1, y.2.2.2.2.2.2.2.2.2.1, [], y.2.2.2.2.2.2.2.2.2.2)
    ⟨⟨rfl, rfl, rfl, rfl, rfl, rfl, rfl, rfl, rfl, rfl, rfl⟩, rfl, rfl, by simp⟩ hl 100000000 (by omega)
  refine ⟨e, z, ?_, h2⟩
  unfold mNamedO outB runT
  simp only [i66p, Tr.val]
  rw [h1]
  exact boxRes_heap (outs := [shInt]) (r := .int .i64 e) (a := (e, ())) (ps := cpMk3) z rfl
open Go Go.Proofs
set_option maxHeartbeats 4000000

theorem etaMk (y : CSem cpMk) : etaM y = y := by
  unfold etaM
  rw [etaE_eq, etaE_eq, etaE_eq, etaE_eq, etaE_eq]

theorem ixInt_2_range (x : Int) : ∀ (l : List Int) (i : Int), ixInt_2 x l i = (-1 : Int) ∨ ∃ (j : Nat) (h : j < l.length), ixInt_2 x l i = i + (j : Int) ∧ l[j] = x
  | [], _ => .inl rfl
  | a :: r, i => by
    rw [ixInt_2]
    split
    · rename_i h
      exact .inr ⟨0, by simp, by simp, by simpa using (eq_of_beq h).symm⟩
    · rcases ixInt_2_range x r (i + 1) with h | ⟨j, hj, h3, h4⟩
      · exact .inl h
      · refine .inr ⟨j + 1, by simpa using hj, ?_, by simpa using h4⟩
        rw [h3]
        show i + 1 + (j : Int) = i + ((j + 1 : Nat) : Int)
        omega

theorem ixInt_range (l : List Int) (x : Int) : ixInt l x = (-1 : Int) ∨ ∃ (j : Nat) (h : j < l.length), ixInt l x = (j : Int) ∧ l[j] = x := by
  rcases ixInt_2_range x l 0 with h | ⟨j, hj, h3, h4⟩
  · exact .inl h
  · exact .inr ⟨j, hj, by rw [ixInt, h3]; exact Int.zero_add _, h4⟩

structure AskOk (y : CSem cpMk) (z : CSem cpMk3) : Prop where
  cols : ∀ c ∈ z.2.2.2.2.2.2.2.2.1, ∃ d, (d ∈ y.2.2.1.2.1 ∨ (y.2.1.1 = [106, 111, 105, 110] ∧ d ∈ y.2.2.2.1.2.1)) ∧ c.1 = d.1 ∧ c.2.1 = d.2.1
  key : ∃ (k : Nat) (h : k < z.2.2.2.2.2.2.2.2.1.length), z.2.2.2.2.2.2.2.2.2.1 = (k : Int) ∧ ∃ d ∈ y.2.2.1.2.1, (z.2.2.2.2.2.2.2.2.1[k]).1 = d.1
  few : z.2.2.2.2.2.2.2.2.1.length ≤ 1000000

def AkKeep (y : CSem cpMk) (z : CSem cpMk3) : Prop := z.1 = y.1 ∧ z.2.1 = y.2.1 ∧ z.2.2.1 = y.2.2.1 ∧ z.2.2.2.1 = y.2.2.2.1 ∧ z.2.2.2.2.1 = y.2.2.2.2.1 ∧ z.2.2.2.2.2.1 = y.2.2.2.2.2.1 ∧ z.2.2.2.2.2.2.1 = y.2.2.2.2.2.2.1 ∧ z.2.2.2.2.2.2.2.1 = y.2.2.2.2.2.2.2.1

theorem getD_mem {α : Type} (l : List α) (d : α) {i : Nat} (h : i < l.length) : l.getD i d ∈ l := by
  rw [List.getD_eq_getElem?_getD, List.getElem?_eq_getElem h, Option.getD_some]
  exact List.getElem_mem h

theorem place_lt {t : Sem shTable} {s : Str} (h : ¬ LT.lt (α := Int) (tPlace t s) 0) : Int.toNat (tPlace t s) < List.length t.2.1 := by
  have := inB_place h
  simp only [inB, Bool.and_eq_true, decide_eq_true_eq] at this
  omega

theorem nm_cols {y : CSem cpMk} {z : CSem cpMk2} {l : List Str} (h : NmI y l z) : ∀ c ∈ nmCols z, c ∈ y.2.2.1.2.1 := by
  intro c hc
  rw [h.2.2.1, List.mem_map] at hc
  obtain ⟨s, hs, rfl⟩ := hc
  exact getD_mem _ _ (place_lt (h.2.2.2 s hs))

theorem i30_eq (y : CSem cpMk) : i30p y = i30pz y y (mNamed y) (ixInt (mNamed y).2.2.2.2.2.2.2.2.2.2.2.2.1 (mNamed y).2.2.2.1.2.2.1) := by
  unfold i30p
  rw [etaMk]

theorem mCopy_ok (y : CSem cpMk) (hl : y.2.1.2.2.2.1.length ≤ 1000) : ∃ (e : Int) (z : CSem cpMk3), mCopyO y = some ((e, ()), z) ∧ AkKeep y z ∧ z.2.2.2.2.2.2.2.2.2.2.1 = y.2.2.2.2.2.2.2.2.2.1 ∧ (e = 0 → AskOk y z) := by
  obtain ⟨e, z, h1, hk, h2⟩ := mNamed_ok y (by omega)
  have hn : mNamed y = (e, z) := by unfold mNamed; rw [h1]; rfl
  have hc : mNamedC y = true := by unfold mNamedC; rw [h1]; rfl
  unfold mCopyO outB runT
  rw [i30_eq]
  simp only [i30pz, Tr.val, hn, hc, if_true]
  by_cases he : e = 0
  · have hI := h2 he
    simp only [he, bne_self_eq_false, Bool.false_eq_true, if_false]
    by_cases hx : LT.lt (α := Int) (ixInt (nmIx z) z.2.2.1.2.2.1) 0
    · simp only [decide_eq_true hx, if_true]
      refine ⟨1, _, boxRes_heap (outs := [shInt]) (r := .int .i64 1) (a := (1, ())) (ps := cpMk3) _ rfl, ⟨hk.1, hk.2.1, hk.2.2.1, hk.2.2.2.1, hk.2.2.2.2.1, hk.2.2.2.2.2.1, hk.2.2.2.2.2.2.1, hk.2.2.2.2.2.2.2.1⟩, hk.2.2.2.2.2.2.2.2.2.1, fun h => by cases h⟩
    · simp only [decide_eq_false hx]
      refine ⟨0, _, boxRes_heap (outs := [shInt]) (r := .int .i64 0) (a := (0, ())) (ps := cpMk3) _ rfl, ⟨hk.1, hk.2.1, hk.2.2.1, hk.2.2.2.1, hk.2.2.2.2.1, hk.2.2.2.2.2.1, hk.2.2.2.2.2.2.1, hk.2.2.2.2.2.2.2.1⟩, hk.2.2.2.2.2.2.2.2.2.1, fun _ => ⟨?_, ?_, ?_⟩⟩
      · intro c hc
        exact ⟨c, .inl (nm_cols hI c hc), rfl, rfl⟩
      · rcases ixInt_range (nmIx z) z.2.2.1.2.2.1 with h | ⟨j, hj, h3, h4⟩
        · exfalso
          apply hx
          rw [h]; decide
        · have hj' : j < (nmCols z).length := by
            rw [hI.2.2.1, List.length_map]
            rw [hI.2.1, List.length_map] at hj
            exact hj
          exact ⟨j, hj', h3, _, nm_cols hI _ (List.getElem_mem hj'), rfl⟩
      · show (nmCols z).length ≤ _
        rw [hI.2.2.1, List.length_map]; omega
  · have hb : (e != 0) = true := by simpa using he
    simp only [hb, if_true]
    refine ⟨e, _, boxRes_heap (outs := [shInt]) (r := .int .i64 e) (a := (e, ())) (ps := cpMk3) z rfl, ⟨hk.1, hk.2.1, hk.2.2.1, hk.2.2.2.1, hk.2.2.2.2.1, hk.2.2.2.2.2.1, hk.2.2.2.2.2.2.1, hk.2.2.2.2.2.2.2.1⟩, hk.2.2.2.2.2.2.2.2.2.1, fun h => absurd h he⟩

theorem i32_eq (y : CSem cpMk) : i32p y = (let a1 := mNamed y
    let a2 := a1.2.2.2.2.2.2.2.2.2.1.getD (Int.toNat 1) (dflt shCol)
    let a3 := a1.2.2.2.2.2.2.2.2.2.1.getD (Int.toNat 0) (dflt shCol)
    let a4 := a1.2.2.2.2.2.2.2.2.2.1.set (Int.toNat 0) (a3.1, a3.2.1, true)
    let a5 := a4.getD (Int.toNat 1) (dflt shCol)
    i32pz y y a1 a2 a3 a4 a5) := by
  unfold i32p
  rw [etaMk]

theorem mGroup_ok (y : CSem cpMk) (hl : y.2.1.2.2.2.1.length = 2) (hk0 : y.2.2.2.2.2.2.2.2.1 = (0 : Int)) : ∃ (e : Int) (z : CSem cpMk3), mGroupO y = some ((e, ()), z) ∧ AkKeep y z ∧ z.2.2.2.2.2.2.2.2.2.2.1 = y.2.2.2.2.2.2.2.2.2.1 ∧ (e = 0 → AskOk y z) := by
  obtain ⟨e, z, h1, hk, h2⟩ := mNamed_ok y (by omega)
  have hn : mNamed y = (e, z) := by unfold mNamed; rw [h1]; rfl
  have hc : mNamedC y = true := by unfold mNamedC; rw [h1]; rfl
  have hkk : AkKeep y z := ⟨hk.1, hk.2.1, hk.2.2.1, hk.2.2.2.1, hk.2.2.2.2.1, hk.2.2.2.2.2.1, hk.2.2.2.2.2.2.1, hk.2.2.2.2.2.2.2.1⟩
  have hch : z.2.2.2.2.2.2.2.2.2.2.1 = y.2.2.2.2.2.2.2.2.2.1 := hk.2.2.2.2.2.2.2.2.2.1
  have hkey : z.2.2.2.2.2.2.2.2.2.1 = y.2.2.2.2.2.2.2.2.1 := hk.2.2.2.2.2.2.2.2.1
  unfold mGroupO outB runT
  rw [i32_eq]
  simp only [i32pz, hn]
  by_cases he : e = 0
  · have hI := h2 he
    have hlen : (nmCols z).length = 2 := by rw [hI.2.2.1, List.length_map]; exact hl
    have hm := nm_cols hI
    obtain ⟨z0, z1, z2, z3, z4, z5, z6, z7, cols, z9⟩ := z
    obtain ⟨c0, c1, rfl⟩ : ∃ c0 c1, cols = [c0, c1] := by
      match cols, hlen with
      | [c0, c1], _ => exact ⟨c0, c1, rfl⟩
    simp only [Tr.val, hc, if_true, he, bne_self_eq_false, Bool.false_eq_true, if_false]
    have e1 : inB 1 (List.length [c0, c1]) = true := rfl
    have e0 : inB 0 (List.length [c0, c1]) = true := rfl
    by_cases hty : (c1.2.1 != 1) = true
    · refine ⟨5, (z0, z1, z2, z3, z4, z5, z6, z7, [c0, c1], z9), ?_, hkk, hch, fun h => by cases h⟩
      simp [hty, List.getD]
      exact boxRes_heap (outs := [shInt]) (r := .int .i64 5) (a := (5, ())) (ps := cpMk3) (z0, z1, z2, z3, z4, z5, z6, z7, [c0, c1], z9) rfl
    · refine ⟨0, (z0, z1, z2, z3, z4, z5, z6, z7, [(c0.1, c0.2.1, true), (c1.1, c1.2.1, false)], z9), ?_, hkk, hch, fun _ => ⟨?_, ?_, ?_⟩⟩
      · simp at hty
        simp [hty, List.getD, inB]
        exact boxRes_heap (outs := [shInt]) (r := .int .i64 0) (a := (0, ())) (ps := cpMk3) (z0, z1, z2, z3, z4, z5, z6, z7, [(c0.1, c0.2.1, true), (c1.1, 1, false)], z9) rfl
      · intro c hc
        simp only [List.mem_cons, List.not_mem_nil, or_false] at hc
        rcases hc with rfl | rfl
        · exact ⟨c0, .inl (hm c0 (show c0 ∈ [c0, c1] by simp)), rfl, rfl⟩
        · exact ⟨c1, .inl (hm c1 (show c1 ∈ [c0, c1] by simp)), rfl, rfl⟩
      · exact ⟨0, by simp, hkey.trans hk0, c0, hm c0 (show c0 ∈ [c0, c1] by simp), rfl⟩
      · simp
  · have hb : (e != 0) = true := by simpa using he
    simp only [Tr.val, hc, hb, if_true]
    exact ⟨e, z, boxRes_heap (outs := [shInt]) (r := .int .i64 e) (a := (e, ())) (ps := cpMk3) z rfl, hkk, hch, fun h => absurd h he⟩

def JnI (y : CSem cpMk) (i : Nat) (z : CSem cpMk2) : Prop := AkKeep y z ∧ z.2.2.2.2.2.2.2.2.2.2.1 = y.2.2.2.2.2.2.2.2.2.1 ∧ z.2.2.2.2.2.2.2.2.2.1 = y.2.2.1.2.2.1 ∧ (nmIx z).length ≤ i ∧ ∃ l, nmCols z = y.2.2.1.2.1 ++ l ∧ l.length ≤ i ∧ ∀ c ∈ l, c ∈ y.2.2.2.1.2.1

def JnR (y : CSem cpMk) (r : Raw) : Prop := ∃ (e : Int) (z : CSem cpMk2), r = (.int .i64 e, cpHeap cpMk3 z) ∧ AkKeep y z ∧ z.2.2.2.2.2.2.2.2.2.2.1 = y.2.2.2.2.2.2.2.2.2.1 ∧ (e = 0 → JnI y (List.length y.2.2.2.1.2.1) z)

theorem jn11 (y : CSem cpMk) (z : CSem cpMk2) (hz : JnI y 0 z) (hf : List.length y.2.2.1.2.1 ≤ 1000) (hl : List.length y.2.2.2.1.2.1 ≤ 1000) (n : Nat) (hn : 1 + List.length y.2.2.2.1.2.1 ≤ n) : ∃ r, iterT t31p n (.h11 y.2.2.2.1.2.1 (List.length y.2.2.2.1.2.1 : Int) 0 z) = some r ∧ JnR y r := by
  refine iter_inv (t := t31p) (β := CSem cpMk2) (List.length y.2.2.2.1.2.1) (fun z i => .h11 y.2.2.2.1.2.1 (List.length y.2.2.2.1.2.1 : Int) (i : Int) z) (fun z i => JnI y i z) (JnR y) 1 ?_ ?_ (List.length y.2.2.2.1.2.1) 0 z n rfl (Nat.zero_le _) hz hn
  · intro z i hi hI
    obtain ⟨hk, hch, hkey, hx, l, hc, hll, hm⟩ := hI
    have hcl : (nmCols z).length ≤ 2000 := by rw [hc, List.length_append]; omega
    simp only [t31p, t31p_11, t31p_11z, Tr.val, lt_dec hi, inB_of hi, if_true, getD_at' _ _ hi]
    rw [wrap_add i (by unfold maxStr; omega)]
    refine Or.inl ?_
    split
    · refine ⟨(z.1, z.2.1, z.2.2.1, z.2.2.2.1, z.2.2.2.2.1, z.2.2.2.2.2.1, z.2.2.2.2.2.2.1, z.2.2.2.2.2.2.2.1, z.2.2.2.2.2.2.2.2.1 ++ [y.2.2.2.1.2.1[i]], z.2.2.2.2.2.2.2.2.2.1, z.2.2.2.2.2.2.2.2.2.2.1, z.2.2.2.2.2.2.2.2.2.2.2.1 ++ [(i : Int)], z.2.2.2.2.2.2.2.2.2.2.2.2), ⟨hk, hch, hkey, ?_, l ++ [y.2.2.2.1.2.1[i]], ?_, ?_, ?_⟩, ?_⟩
      rotate_left 4
      · rw [if_pos (by have : z.2.2.2.2.2.2.2.2.2.2.2.1.length ≤ 2000 := (by omega : (nmIx z).length ≤ 2000); simp; omega), if_pos (by have : z.2.2.2.2.2.2.2.2.1.length ≤ 2000 := hcl; simp; omega)]
      · show (nmIx z ++ [(i : Int)]).length ≤ i + 1
        simp; omega
      · show nmCols z ++ [y.2.2.2.1.2.1[i]] = _
        rw [hc, List.append_assoc]
      · simp; omega
      · intro c hc
        rcases List.mem_append.1 hc with hc | hc
        · exact hm c hc
        · rw [List.mem_singleton] at hc
          rw [hc]; exact List.getElem_mem hi
    · exact ⟨z, ⟨hk, hch, hkey, by omega, l, hc, by omega, hm⟩, rfl⟩
  · intro z n hI hn
    obtain ⟨n, rfl⟩ : ∃ k, n = k + 1 := ⟨n - 1, by omega⟩
    rw [iterT_val]
    simp only [t31p, t31p_11, t31p_11z, Tr.val, lt_dec']
    exact ⟨_, rfl, 0, z, rfl, hI.1, hI.2.1, fun _ => hI⟩

theorem mJoin_ok (y : CSem cpMk) (ho : y.2.1.1 = [106, 111, 105, 110]) (hf : List.length y.2.2.1.2.1 ≤ 1000) (hl : List.length y.2.2.2.1.2.1 ≤ 1000) (hkf : inC y.2.2.1.2.2.1 (List.length y.2.2.1.2.1)) : ∃ (e : Int) (z : CSem cpMk3), mJoinO y = some ((e, ()), z) ∧ AkKeep y z ∧ z.2.2.2.2.2.2.2.2.2.2.1 = y.2.2.2.2.2.2.2.2.2.1 ∧ (e = 0 → AskOk y z) := by
  have hk : ∀ (a : List (Sem shCol)) (b : Int) (c : ExprT) (d : List Int) (e : Int), AkKeep y (y.1, y.2.1, y.2.2.1, y.2.2.2.1, y.2.2.2.2.1, y.2.2.2.2.2.1, y.2.2.2.2.2.2.1, y.2.2.2.2.2.2.2.1, a, b, c, d, e, ()) := fun _ _ _ _ _ => ⟨rfl, rfl, rfl, rfl, rfl, rfl, rfl, rfl⟩
  have hv : (∃ r, (i31p y).val = some (.inr r) ∧ JnR y r) ∨ ∃ a0 : Int, (i31p y).val = some (.inl (.h11 y.2.2.2.1.2.1 (List.length y.2.2.2.1.2.1 : Int) 0 (y.1, y.2.1, y.2.2.1, y.2.2.2.1, y.2.2.2.2.1, y.2.2.2.2.2.1, y.2.2.2.2.2.2.1, y.2.2.2.2.2.2.2.1, y.2.2.1.2.1, y.2.2.1.2.2.1, y.2.2.2.2.2.2.2.2.2.1, [], a0, ()))) := by
    simp only [i31p, i31pz, Tr.val]
    split
    · exact Or.inl ⟨_, rfl, 4, _, rfl, hk _ _ _ _ _, rfl, fun h => by cases h⟩
    · split
      · exact Or.inl ⟨_, rfl, 10, _, rfl, hk _ _ _ _ _, rfl, fun h => by cases h⟩
      · split
        · exact Or.inl ⟨_, rfl, 13, _, rfl, hk _ _ _ _ _, rfl, fun h => by cases h⟩
        · rw [if_pos (by simp; omega)]
          exact Or.inr ⟨_, rfl⟩
  have hR : ∃ r, runT t31p 100000000 (i31p y) = some r ∧ JnR y r := by
    unfold runT
    rcases hv with ⟨r, h1, h2⟩ | ⟨a0, h1⟩
    · rw [h1]; exact ⟨r, rfl, h2⟩
    · rw [h1]
      exact jn11 y _ ⟨hk _ _ _ _ _, rfl, rfl, Nat.le_refl _, [], (List.append_nil _).symm, Nat.le_refl _, by simp⟩ hf hl 100000000 (by omega)
  obtain ⟨r, h1, e, z, rfl, hk, hch, h2⟩ := hR
  unfold mJoinO outB
  rw [h1]
  refine ⟨e, z, boxRes_heap (outs := [shInt]) (r := .int .i64 e) (a := (e, ())) (ps := cpMk3) z rfl, hk, hch, fun he => ?_⟩
  obtain ⟨_, _, hkey, _, l, hc, hll, hm⟩ := h2 he
  refine ⟨?_, ?_, ?_⟩
  · intro c hcm
    rw [show z.2.2.2.2.2.2.2.2.1 = nmCols z from rfl, hc] at hcm
    rcases List.mem_append.1 hcm with h | h
    · exact ⟨c, .inl h, rfl, rfl⟩
    · exact ⟨c, .inr ⟨ho, hm c h⟩, rfl, rfl⟩
  · obtain ⟨k1, k2⟩ := hkf
    obtain ⟨k, hkn⟩ : ∃ k : Nat, y.2.2.1.2.2.1 = (k : Int) := ⟨Int.toNat y.2.2.1.2.2.1, (Int.toNat_of_nonneg k1).symm⟩
    rw [hkn] at k2
    have hk' : k < List.length y.2.2.1.2.1 := by omega
    have hk2 : k < (nmCols z).length := by rw [hc, List.length_append]; omega
    refine ⟨k, hk2, by rw [hkey, hkn], _, List.getElem_mem hk', ?_⟩
    show ((nmCols z)[k]).1 = _
    simp only [hc, List.getElem_append_left hk']
  · show (nmCols z).length ≤ _
    rw [hc, List.length_append]; omega
end Cad
