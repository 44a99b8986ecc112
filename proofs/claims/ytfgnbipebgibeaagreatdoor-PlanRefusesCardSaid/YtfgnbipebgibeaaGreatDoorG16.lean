/- The document's statements: what is written. The document's statements: texts. Functions on two variables to which pointers lead. The document's reader: MIGRATE. The document's reader: statements. Statements of texts. The chapter's examples. The chapter's examples hold. The law PlanRefuses. -/
import Derived.Test.YtfgnbipebgibeaaGreatDoorG15
import Derived.Test.YtfgnbipebgibeaaGreatDoorG13
namespace Cad
open Go Go.Proofs
noncomputable section
set_option maxHeartbeats 4000000

abbrev kp78p : Nat → Keep := fun j => if j = 15 then { slots := [1, 3, 5, 12, 13] } else if j = 27 then { slots := [1, 3, 5, 8, 9, 14, 15] } else { }
inductive H78p where
  | h15 (s12 : List UInt8) (i13 : Int) (ja0 : TS) (ja1 : TS) (ja2 : TS) (ja3 : LS) (ja4 : LC) (ja5 : TS) (ja6 : LS) (ja7 : List (Sem (Sh.str.pr Sh.str))) (ja8 : Str) (ja9 : Int) (ja10 : Int) (ja11 : Str) (ja12 : Str) (ja13 : LX) (ja14 : LV) (ja15 : List (Sem (Sh.str.pr Sh.expr))) (ja16 : Str) (ja17 : Int) (ja18 : Int) (ja19 : Str) (ja20 : Str) (ja21 : LX) (ja22 : TS) (jb0 : List UInt8) (jb1 : List UInt8) (jb2 : List UInt8) (jb5 : List UInt8) (jb8 : List UInt8) (jb9 : Int) (jb10 : Int) (jb11 : List UInt8) (jb12 : List UInt8) (jb16 : List UInt8) (jb17 : Int) (jb18 : Int) (jb19 : List UInt8) (jb20 : List UInt8) (jb22 : List UInt8) (jc0 : TS) (jc1 : TS) (jc2 : List UInt8) (jc5 : List UInt8) (jc8 : List UInt8) (jc9 : Int) (jc10 : Int) (jc11 : List UInt8) (jc12 : List UInt8) (jc14 : LV) (jc16 : List UInt8) (jc17 : Int) (jc18 : Int) (jc19 : List UInt8) (jc20 : List UInt8) (jc22 : List UInt8)
  | h27 (s8 : TS) (b9 : Sem Sh.bool) (s14 : List UInt8) (i15 : Int) (ja0 : TS) (ja1 : TS) (ja2 : TS) (ja3 : LS) (ja4 : LC) (ja5 : TS) (ja6 : LS) (ja7 : List (Sem (Sh.str.pr Sh.str))) (ja8 : Str) (ja9 : Int) (ja10 : Int) (ja11 : Str) (ja12 : Str) (ja13 : LX) (ja14 : LV) (ja15 : List (Sem (Sh.str.pr Sh.expr))) (ja16 : Str) (ja17 : Int) (ja18 : Int) (ja19 : Str) (ja20 : Str) (ja21 : LX) (ja22 : TS) (jb0 : List UInt8) (jb1 : List UInt8) (jb2 : List UInt8) (jb5 : List UInt8) (jb8 : List UInt8) (jb9 : Int) (jb10 : Int) (jb11 : List UInt8) (jb12 : List UInt8) (jb16 : List UInt8) (jb17 : Int) (jb18 : Int) (jb19 : List UInt8) (jb20 : List UInt8) (jb22 : List UInt8) (jc0 : TS) (jc1 : TS) (jc2 : List UInt8) (jc5 : List UInt8) (jc8 : List UInt8) (jc9 : Int) (jc10 : Int) (jc11 : List UInt8) (jc12 : List UInt8) (jc15 : List (Sem (Sh.str.pr Sh.expr))) (jc16 : Str) (jc17 : Int) (jc18 : Int) (jc19 : Str) (jc20 : Str) (jc21 : LX) (jc22 : List UInt8)
abbrev e78p : H78p → Nat × St
  | .h15 s12 i13 ja0 ja1 ja2 ja3 ja4 ja5 ja6 ja7 ja8 ja9 ja10 ja11 ja12 ja13 ja14 ja15 ja16 ja17 ja18 ja19 ja20 ja21 ja22 jb0 jb1 jb2 jb5 jb8 jb9 jb10 jb11 jb12 jb16 jb17 jb18 jb19 jb20 jb22 jc0 jc1 jc2 jc5 jc8 jc9 jc10 jc11 jc12 jc14 jc16 jc17 jc18 jc19 jc20 jc22 => (15, ⟨tm 430 [(1, AV.ptr 0 0), (3, AV.ptr 1 0), (5, AV.ptr 2 0), (12, AV.str s12), (13, AV.int .i64 i13)], [AO.box [AV.str ja0, AV.str ja1, AV.str ja2, AV.sl Sh.str ja3, AV.sl shCol ja4, AV.str ja5, AV.sl Sh.str ja6, AV.sl (Sh.str.pr Sh.str) ja7, AV.str ja8, AV.int .i64 ja9, AV.int .i64 ja10, AV.str ja11, AV.str ja12, AV.sl Sh.expr ja13, AV.sl shVal ja14, AV.sl (Sh.str.pr Sh.expr) ja15, AV.str ja16, AV.int .i64 ja17, AV.int .i64 ja18, AV.str ja19, AV.str ja20, AV.sl Sh.expr ja21, AV.str ja22], AO.box [AV.str jb0, AV.str jb1, AV.str jb2, AV.nils, AV.nils, AV.str jb5, AV.nils, AV.nils, AV.str jb8, AV.int .i64 jb9, AV.int .i64 jb10, AV.str jb11, AV.str jb12, AV.nils, AV.nils, AV.nils, AV.str jb16, AV.int .i64 jb17, AV.int .i64 jb18, AV.str jb19, AV.str jb20, AV.nils, AV.str jb22], AO.box [AV.str jc0, AV.str jc1, AV.str jc2, AV.nils, AV.nils, AV.str jc5, AV.nils, AV.nils, AV.str jc8, AV.int .i64 jc9, AV.int .i64 jc10, AV.str jc11, AV.str jc12, AV.nils, AV.sl shVal jc14, AV.nils, AV.str jc16, AV.int .i64 jc17, AV.int .i64 jc18, AV.str jc19, AV.str jc20, AV.nils, AV.str jc22]]⟩)
  | .h27 s8 b9 s14 i15 ja0 ja1 ja2 ja3 ja4 ja5 ja6 ja7 ja8 ja9 ja10 ja11 ja12 ja13 ja14 ja15 ja16 ja17 ja18 ja19 ja20 ja21 ja22 jb0 jb1 jb2 jb5 jb8 jb9 jb10 jb11 jb12 jb16 jb17 jb18 jb19 jb20 jb22 jc0 jc1 jc2 jc5 jc8 jc9 jc10 jc11 jc12 jc15 jc16 jc17 jc18 jc19 jc20 jc21 jc22 => (27, ⟨tm 430 [(1, AV.ptr 0 0), (3, AV.ptr 1 0), (5, AV.ptr 2 0), (8, AV.str s8), (9, AV.bool b9), (14, AV.str s14), (15, AV.int .i64 i15)], [AO.box [AV.str ja0, AV.str ja1, AV.str ja2, AV.sl Sh.str ja3, AV.sl shCol ja4, AV.str ja5, AV.sl Sh.str ja6, AV.sl (Sh.str.pr Sh.str) ja7, AV.str ja8, AV.int .i64 ja9, AV.int .i64 ja10, AV.str ja11, AV.str ja12, AV.sl Sh.expr ja13, AV.sl shVal ja14, AV.sl (Sh.str.pr Sh.expr) ja15, AV.str ja16, AV.int .i64 ja17, AV.int .i64 ja18, AV.str ja19, AV.str ja20, AV.sl Sh.expr ja21, AV.str ja22], AO.box [AV.str jb0, AV.str jb1, AV.str jb2, AV.nils, AV.nils, AV.str jb5, AV.nils, AV.nils, AV.str jb8, AV.int .i64 jb9, AV.int .i64 jb10, AV.str jb11, AV.str jb12, AV.nils, AV.nils, AV.nils, AV.str jb16, AV.int .i64 jb17, AV.int .i64 jb18, AV.str jb19, AV.str jb20, AV.nils, AV.str jb22], AO.box [AV.str jc0, AV.str jc1, AV.str jc2, AV.nils, AV.nils, AV.str jc5, AV.nils, AV.nils, AV.str jc8, AV.int .i64 jc9, AV.int .i64 jc10, AV.str jc11, AV.str jc12, AV.nils, AV.nils, AV.sl (Sh.str.pr Sh.expr) jc15, AV.str jc16, AV.int .i64 jc17, AV.int .i64 jc18, AV.str jc19, AV.str jc20, AV.sl Sh.expr jc21, AV.str jc22]]⟩)
theorem ok78p : fnChk env76.P 78 Tryz.f78 1 := by refine ⟨?_, ?_, ?_, ?_⟩ <;> kernel_rfl
def i78pz (x0 : Sem shStmt) (a0 : ExprT) (a1 : ExprT) (a2 : Sem Sh.str × Sem Sh.bool) (a3 : Str) (a4 : Str) (a5 : Str) (a6 : Str) (a7 : Str) (a8 : Str) (a9 : Sem Sh.str × Sem Sh.bool) (a10 : Str) (a11 : Str) (a12 : Sem Sh.str × Sem Sh.bool) (a13 : Bool) (a14 : Sem Sh.bool) (a15 : Str) (a16 : Str) (a17 : Str) (a18 : Str) (a19 : Str) (a20 : Str) (a21 : Str) (a22 : Bool) (a23 : Sem Sh.bool) (a24 : Str) (a25 : Str) (a26 : Str) (a27 : Bool) (a28 : Str) (a29 : TS) (a30 : Str) (a31 : Bool) (a32 : Str) (a33 : TS) (a34 : Str) (a35 : Str) (a36 : Str) (a37 : Str) (a38 : Str) (a39 : Str) (a40 : Str) (a41 : Str) (a42 : Str) : Tr (H78p ⊕ Raw) :=
  Tr.chk (r5condC a0 [])
  (Tr.chk (r5condC a1 [87, 72, 69, 82, 69])
    (Tr.br (x0.1 == [99, 114, 101, 97, 116, 101]) Tr.err (Tr.br (x0.1 == [100, 114, 111, 112]) (Tr.chk (decide ([68, 82, 79, 80, 32, 84, 65, 66, 76, 69, 32].length + List.length x0.2.1 ≤ 1099511627776)) (Tr.re (AV.tup [AV.str ([68, 82, 79, 80, 32, 84, 65, 66, 76, 69, 32] ++ x0.2.1), AV.agg
    [AV.str x0.1, AV.str x0.2.1, AV.str [], AV.nils, AV.nils, AV.str [], AV.nils, AV.nils, AV.str [], AV.int .i64 0, AV.int .i64 0, AV.str [], AV.str [], AV.nils, AV.nils, AV.nils, AV.str [], AV.int .i64 0, AV.int .i64 0, AV.str [], AV.str [], AV.nils, AV.str []], AV.kb true]) [])) (Tr.br (x0.1 == [105, 110, 115, 101, 114, 116]) (Tr.to
    (H78p.h15 [] 0 x0.1 x0.2.1 x0.2.2.1 x0.2.2.2.1 x0.2.2.2.2.1 x0.2.2.2.2.2.1 x0.2.2.2.2.2.2.1 x0.2.2.2.2.2.2.2.1 (ExprT.op x0.2.2.2.2.2.2.2.2.1) (ExprT.v x0.2.2.2.2.2.2.2.2.1).1 (ExprT.v x0.2.2.2.2.2.2.2.2.1).2.1 (ExprT.v x0.2.2.2.2.2.2.2.2.1).2.2 (ExprT.s x0.2.2.2.2.2.2.2.2.1) (ExprT.l x0.2.2.2.2.2.2.2.2.1) x0.2.2.2.2.2.2.2.2.2.1 x0.2.2.2.2.2.2.2.2.2.2.1 (ExprT.op x0.2.2.2.2.2.2.2.2.2.2.2.1)
    (ExprT.v x0.2.2.2.2.2.2.2.2.2.2.2.1).1 (ExprT.v x0.2.2.2.2.2.2.2.2.2.2.2.1).2.1 (ExprT.v x0.2.2.2.2.2.2.2.2.2.2.2.1).2.2 (ExprT.s x0.2.2.2.2.2.2.2.2.2.2.2.1) (ExprT.l x0.2.2.2.2.2.2.2.2.2.2.2.1) x0.2.2.2.2.2.2.2.2.2.2.2.2 [] [] [] [] [] 0 0 [] [] [] 0 0 [] [] [] x0.1 x0.2.1 [] [] [] 0 0 [] [] x0.2.2.2.2.2.2.2.2.2.1 [] 0 0 [] [] [])) (Tr.br (x0.1 == [117, 112, 100, 97, 116, 101]) (Tr.to
    (H78p.h27 a2.1 a2.2 [] 0 x0.1 x0.2.1 x0.2.2.1 x0.2.2.2.1 x0.2.2.2.2.1 x0.2.2.2.2.2.1 x0.2.2.2.2.2.2.1 x0.2.2.2.2.2.2.2.1 (ExprT.op x0.2.2.2.2.2.2.2.2.1) (ExprT.v x0.2.2.2.2.2.2.2.2.1).1 (ExprT.v x0.2.2.2.2.2.2.2.2.1).2.1 (ExprT.v x0.2.2.2.2.2.2.2.2.1).2.2 (ExprT.s x0.2.2.2.2.2.2.2.2.1) (ExprT.l x0.2.2.2.2.2.2.2.2.1) x0.2.2.2.2.2.2.2.2.2.1 x0.2.2.2.2.2.2.2.2.2.2.1
    (ExprT.op x0.2.2.2.2.2.2.2.2.2.2.2.1) (ExprT.v x0.2.2.2.2.2.2.2.2.2.2.2.1).1 (ExprT.v x0.2.2.2.2.2.2.2.2.2.2.2.1).2.1 (ExprT.v x0.2.2.2.2.2.2.2.2.2.2.2.1).2.2 (ExprT.s x0.2.2.2.2.2.2.2.2.2.2.2.1) (ExprT.l x0.2.2.2.2.2.2.2.2.2.2.2.1) x0.2.2.2.2.2.2.2.2.2.2.2.2 [] [] [] [] [] 0 0 [] [] [] 0 0 [] [] [] x0.1 x0.2.1 [] [] [] 0 0 [] [] x0.2.2.2.2.2.2.2.2.2.2.1 (ExprT.op x0.2.2.2.2.2.2.2.2.2.2.2.1)
    (ExprT.v x0.2.2.2.2.2.2.2.2.2.2.2.1).1 (ExprT.v x0.2.2.2.2.2.2.2.2.2.2.2.1).2.1 (ExprT.v x0.2.2.2.2.2.2.2.2.2.2.2.1).2.2 (ExprT.s x0.2.2.2.2.2.2.2.2.2.2.2.1) (ExprT.l x0.2.2.2.2.2.2.2.2.2.2.2.1) [])) (Tr.br (x0.1 == [100, 101, 108, 101, 116, 101]) (Tr.chk (decide ([68, 69, 76, 69, 84, 69, 32, 70, 82, 79, 77, 32].length + List.length x0.2.1 ≤ 1099511627776))
    (Tr.chk (decide (List.length a3 + List.length a2.1 ≤ 1099511627776)) (Tr.re (AV.tup [AV.str (a3 ++ a2.1), AV.agg [AV.str x0.1, AV.str x0.2.1, AV.str [], AV.nils, AV.nils, AV.str [], AV.nils, AV.nils, AV.str [], AV.int .i64 0, AV.int .i64 0, AV.str [], AV.str [], AV.nils, AV.nils, AV.nils, AV.str (ExprT.op x0.2.2.2.2.2.2.2.2.2.2.2.1), AV.int .i64 (ExprT.v x0.2.2.2.2.2.2.2.2.2.2.2.1).1,
    AV.int .i64 (ExprT.v x0.2.2.2.2.2.2.2.2.2.2.2.1).2.1, AV.str (ExprT.v x0.2.2.2.2.2.2.2.2.2.2.2.1).2.2, AV.str (ExprT.s x0.2.2.2.2.2.2.2.2.2.2.2.1), AV.sl Sh.expr (ExprT.l x0.2.2.2.2.2.2.2.2.2.2.2.1), AV.str []], AV.bool a2.2]) []))) (Tr.br (x0.1 == [115, 101, 108, 101, 99, 116])
    (Tr.chk (decide ([83, 69, 76, 69, 67, 84, 32, 42, 32, 70, 82, 79, 77, 32].length + List.length x0.2.1 ≤ 1099511627776)) (Tr.chk (decide (List.length a4 + List.length a2.1 ≤ 1099511627776)) (Tr.re (AV.tup [AV.str (a4 ++ a2.1), AV.agg [AV.str x0.1, AV.str x0.2.1, AV.str [], AV.nils, AV.nils, AV.str [], AV.nils, AV.nils, AV.str [], AV.int .i64 0,
    AV.int .i64 0, AV.str [], AV.str [], AV.nils, AV.nils, AV.nils, AV.str (ExprT.op x0.2.2.2.2.2.2.2.2.2.2.2.1), AV.int .i64 (ExprT.v x0.2.2.2.2.2.2.2.2.2.2.2.1).1, AV.int .i64 (ExprT.v x0.2.2.2.2.2.2.2.2.2.2.2.1).2.1, AV.str (ExprT.v x0.2.2.2.2.2.2.2.2.2.2.2.1).2.2, AV.str (ExprT.s x0.2.2.2.2.2.2.2.2.2.2.2.1), AV.sl Sh.expr (ExprT.l x0.2.2.2.2.2.2.2.2.2.2.2.1), AV.str []], AV.bool a2.2]) [])))
    (Tr.br (x0.1 == [99, 111, 112, 121]) (Tr.chk (r5namesC x0.2.2.2.1) (Tr.chk (decide ([77, 73, 71, 82, 65, 84, 69, 32, 67, 79, 80, 89, 32].length + List.length x0.2.1 ≤ 1099511627776)) (Tr.chk (decide (List.length a5 + [32, 70, 82, 79, 77, 32].length ≤ 1099511627776)) (Tr.chk (decide (List.length a6 + List.length x0.2.2.1 ≤ 1099511627776))
    (Tr.chk (decide (List.length a7 + [32, 40, 32].length ≤ 1099511627776)) (Tr.chk (decide (List.length a8 + List.length a9.1 ≤ 1099511627776)) (Tr.chk (decide (List.length a10 + [32, 41].length ≤ 1099511627776)) (Tr.chk (decide (List.length a11 + List.length a12.1 ≤ 1099511627776)) (Tr.br a9.2 (Tr.br a12.2 (Tr.chk a13 (Tr.re (AV.tup [AV.str (a11 ++ a12.1), AV.agg
    [AV.str x0.1, AV.str x0.2.1, AV.str x0.2.2.1, AV.sl Sh.str x0.2.2.2.1, AV.nils, AV.str [], AV.nils, AV.nils, AV.str (ExprT.op x0.2.2.2.2.2.2.2.2.1), AV.int .i64 (ExprT.v x0.2.2.2.2.2.2.2.2.1).1, AV.int .i64 (ExprT.v x0.2.2.2.2.2.2.2.2.1).2.1, AV.str (ExprT.v x0.2.2.2.2.2.2.2.2.1).2.2, AV.str (ExprT.s x0.2.2.2.2.2.2.2.2.1),
    AV.sl Sh.expr (ExprT.l x0.2.2.2.2.2.2.2.2.1), AV.nils, AV.nils, AV.str [], AV.int .i64 0, AV.int .i64 0, AV.str [], AV.str [], AV.nils, AV.str []], AV.bool a14]) [])) (Tr.re (AV.tup [AV.str (a11 ++ a12.1), AV.agg [AV.str x0.1, AV.str x0.2.1, AV.str x0.2.2.1, AV.sl Sh.str x0.2.2.2.1, AV.nils, AV.str [], AV.nils, AV.nils, AV.str (ExprT.op x0.2.2.2.2.2.2.2.2.1),
    AV.int .i64 (ExprT.v x0.2.2.2.2.2.2.2.2.1).1, AV.int .i64 (ExprT.v x0.2.2.2.2.2.2.2.2.1).2.1, AV.str (ExprT.v x0.2.2.2.2.2.2.2.2.1).2.2, AV.str (ExprT.s x0.2.2.2.2.2.2.2.2.1), AV.sl Sh.expr (ExprT.l x0.2.2.2.2.2.2.2.2.1), AV.nils, AV.nils, AV.str [], AV.int .i64 0, AV.int .i64 0, AV.str [], AV.str [], AV.nils, AV.str []], AV.kb false]) [])) (Tr.re (AV.tup [AV.str (a11 ++ a12.1), AV.agg
    [AV.str x0.1, AV.str x0.2.1, AV.str x0.2.2.1, AV.sl Sh.str x0.2.2.2.1, AV.nils, AV.str [], AV.nils, AV.nils, AV.str (ExprT.op x0.2.2.2.2.2.2.2.2.1), AV.int .i64 (ExprT.v x0.2.2.2.2.2.2.2.2.1).1, AV.int .i64 (ExprT.v x0.2.2.2.2.2.2.2.2.1).2.1, AV.str (ExprT.v x0.2.2.2.2.2.2.2.2.1).2.2, AV.str (ExprT.s x0.2.2.2.2.2.2.2.2.1),
    AV.sl Sh.expr (ExprT.l x0.2.2.2.2.2.2.2.2.1), AV.nils, AV.nils, AV.str [], AV.int .i64 0, AV.int .i64 0, AV.str [], AV.str [], AV.nils, AV.str []], AV.kb false]) [])))))))))) (Tr.br (x0.1 == [106, 111, 105, 110]) (Tr.chk (decide ([77, 73, 71, 82, 65, 84, 69, 32, 74, 79, 73, 78, 32].length + List.length x0.2.1 ≤ 1099511627776))
    (Tr.chk (decide (List.length a15 + [32, 70, 82, 79, 77, 32].length ≤ 1099511627776)) (Tr.chk (decide (List.length a16 + List.length x0.2.2.1 ≤ 1099511627776)) (Tr.chk (decide (List.length a17 + [32, 44, 32].length ≤ 1099511627776)) (Tr.chk (decide (List.length a18 + List.length x0.2.2.2.2.2.2.2.2.2.2.2.2 ≤ 1099511627776))
    (Tr.chk (decide (List.length a19 + [32, 79, 78, 32].length ≤ 1099511627776)) (Tr.chk (decide (List.length a20 + List.length x0.2.2.2.2.2.1 ≤ 1099511627776)) (Tr.chk (decide (List.length a21 + List.length a12.1 ≤ 1099511627776)) (Tr.br a12.2 (Tr.chk a13 (Tr.br a14 (Tr.chk a22 (Tr.br a23 (Tr.chk (r5NameC x0.2.2.2.2.2.1) (Tr.re (AV.tup [AV.str (a21 ++ a12.1), AV.agg
    [AV.str x0.1, AV.str x0.2.1, AV.str x0.2.2.1, AV.nils, AV.nils, AV.str x0.2.2.2.2.2.1, AV.nils, AV.nils, AV.str (ExprT.op x0.2.2.2.2.2.2.2.2.1), AV.int .i64 (ExprT.v x0.2.2.2.2.2.2.2.2.1).1, AV.int .i64 (ExprT.v x0.2.2.2.2.2.2.2.2.1).2.1, AV.str (ExprT.v x0.2.2.2.2.2.2.2.2.1).2.2, AV.str (ExprT.s x0.2.2.2.2.2.2.2.2.1), AV.sl Sh.expr (ExprT.l x0.2.2.2.2.2.2.2.2.1), AV.nils, AV.nils, AV.str [],
    AV.int .i64 0, AV.int .i64 0, AV.str [], AV.str [], AV.nils, AV.str x0.2.2.2.2.2.2.2.2.2.2.2.2], AV.bool (r5Name x0.2.2.2.2.2.1)]) [])) (Tr.re (AV.tup [AV.str (a21 ++ a12.1), AV.agg [AV.str x0.1, AV.str x0.2.1, AV.str x0.2.2.1, AV.nils, AV.nils, AV.str x0.2.2.2.2.2.1, AV.nils, AV.nils, AV.str (ExprT.op x0.2.2.2.2.2.2.2.2.1), AV.int .i64 (ExprT.v x0.2.2.2.2.2.2.2.2.1).1,
    AV.int .i64 (ExprT.v x0.2.2.2.2.2.2.2.2.1).2.1, AV.str (ExprT.v x0.2.2.2.2.2.2.2.2.1).2.2, AV.str (ExprT.s x0.2.2.2.2.2.2.2.2.1), AV.sl Sh.expr (ExprT.l x0.2.2.2.2.2.2.2.2.1), AV.nils, AV.nils, AV.str [], AV.int .i64 0, AV.int .i64 0, AV.str [], AV.str [], AV.nils, AV.str x0.2.2.2.2.2.2.2.2.2.2.2.2], AV.kb false]) []))) (Tr.re (AV.tup [AV.str (a21 ++ a12.1), AV.agg
    [AV.str x0.1, AV.str x0.2.1, AV.str x0.2.2.1, AV.nils, AV.nils, AV.str x0.2.2.2.2.2.1, AV.nils, AV.nils, AV.str (ExprT.op x0.2.2.2.2.2.2.2.2.1), AV.int .i64 (ExprT.v x0.2.2.2.2.2.2.2.2.1).1, AV.int .i64 (ExprT.v x0.2.2.2.2.2.2.2.2.1).2.1, AV.str (ExprT.v x0.2.2.2.2.2.2.2.2.1).2.2, AV.str (ExprT.s x0.2.2.2.2.2.2.2.2.1), AV.sl Sh.expr (ExprT.l x0.2.2.2.2.2.2.2.2.1), AV.nils, AV.nils, AV.str [],
    AV.int .i64 0, AV.int .i64 0, AV.str [], AV.str [], AV.nils, AV.str x0.2.2.2.2.2.2.2.2.2.2.2.2], AV.kb false]) []))) (Tr.re (AV.tup [AV.str (a21 ++ a12.1), AV.agg [AV.str x0.1, AV.str x0.2.1, AV.str x0.2.2.1, AV.nils, AV.nils, AV.str x0.2.2.2.2.2.1, AV.nils, AV.nils, AV.str (ExprT.op x0.2.2.2.2.2.2.2.2.1), AV.int .i64 (ExprT.v x0.2.2.2.2.2.2.2.2.1).1,
    AV.int .i64 (ExprT.v x0.2.2.2.2.2.2.2.2.1).2.1, AV.str (ExprT.v x0.2.2.2.2.2.2.2.2.1).2.2, AV.str (ExprT.s x0.2.2.2.2.2.2.2.2.1), AV.sl Sh.expr (ExprT.l x0.2.2.2.2.2.2.2.2.1), AV.nils, AV.nils, AV.str [], AV.int .i64 0, AV.int .i64 0, AV.str [], AV.str [], AV.nils, AV.str x0.2.2.2.2.2.2.2.2.2.2.2.2], AV.kb false]) [])))))))))) (Tr.br (x0.1 == [103, 114, 111, 117, 112])
    (Tr.br ((↑(List.length x0.2.2.2.1) : Int) != 2) (Tr.re (AV.tup [AV.str [], AV.agg [AV.str x0.1, AV.str x0.2.1, AV.str x0.2.2.1, AV.sl Sh.str x0.2.2.2.1, AV.nils, AV.str [], AV.nils, AV.nils, AV.str (ExprT.op x0.2.2.2.2.2.2.2.2.1), AV.int .i64 (ExprT.v x0.2.2.2.2.2.2.2.2.1).1, AV.int .i64 (ExprT.v x0.2.2.2.2.2.2.2.2.1).2.1,
    AV.str (ExprT.v x0.2.2.2.2.2.2.2.2.1).2.2, AV.str (ExprT.s x0.2.2.2.2.2.2.2.2.1), AV.sl Sh.expr (ExprT.l x0.2.2.2.2.2.2.2.2.1), AV.nils, AV.nils, AV.str [], AV.int .i64 0, AV.int .i64 0, AV.str [], AV.str [], AV.nils, AV.str []], AV.kb false]) []) (Tr.chk (decide ([77, 73, 71, 82, 65, 84, 69, 32, 71, 82, 79, 85, 80, 32].length + List.length x0.2.1 ≤ 1099511627776))
    (Tr.chk (decide (List.length a24 + [32, 70, 82, 79, 77, 32].length ≤ 1099511627776)) (Tr.chk (decide (List.length a25 + List.length x0.2.2.1 ≤ 1099511627776)) (Tr.chk (decide (List.length a26 + [32, 66, 89, 32].length ≤ 1099511627776)) (Tr.chk a27 (Tr.chk (decide (List.length a28 + List.length a29 ≤ 1099511627776))
    (Tr.chk (decide (List.length a30 + [32, 83, 85, 77, 32].length ≤ 1099511627776)) (Tr.chk a31 (Tr.chk (decide (List.length a32 + List.length a33 ≤ 1099511627776)) (Tr.chk (decide (List.length a34 + List.length a12.1 ≤ 1099511627776)) (Tr.br a12.2 (Tr.chk a13 (Tr.br a14 (Tr.chk a27 (Tr.chk (r5NameC a29) (Tr.br (r5Name a29) (Tr.chk a31 (Tr.chk (r5NameC a33) (Tr.re (AV.tup [AV.str (a34 ++ a12.1),
    AV.agg [AV.str x0.1, AV.str x0.2.1, AV.str x0.2.2.1, AV.sl Sh.str x0.2.2.2.1, AV.nils, AV.str [], AV.nils, AV.nils, AV.str (ExprT.op x0.2.2.2.2.2.2.2.2.1), AV.int .i64 (ExprT.v x0.2.2.2.2.2.2.2.2.1).1, AV.int .i64 (ExprT.v x0.2.2.2.2.2.2.2.2.1).2.1, AV.str (ExprT.v x0.2.2.2.2.2.2.2.2.1).2.2, AV.str (ExprT.s x0.2.2.2.2.2.2.2.2.1), AV.sl Sh.expr (ExprT.l x0.2.2.2.2.2.2.2.2.1), AV.nils, AV.nils,
    AV.str [], AV.int .i64 0, AV.int .i64 0, AV.str [], AV.str [], AV.nils, AV.str []], AV.bool (r5Name a33)]) []))) (Tr.re (AV.tup [AV.str (a34 ++ a12.1), AV.agg [AV.str x0.1, AV.str x0.2.1, AV.str x0.2.2.1, AV.sl Sh.str x0.2.2.2.1, AV.nils, AV.str [], AV.nils, AV.nils, AV.str (ExprT.op x0.2.2.2.2.2.2.2.2.1), AV.int .i64 (ExprT.v x0.2.2.2.2.2.2.2.2.1).1,
    AV.int .i64 (ExprT.v x0.2.2.2.2.2.2.2.2.1).2.1, AV.str (ExprT.v x0.2.2.2.2.2.2.2.2.1).2.2, AV.str (ExprT.s x0.2.2.2.2.2.2.2.2.1), AV.sl Sh.expr (ExprT.l x0.2.2.2.2.2.2.2.2.1), AV.nils, AV.nils, AV.str [], AV.int .i64 0, AV.int .i64 0, AV.str [], AV.str [], AV.nils, AV.str []], AV.kb false]) [])))) (Tr.re (AV.tup [AV.str (a34 ++ a12.1), AV.agg
    [AV.str x0.1, AV.str x0.2.1, AV.str x0.2.2.1, AV.sl Sh.str x0.2.2.2.1, AV.nils, AV.str [], AV.nils, AV.nils, AV.str (ExprT.op x0.2.2.2.2.2.2.2.2.1), AV.int .i64 (ExprT.v x0.2.2.2.2.2.2.2.2.1).1, AV.int .i64 (ExprT.v x0.2.2.2.2.2.2.2.2.1).2.1, AV.str (ExprT.v x0.2.2.2.2.2.2.2.2.1).2.2, AV.str (ExprT.s x0.2.2.2.2.2.2.2.2.1),
    AV.sl Sh.expr (ExprT.l x0.2.2.2.2.2.2.2.2.1), AV.nils, AV.nils, AV.str [], AV.int .i64 0, AV.int .i64 0, AV.str [], AV.str [], AV.nils, AV.str []], AV.kb false]) []))) (Tr.re (AV.tup [AV.str (a34 ++ a12.1), AV.agg [AV.str x0.1, AV.str x0.2.1, AV.str x0.2.2.1, AV.sl Sh.str x0.2.2.2.1, AV.nils, AV.str [], AV.nils, AV.nils, AV.str (ExprT.op x0.2.2.2.2.2.2.2.2.1),
    AV.int .i64 (ExprT.v x0.2.2.2.2.2.2.2.2.1).1, AV.int .i64 (ExprT.v x0.2.2.2.2.2.2.2.2.1).2.1, AV.str (ExprT.v x0.2.2.2.2.2.2.2.2.1).2.2, AV.str (ExprT.s x0.2.2.2.2.2.2.2.2.1), AV.sl Sh.expr (ExprT.l x0.2.2.2.2.2.2.2.2.1), AV.nils, AV.nils, AV.str [], AV.int .i64 0, AV.int .i64 0, AV.str [], AV.str [], AV.nils, AV.str []], AV.kb false]) []))))))))))))) (Tr.br (x0.1 == [114, 101, 97, 100])
    (Tr.chk (decide ([71, 82, 65, 78, 84, 32, 82, 69, 65, 68, 32, 79, 78, 32].length + List.length x0.2.1 ≤ 1099511627776)) (Tr.chk (decide (List.length a35 + [32, 84, 79, 32].length ≤ 1099511627776)) (Tr.chk (decide (List.length a36 + List.length x0.2.2.2.2.2.2.2.2.2.2.2.2 ≤ 1099511627776)) (Tr.chk a22 (Tr.re (AV.tup [AV.str (a36 ++ x0.2.2.2.2.2.2.2.2.2.2.2.2), AV.agg
    [AV.str x0.1, AV.str x0.2.1, AV.str [], AV.nils, AV.nils, AV.str [], AV.nils, AV.nils, AV.str [], AV.int .i64 0, AV.int .i64 0, AV.str [], AV.str [], AV.nils, AV.nils, AV.nils, AV.str [], AV.int .i64 0, AV.int .i64 0, AV.str [], AV.str [], AV.nils, AV.str x0.2.2.2.2.2.2.2.2.2.2.2.2], AV.bool a23]) []))))) (Tr.br (x0.1 == [119, 114, 105, 116, 101])
    (Tr.chk (decide ([71, 82, 65, 78, 84, 32, 87, 82, 73, 84, 69, 32, 79, 78, 32].length + List.length x0.2.1 ≤ 1099511627776)) (Tr.chk (decide (List.length a37 + [32, 84, 79, 32].length ≤ 1099511627776)) (Tr.chk (decide (List.length a38 + List.length x0.2.2.2.2.2.2.2.2.2.2.2.2 ≤ 1099511627776)) (Tr.chk a22 (Tr.re (AV.tup [AV.str (a38 ++ x0.2.2.2.2.2.2.2.2.2.2.2.2), AV.agg
    [AV.str x0.1, AV.str x0.2.1, AV.str [], AV.nils, AV.nils, AV.str [], AV.nils, AV.nils, AV.str [], AV.int .i64 0, AV.int .i64 0, AV.str [], AV.str [], AV.nils, AV.nils, AV.nils, AV.str [], AV.int .i64 0, AV.int .i64 0, AV.str [], AV.str [], AV.nils, AV.str x0.2.2.2.2.2.2.2.2.2.2.2.2], AV.bool a23]) []))))) (Tr.br (x0.1 == [117, 110, 114, 101, 97, 100])
    (Tr.chk (decide ([82, 69, 86, 79, 75, 69, 32, 82, 69, 65, 68, 32, 79, 78, 32].length + List.length x0.2.1 ≤ 1099511627776)) (Tr.chk (decide (List.length a39 + [32, 70, 82, 79, 77, 32].length ≤ 1099511627776)) (Tr.chk (decide (List.length a40 + List.length x0.2.2.2.2.2.2.2.2.2.2.2.2 ≤ 1099511627776)) (Tr.chk a22 (Tr.re (AV.tup [AV.str (a40 ++ x0.2.2.2.2.2.2.2.2.2.2.2.2), AV.agg
    [AV.str x0.1, AV.str x0.2.1, AV.str [], AV.nils, AV.nils, AV.str [], AV.nils, AV.nils, AV.str [], AV.int .i64 0, AV.int .i64 0, AV.str [], AV.str [], AV.nils, AV.nils, AV.nils, AV.str [], AV.int .i64 0, AV.int .i64 0, AV.str [], AV.str [], AV.nils, AV.str x0.2.2.2.2.2.2.2.2.2.2.2.2], AV.bool a23]) []))))) (Tr.br (x0.1 == [117, 110, 119, 114, 105, 116, 101]) (Tr.chk
    (decide ([82, 69, 86, 79, 75, 69, 32, 87, 82, 73, 84, 69, 32, 79, 78, 32].length + List.length x0.2.1 ≤ 1099511627776)) (Tr.chk (decide (List.length a41 + [32, 70, 82, 79, 77, 32].length ≤ 1099511627776)) (Tr.chk (decide (List.length a42 + List.length x0.2.2.2.2.2.2.2.2.2.2.2.2 ≤ 1099511627776)) (Tr.chk a22 (Tr.re (AV.tup [AV.str (a42 ++ x0.2.2.2.2.2.2.2.2.2.2.2.2), AV.agg
    [AV.str x0.1, AV.str x0.2.1, AV.str [], AV.nils, AV.nils, AV.str [], AV.nils, AV.nils, AV.str [], AV.int .i64 0, AV.int .i64 0, AV.str [], AV.str [], AV.nils, AV.nils, AV.nils, AV.str [], AV.int .i64 0, AV.int .i64 0, AV.str [], AV.str [], AV.nils, AV.str x0.2.2.2.2.2.2.2.2.2.2.2.2], AV.bool a23]) []))))) (Tr.re (AV.tup [AV.str [], AV.agg
    [AV.str x0.1, AV.str x0.2.1, AV.str [], AV.nils, AV.nils, AV.str [], AV.nils, AV.nils, AV.str [], AV.int .i64 0, AV.int .i64 0, AV.str [], AV.str [], AV.nils, AV.nils, AV.nils, AV.str [], AV.int .i64 0, AV.int .i64 0, AV.str [], AV.str [], AV.nils, AV.str []], AV.kb false]) [])))))))))))))))
def i78p (x0 : Sem shStmt) : Tr (H78p ⊕ Raw) :=
  let a0 := etaE x0.2.2.2.2.2.2.2.2.1
  let a1 := etaE x0.2.2.2.2.2.2.2.2.2.2.2.1
  let a2 := r5cond a1 [87, 72, 69, 82, 69]
  let a3 := [68, 69, 76, 69, 84, 69, 32, 70, 82, 79, 77, 32] ++ x0.2.1
  let a4 := [83, 69, 76, 69, 67, 84, 32, 42, 32, 70, 82, 79, 77, 32] ++ x0.2.1
  let a5 := [77, 73, 71, 82, 65, 84, 69, 32, 67, 79, 80, 89, 32] ++ x0.2.1
  let a6 := a5 ++ [32, 70, 82, 79, 77, 32]
  let a7 := a6 ++ x0.2.2.1
  let a8 := a7 ++ [32, 40, 32]
  let a9 := r5names x0.2.2.2.1
  let a10 := a8 ++ a9.1
  let a11 := a10 ++ [32, 41]
  let a12 := r5cond a0 []
  let a13 := r5NameC x0.2.2.1
  let a14 := r5Name x0.2.2.1
  let a15 := [77, 73, 71, 82, 65, 84, 69, 32, 74, 79, 73, 78, 32] ++ x0.2.1
  let a16 := a15 ++ [32, 70, 82, 79, 77, 32]
  let a17 := a16 ++ x0.2.2.1
  let a18 := a17 ++ [32, 44, 32]
  let a19 := a18 ++ x0.2.2.2.2.2.2.2.2.2.2.2.2
  let a20 := a19 ++ [32, 79, 78, 32]
  let a21 := a20 ++ x0.2.2.2.2.2.1
  let a22 := r5NameC x0.2.2.2.2.2.2.2.2.2.2.2.2
  let a23 := r5Name x0.2.2.2.2.2.2.2.2.2.2.2.2
  let a24 := [77, 73, 71, 82, 65, 84, 69, 32, 71, 82, 79, 85, 80, 32] ++ x0.2.1
  let a25 := a24 ++ [32, 70, 82, 79, 77, 32]
  let a26 := a25 ++ x0.2.2.1
  let a27 := inB 0 (List.length x0.2.2.2.1)
  let a28 := a26 ++ [32, 66, 89, 32]
  let a29 := List.getD x0.2.2.2.1 (Int.toNat 0) (dflt Sh.str)
  let a30 := a28 ++ a29
  let a31 := inB 1 (List.length x0.2.2.2.1)
  let a32 := a30 ++ [32, 83, 85, 77, 32]
  let a33 := List.getD x0.2.2.2.1 (Int.toNat 1) (dflt Sh.str)
  let a34 := a32 ++ a33
  let a35 := [71, 82, 65, 78, 84, 32, 82, 69, 65, 68, 32, 79, 78, 32] ++ x0.2.1
  let a36 := a35 ++ [32, 84, 79, 32]
  let a37 := [71, 82, 65, 78, 84, 32, 87, 82, 73, 84, 69, 32, 79, 78, 32] ++ x0.2.1
  let a38 := a37 ++ [32, 84, 79, 32]
  let a39 := [82, 69, 86, 79, 75, 69, 32, 82, 69, 65, 68, 32, 79, 78, 32] ++ x0.2.1
  let a40 := a39 ++ [32, 70, 82, 79, 77, 32]
  let a41 := [82, 69, 86, 79, 75, 69, 32, 87, 82, 73, 84, 69, 32, 79, 78, 32] ++ x0.2.1
  let a42 := a41 ++ [32, 70, 82, 79, 77, 32]
  i78pz x0 a0 a1 a2 a3 a4 a5 a6 a7 a8 a9 a10 a11 a12 a13 a14 a15 a16 a17 a18 a19 a20 a21 a22 a23 a24 a25 a26 a27 a28 a29 a30 a31 a32 a33 a34 a35 a36 a37 a38 a39 a40 a41 a42
def t78p_15z (s12 : List UInt8) (i13 : Int) (_ : TS) (ja1 : TS) (_ : TS) (_ : LS) (_ : LC) (_ : TS) (_ : LS) (_ : List (Sem (Sh.str.pr Sh.str))) (_ : Str) (_ : Int) (_ : Int) (_ : Str) (_ : Str) (_ : LX) (ja14 : LV) (_ : List (Sem (Sh.str.pr Sh.expr))) (_ : Str) (_ : Int) (_ : Int) (_ : Str) (_ : Str) (_ : LX) (_ : TS) (_ : List UInt8) (_ : List UInt8) (_ : List UInt8) (_ : List UInt8) (_ : List UInt8) (_ : Int) (_ : Int) (_ : List UInt8) (_ : List UInt8) (_ : List UInt8) (_ : Int) (_ : Int) (_ : List UInt8) (_ : List UInt8) (_ : List UInt8) (jc0 : TS) (jc1 : TS) (jc2 : List UInt8) (jc5 : List UInt8) (jc8 : List UInt8) (jc9 : Int) (jc10 : Int) (jc11 : List UInt8) (jc12 : List UInt8) (jc14 : LV) (jc16 : List UInt8) (jc17 : Int) (jc18 : Int) (jc19 : List UInt8) (jc20 : List UInt8) (jc22 : List UInt8) (a0 : Str) (a1 : Str) (a2 : Str) : Tr (H78p ⊕ Raw) :=
  Tr.br (decide (i13 < (↑ja14.length : Int))) (Tr.chk (inB i13 ja14.length) Tr.err)
  (Tr.chk (decide ([73, 78, 83, 69, 82, 84, 32, 73, 78, 84, 79, 32].length + List.length ja1 ≤ 1099511627776))
    (Tr.chk (decide (List.length a0 + [32, 86, 65, 76, 85, 69, 83, 32, 40, 32].length ≤ 1099511627776)) (Tr.chk (decide (List.length a1 + s12.length ≤ 1099511627776)) (Tr.chk (decide (List.length a2 + [32, 41].length ≤ 1099511627776)) (Tr.br (decide (1 ≤ (↑ja14.length : Int))) (Tr.re (AV.tup [AV.str (a2 ++ [32, 41]), AV.agg
    [AV.str jc0, AV.str jc1, AV.str jc2, AV.nils, AV.nils, AV.str jc5, AV.nils, AV.nils, AV.str jc8, AV.int .i64 jc9, AV.int .i64 jc10, AV.str jc11, AV.str jc12, AV.nils, AV.sl shVal jc14, AV.nils, AV.str jc16, AV.int .i64 jc17, AV.int .i64 jc18, AV.str jc19, AV.str jc20, AV.nils, AV.str jc22], AV.bool (decide ((↑ja14.length : Int) ≤ 12))]) [])
    (Tr.re (AV.tup [AV.str (a2 ++ [32, 41]), AV.agg [AV.str jc0, AV.str jc1, AV.str jc2, AV.nils, AV.nils, AV.str jc5, AV.nils, AV.nils, AV.str jc8, AV.int .i64 jc9, AV.int .i64 jc10, AV.str jc11, AV.str jc12, AV.nils, AV.sl shVal jc14, AV.nils, AV.str jc16, AV.int .i64 jc17, AV.int .i64 jc18, AV.str jc19, AV.str jc20, AV.nils, AV.str jc22],
    AV.kb false]) []))))))
def t78p_15 (s12 : List UInt8) (i13 : Int) (ja0 : TS) (ja1 : TS) (ja2 : TS) (ja3 : LS) (ja4 : LC) (ja5 : TS) (ja6 : LS) (ja7 : List (Sem (Sh.str.pr Sh.str))) (ja8 : Str) (ja9 : Int) (ja10 : Int) (ja11 : Str) (ja12 : Str) (ja13 : LX) (ja14 : LV) (ja15 : List (Sem (Sh.str.pr Sh.expr))) (ja16 : Str) (ja17 : Int) (ja18 : Int) (ja19 : Str) (ja20 : Str) (ja21 : LX) (ja22 : TS) (jb0 : List UInt8) (jb1 : List UInt8) (jb2 : List UInt8) (jb5 : List UInt8) (jb8 : List UInt8) (jb9 : Int) (jb10 : Int) (jb11 : List UInt8) (jb12 : List UInt8) (jb16 : List UInt8) (jb17 : Int) (jb18 : Int) (jb19 : List UInt8) (jb20 : List UInt8) (jb22 : List UInt8) (jc0 : TS) (jc1 : TS) (jc2 : List UInt8) (jc5 : List UInt8) (jc8 : List UInt8) (jc9 : Int) (jc10 : Int) (jc11 : List UInt8) (jc12 : List UInt8) (jc14 : LV) (jc16 : List UInt8) (jc17 : Int) (jc18 : Int) (jc19 : List UInt8) (jc20 : List UInt8) (jc22 : List UInt8) : Tr (H78p ⊕ Raw) :=
  let a0 := [73, 78, 83, 69, 82, 84, 32, 73, 78, 84, 79, 32] ++ ja1
  let a1 := a0 ++ [32, 86, 65, 76, 85, 69, 83, 32, 40, 32]
  let a2 := a1 ++ s12
  t78p_15z s12 i13 ja0 ja1 ja2 ja3 ja4 ja5 ja6 ja7 ja8 ja9 ja10 ja11 ja12 ja13 ja14 ja15 ja16 ja17 ja18 ja19 ja20 ja21 ja22 jb0 jb1 jb2 jb5 jb8 jb9 jb10 jb11 jb12 jb16 jb17 jb18 jb19 jb20 jb22 jc0 jc1 jc2 jc5 jc8 jc9 jc10 jc11 jc12 jc14 jc16 jc17 jc18 jc19 jc20 jc22 a0 a1 a2
def t78p_27z (s8 : TS) (b9 : Sem Sh.bool) (s14 : List UInt8) (i15 : Int) (_ : TS) (ja1 : TS) (_ : TS) (_ : LS) (_ : LC) (_ : TS) (_ : LS) (_ : List (Sem (Sh.str.pr Sh.str))) (_ : Str) (_ : Int) (_ : Int) (_ : Str) (_ : Str) (_ : LX) (_ : LV) (ja15 : List (Sem (Sh.str.pr Sh.expr))) (_ : Str) (_ : Int) (_ : Int) (_ : Str) (_ : Str) (_ : LX) (_ : TS) (_ : List UInt8) (_ : List UInt8) (_ : List UInt8) (_ : List UInt8) (_ : List UInt8) (_ : Int) (_ : Int) (_ : List UInt8) (_ : List UInt8) (_ : List UInt8) (_ : Int) (_ : Int) (_ : List UInt8) (_ : List UInt8) (_ : List UInt8) (jc0 : TS) (jc1 : TS) (jc2 : List UInt8) (jc5 : List UInt8) (jc8 : List UInt8) (jc9 : Int) (jc10 : Int) (jc11 : List UInt8) (jc12 : List UInt8) (jc15 : List (Sem (Sh.str.pr Sh.expr))) (jc16 : Str) (jc17 : Int) (jc18 : Int) (jc19 : Str) (jc20 : Str) (jc21 : LX) (jc22 : List UInt8) (a0 : Sem (Sh.str.pr Sh.expr)) (a1 : Str) (a2 : Str) (a3 : Str) : Tr (H78p ⊕ Raw) :=
  Tr.br (decide (i15 < (↑ja15.length : Int)))
  (Tr.chk (inB i15 ja15.length)
    (Tr.chk (r5NameC a0.1) (Tr.br (!r5Name a0.1) (Tr.re (AV.tup [AV.str [], AV.agg [AV.str jc0, AV.str jc1, AV.str jc2, AV.nils, AV.nils, AV.str jc5, AV.nils, AV.nils, AV.str jc8, AV.int .i64 jc9, AV.int .i64 jc10, AV.str jc11, AV.str jc12, AV.nils, AV.nils, AV.sl (Sh.str.pr Sh.expr) jc15, AV.str jc16,
    AV.int .i64 jc17, AV.int .i64 jc18, AV.str jc19, AV.str jc20, AV.sl Sh.expr jc21, AV.str jc22], AV.kb false]) []) (Tr.chk (inB i15 ja15.length) Tr.err))))
  (Tr.chk (decide ([85, 80, 68, 65, 84, 69, 32].length + List.length ja1 ≤ 1099511627776))
    (Tr.chk (decide (List.length a1 + [32, 83, 69, 84, 32].length ≤ 1099511627776)) (Tr.chk (decide (List.length a2 + s14.length ≤ 1099511627776)) (Tr.chk (decide (List.length a3 + List.length s8 ≤ 1099511627776)) (Tr.br b9 (Tr.br (decide (1 ≤ (↑ja15.length : Int))) (Tr.re (AV.tup [AV.str (a3 ++ s8), AV.agg
    [AV.str jc0, AV.str jc1, AV.str jc2, AV.nils, AV.nils, AV.str jc5, AV.nils, AV.nils, AV.str jc8, AV.int .i64 jc9, AV.int .i64 jc10, AV.str jc11, AV.str jc12, AV.nils, AV.nils, AV.sl (Sh.str.pr Sh.expr) jc15, AV.str jc16, AV.int .i64 jc17, AV.int .i64 jc18, AV.str jc19, AV.str jc20, AV.sl Sh.expr jc21, AV.str jc22],
    AV.bool (decide ((↑ja15.length : Int) ≤ 8))]) []) (Tr.re (AV.tup [AV.str (a3 ++ s8), AV.agg [AV.str jc0, AV.str jc1, AV.str jc2, AV.nils, AV.nils, AV.str jc5, AV.nils, AV.nils, AV.str jc8, AV.int .i64 jc9, AV.int .i64 jc10, AV.str jc11, AV.str jc12, AV.nils, AV.nils, AV.sl (Sh.str.pr Sh.expr) jc15, AV.str jc16,
    AV.int .i64 jc17, AV.int .i64 jc18, AV.str jc19, AV.str jc20, AV.sl Sh.expr jc21, AV.str jc22], AV.kb false]) [])) (Tr.re (AV.tup [AV.str (a3 ++ s8), AV.agg [AV.str jc0, AV.str jc1, AV.str jc2, AV.nils, AV.nils, AV.str jc5, AV.nils, AV.nils, AV.str jc8, AV.int .i64 jc9,
    AV.int .i64 jc10, AV.str jc11, AV.str jc12, AV.nils, AV.nils, AV.sl (Sh.str.pr Sh.expr) jc15, AV.str jc16, AV.int .i64 jc17, AV.int .i64 jc18, AV.str jc19, AV.str jc20, AV.sl Sh.expr jc21, AV.str jc22], AV.kb false]) []))))))
def t78p_27 (s8 : TS) (b9 : Sem Sh.bool) (s14 : List UInt8) (i15 : Int) (ja0 : TS) (ja1 : TS) (ja2 : TS) (ja3 : LS) (ja4 : LC) (ja5 : TS) (ja6 : LS) (ja7 : List (Sem (Sh.str.pr Sh.str))) (ja8 : Str) (ja9 : Int) (ja10 : Int) (ja11 : Str) (ja12 : Str) (ja13 : LX) (ja14 : LV) (ja15 : List (Sem (Sh.str.pr Sh.expr))) (ja16 : Str) (ja17 : Int) (ja18 : Int) (ja19 : Str) (ja20 : Str) (ja21 : LX) (ja22 : TS) (jb0 : List UInt8) (jb1 : List UInt8) (jb2 : List UInt8) (jb5 : List UInt8) (jb8 : List UInt8) (jb9 : Int) (jb10 : Int) (jb11 : List UInt8) (jb12 : List UInt8) (jb16 : List UInt8) (jb17 : Int) (jb18 : Int) (jb19 : List UInt8) (jb20 : List UInt8) (jb22 : List UInt8) (jc0 : TS) (jc1 : TS) (jc2 : List UInt8) (jc5 : List UInt8) (jc8 : List UInt8) (jc9 : Int) (jc10 : Int) (jc11 : List UInt8) (jc12 : List UInt8) (jc15 : List (Sem (Sh.str.pr Sh.expr))) (jc16 : Str) (jc17 : Int) (jc18 : Int) (jc19 : Str) (jc20 : Str) (jc21 : LX) (jc22 : List UInt8) : Tr (H78p ⊕ Raw) :=
  let a0 := ja15.getD i15.toNat (dflt (Sh.str.pr Sh.expr))
  let a1 := [85, 80, 68, 65, 84, 69, 32] ++ ja1
  let a2 := a1 ++ [32, 83, 69, 84, 32]
  let a3 := a2 ++ s14
  t78p_27z s8 b9 s14 i15 ja0 ja1 ja2 ja3 ja4 ja5 ja6 ja7 ja8 ja9 ja10 ja11 ja12 ja13 ja14 ja15 ja16 ja17 ja18 ja19 ja20 ja21 ja22 jb0 jb1 jb2 jb5 jb8 jb9 jb10 jb11 jb12 jb16 jb17 jb18 jb19 jb20 jb22 jc0 jc1 jc2 jc5 jc8 jc9 jc10 jc11 jc12 jc15 jc16 jc17 jc18 jc19 jc20 jc21 jc22 a0 a1 a2 a3
theorem go78p (x0 : Sem shStmt) : run env76 0 kp78p (Func.results Tryz.f78).toList 400 (bodyOf Tryz.f78) (initSt (Func.ntmps Tryz.f78) [datum shStmt x0] []) = (i78p x0).map (lf Tryz.f78 e78p) := by kernel_rfl
def t78p : H78p → Tr (H78p ⊕ Raw)
  | .h15 s12 i13 ja0 ja1 ja2 ja3 ja4 ja5 ja6 ja7 ja8 ja9 ja10 ja11 ja12 ja13 ja14 ja15 ja16 ja17 ja18 ja19 ja20 ja21 ja22 jb0 jb1 jb2 jb5 jb8 jb9 jb10 jb11 jb12 jb16 jb17 jb18 jb19 jb20 jb22 jc0 jc1 jc2 jc5 jc8 jc9 jc10 jc11 jc12 jc14 jc16 jc17 jc18 jc19 jc20 jc22 => t78p_15 s12 i13 ja0 ja1 ja2 ja3 ja4 ja5 ja6 ja7 ja8 ja9 ja10 ja11 ja12 ja13 ja14 ja15 ja16 ja17 ja18 ja19 ja20 ja21 ja22 jb0 jb1 jb2 jb5 jb8 jb9 jb10 jb11 jb12 jb16 jb17 jb18 jb19 jb20 jb22 jc0 jc1 jc2 jc5 jc8 jc9 jc10 jc11 jc12 jc14 jc16 jc17 jc18 jc19 jc20 jc22
  | .h27 s8 b9 s14 i15 ja0 ja1 ja2 ja3 ja4 ja5 ja6 ja7 ja8 ja9 ja10 ja11 ja12 ja13 ja14 ja15 ja16 ja17 ja18 ja19 ja20 ja21 ja22 jb0 jb1 jb2 jb5 jb8 jb9 jb10 jb11 jb12 jb16 jb17 jb18 jb19 jb20 jb22 jc0 jc1 jc2 jc5 jc8 jc9 jc10 jc11 jc12 jc15 jc16 jc17 jc18 jc19 jc20 jc21 jc22 => t78p_27 s8 b9 s14 i15 ja0 ja1 ja2 ja3 ja4 ja5 ja6 ja7 ja8 ja9 ja10 ja11 ja12 ja13 ja14 ja15 ja16 ja17 ja18 ja19 ja20 ja21 ja22 jb0 jb1 jb2 jb5 jb8 jb9 jb10 jb11 jb12 jb16 jb17 jb18 jb19 jb20 jb22 jc0 jc1 jc2 jc5 jc8 jc9 jc10 jc11 jc12 jc15 jc16 jc17 jc18 jc19 jc20 jc21 jc22
theorem on78p : ∀ s, run env76 0 kp78p (Func.results Tryz.f78).toList 400 (headK Tryz.f78 (e78p s).1) (e78p s).2 = (t78p s).map (lf Tryz.f78 e78p)
  | .h15 s12 i13 ja0 ja1 ja2 ja3 ja4 ja5 ja6 ja7 ja8 ja9 ja10 ja11 ja12 ja13 ja14 ja15 ja16 ja17 ja18 ja19 ja20 ja21 ja22 jb0 jb1 jb2 jb5 jb8 jb9 jb10 jb11 jb12 jb16 jb17 jb18 jb19 jb20 jb22 jc0 jc1 jc2 jc5 jc8 jc9 jc10 jc11 jc12 jc14 jc16 jc17 jc18 jc19 jc20 jc22 => by kernel_rfl
  | .h27 s8 b9 s14 i15 ja0 ja1 ja2 ja3 ja4 ja5 ja6 ja7 ja8 ja9 ja10 ja11 ja12 ja13 ja14 ja15 ja16 ja17 ja18 ja19 ja20 ja21 ja22 jb0 jb1 jb2 jb5 jb8 jb9 jb10 jb11 jb12 jb16 jb17 jb18 jb19 jb20 jb22 jc0 jc1 jc2 jc5 jc8 jc9 jc10 jc11 jc12 jc15 jc16 jc17 jc18 jc19 jc20 jc21 jc22 => by kernel_rfl
def r5writeO (x0 : Sem shStmt) : Option (HArgs (List.map some [Sh.str, shStmt, Sh.bool])) := outT [Sh.str, shStmt, Sh.bool] t78p 100000000 (i78p x0)
def r5writeC (x0 : Sem shStmt) : Bool := (r5writeO x0).isSome
def r5write (x0 : Sem shStmt) : Sem Sh.str × Sem shStmt × Sem Sh.bool := (fun r : HArgs (List.map some [Sh.str, shStmt, Sh.bool]) => (r.1, r.2.1, r.2.2.1)) ((r5writeO x0).getD (dfltH [Sh.str, shStmt, Sh.bool]))
def F78p : FSem := plainC [shStmt] [Sh.str, shStmt, Sh.bool] (fun x => r5writeC x.1) fun x => ((r5write x.1).1, (r5write x.1).2.1, (r5write x.1).2.2, ())
theorem FOk78p : FOk env76.P env76.gl 78 F78p := FOk_T1 (ks := [shStmt]) (outs := [Sh.str, shStmt, Sh.bool]) (keep := kp78p) (gas := 400) (n := 100000000) (e := e78p) (t := t78p) (i := fun x => i78p x.1) env76_all env76_mix ok78p (fun x => go78p x.1) on78p (fun _ => by kernel_rfl) (fun _ => by kernel_rfl)

def env77 : Env := (env76.add 78 F78p)
theorem env77_all : EnvAll env77 := (EnvAll.addS env76_all (SameE.refl env76) FOk78p)
theorem env77_mix : env77.P.follows .mixedOrders = true := (mix_add env76_mix _ _)
end
open Go Go.Proofs
noncomputable section
set_option maxHeartbeats 4000000

abbrev kp39p : Nat → Keep := fun _ => { }
theorem ok39p : fnChk env77.P 39 Tryz.f39 1 := by refine ⟨?_, ?_, ?_, ?_⟩ <;> kernel_rfl
def i39pz (x0 : Sem shStmt) (a0 : Sem Sh.str × Sem (Sh.str.pr (Sh.str.pr (Sh.str.sl.pr (shCol.sl.pr (Sh.str.pr (Sh.str.sl.pr (shRef.sl.pr (Sh.expr.pr (shVal.sl.pr (shSet.sl.pr (Sh.expr.pr Sh.str)))))))))))) (a1 : Sem Sh.str × Sem shStmt × Sem Sh.bool) (a2 : Bool) (a3 : Bool) (a4 : Sem Sh.str × Sem (Sh.str.pr (Sh.str.pr (Sh.str.sl.pr (shCol.sl.pr (Sh.str.pr (Sh.str.sl.pr (shRef.sl.pr (Sh.expr.pr (shVal.sl.pr (shSet.sl.pr (Sh.expr.pr Sh.str)))))))))))) (a5 : Sem shFor.sl × Sem Sh.bool) : Tr (Empty ⊕ Raw) :=
  Tr.chk (r5writeC a0)
  (Tr.chk (bif a2 then true else r5NameC x0.2.1 && bif a3 then true else r5SameC a4 a0)
    (Tr.br (bif a2 then true else bif a3 then true else !r5Same a4 a0) (Tr.re (AV.tup [AV.str [], AV.kb false]) []) (Tr.chk (r3CutC a1.1) (Tr.br (!a5.2) (Tr.re (AV.tup [AV.str [], AV.kb false]) []) (Tr.re (AV.tup [AV.str a1.1, AV.kb true]) [])))))
def i39p (x0 : Sem shStmt) : Tr (Empty ⊕ Raw) :=
  let a0 := (x0.1, x0.2.1, x0.2.2.1, x0.2.2.2.1, x0.2.2.2.2.1, x0.2.2.2.2.2.1, x0.2.2.2.2.2.2.1, x0.2.2.2.2.2.2.2.1, etaE x0.2.2.2.2.2.2.2.2.1, x0.2.2.2.2.2.2.2.2.2.1, x0.2.2.2.2.2.2.2.2.2.2.1, etaE x0.2.2.2.2.2.2.2.2.2.2.2.1, x0.2.2.2.2.2.2.2.2.2.2.2.2)
  let a1 := r5write a0
  let a2 := !a1.2.2
  let a3 := !r5Name x0.2.1
  let a4 := (a1.2.1.1, a1.2.1.2.1, a1.2.1.2.2.1, a1.2.1.2.2.2.1, a1.2.1.2.2.2.2.1, a1.2.1.2.2.2.2.2.1, a1.2.1.2.2.2.2.2.2.1, a1.2.1.2.2.2.2.2.2.2.1, etaE a1.2.1.2.2.2.2.2.2.2.2.1, a1.2.1.2.2.2.2.2.2.2.2.2.1, a1.2.1.2.2.2.2.2.2.2.2.2.2.1, etaE a1.2.1.2.2.2.2.2.2.2.2.2.2.2.1, a1.2.1.2.2.2.2.2.2.2.2.2.2.2.2)
  let a5 := r3Cut a1.1
  i39pz x0 a0 a1 a2 a3 a4 a5
theorem go39p (x0 : Sem shStmt) : run env77 0 kp39p (Func.results Tryz.f39).toList 400 (bodyOf Tryz.f39) (initSt (Func.ntmps Tryz.f39) [datum shStmt x0] []) = (i39p x0).map (lf Tryz.f39 e0) := by kernel_rfl
def r5TextO (x0 : Sem shStmt) : Option (HArgs (List.map some [Sh.str, Sh.bool])) := outT [Sh.str, Sh.bool] t0 100000000 (i39p x0)
def r5TextC (x0 : Sem shStmt) : Bool := (r5TextO x0).isSome
def r5Text (x0 : Sem shStmt) : Sem Sh.str × Sem Sh.bool := (fun r : HArgs (List.map some [Sh.str, Sh.bool]) => (r.1, r.2.1)) ((r5TextO x0).getD (dfltH [Sh.str, Sh.bool]))
def F39p : FSem := plainC [shStmt] [Sh.str, Sh.bool] (fun x => r5TextC x.1) fun x => ((r5Text x.1).1, (r5Text x.1).2, ())
theorem FOk39p : FOk env77.P env77.gl 39 F39p := FOk_T1 (ks := [shStmt]) (outs := [Sh.str, Sh.bool]) (keep := kp39p) (gas := 400) (n := 100000000) (e := e0) (t := t0) (i := fun x => i39p x.1) env77_all env77_mix ok39p (fun x => go39p x.1) (on0 _ _ _ _ _) (fun _ => by kernel_rfl) (fun _ => by kernel_rfl)

def env78 : Env := (env77.add 39 F39p)
theorem env78_all : EnvAll env78 := (EnvAll.addS env77_all (SameE.refl env77) FOk39p)
theorem env78_mix : env78.P.follows .mixedOrders = true := (mix_add env77_mix _ _)
end
open Go

theorem HpOk.cells {C : Ctx} {w : World} {U : Nat → Prop} {ρ : Nat → Option Value} {hp : Nat → AO} {k : Nat} {cs cs' : List AV} (hH : HpOk C w U ρ hp) (hk : hp k = .box cs)
    (hr : ∀ vals, RvL w U ρ cs vals → RvL w U ρ cs' vals) : HpOk C w U ρ (fun j => if j = k then .box cs' else hp j) := by
  have hown : ∀ id b, ownsB ρ id (if id = k then .box cs' else hp id) b → ownsB ρ id (hp id) b := by
    intro id b ho
    by_cases hid : id = k
    · subst hid
      rw [if_pos rfl] at ho
      rw [hk]
      obtain ⟨_, v, hv, hb⟩ := ho
      exact ⟨rfl, v, hv, hb⟩
    · rw [if_neg hid] at ho; exact ho
  refine ⟨fun id => ?_, fun id1 id2 b o1 o2 => hH.inj id1 id2 b (hown _ _ o1) (hown _ _ o2), fun id b o => hH.blk id b (hown _ _ o)⟩
  by_cases hid : id = k
  · subst hid
    have h0 := hH.ob id
    rw [hk] at h0
    obtain ⟨b, T, vals, h1, h2, h3, h4, h5⟩ := h0
    simp only [if_true]
    exact ⟨b, T, vals, h1, h2, h3, hr _ h4, h5⟩
  · simp only [if_neg hid]
    exact hH.ob id

def cpHeap2 (ps qs : List CP) (y : CSem ps) (z : CSem qs) : List AO := .box (cpCells 2 ps y) :: .box (cpCells (2 + cpCount ps) qs z) :: (cpObjs ps y ++ cpObjs qs z)

theorem cpHeap2_length (ps qs : List CP) (y : CSem ps) (z : CSem qs) : (cpHeap2 ps qs y z).length = cpCount ps + cpCount qs + 2 := by
  simp [cpHeap2, cpObjs_length]

theorem HpOk.box2 {C : Ctx} {w : World} {U : Nat → Prop} {ρ : Nat → Option Value} {cs ds : List AV} {os : List AO} {ps qs : List CP} {y : CSem ps} {z : CSem qs} (hH : HpOk C w U ρ (fun j => ((AO.box cs :: AO.box ds :: os).getD j .dead))) (hl : os.length = cpCount ps + cpCount qs)
    (hm : cpMatch (hpOf (.box cs :: .box ds :: os)) 2 ps cs = some y) (hm2 : cpMatch (hpOf (.box cs :: .box ds :: os)) (2 + cpCount ps) qs ds = some z) : HpOk C w U ρ (fun j => (cpHeap2 ps qs y z).getD j .dead) := by
  have h1 := hH.cells (k := 0) (cs := cs) (cs' := cpCells 2 ps y) rfl (fun vals h => (cpMatch_ok ps 2 cs y vals hm h).1)
  have h2 := h1.cells (k := 1) (cs := ds) (cs' := cpCells (2 + cpCount ps) qs z) rfl (fun vals h => (cpMatch_ok qs _ ds z vals hm2 h).1)
  obtain ⟨b0, T0, v0, _, _, _, r0, _⟩ := hH.ob 0
  obtain ⟨b1, T1, v1, _, _, _, r1, _⟩ := hH.ob 1
  have k1 := (cpMatch_ok ps 2 cs y v0.toList hm r0).2
  have k2 := (cpMatch_ok qs _ ds z v1.toList hm2 r1).2
  have e : (fun j => (cpHeap2 ps qs y z).getD j .dead) = fun j => if j = 1 then .box (cpCells (2 + cpCount ps) qs z) else if j = 0 then .box (cpCells 2 ps y) else (AO.box cs :: AO.box ds :: os).getD j .dead := by
    funext j
    match j with
    | 0 => rfl
    | 1 => rfl
    | j + 2 =>
      rw [if_neg (by omega), if_neg (by omega)]
      simp only [cpHeap2, List.getD_cons_succ]
      by_cases hj : j < cpCount ps
      · have hj' : j < (cpObjs ps y).length := by rw [cpObjs_length]; exact hj
        have := k1 j _ (List.getElem?_eq_getElem hj')
        simp only [hpOf, Nat.add_comm 2 j, List.getD_cons_succ] at this
        rw [this, List.getD_eq_getElem?_getD, List.getElem?_append_left hj', List.getElem?_eq_getElem hj']
        rfl
      · by_cases hj2 : j < cpCount ps + cpCount qs
        · have hj' : j - cpCount ps < (cpObjs qs z).length := by rw [cpObjs_length]; omega
          have := k2 (j - cpCount ps) _ (List.getElem?_eq_getElem hj')
          rw [show 2 + cpCount ps + (j - cpCount ps) = j + 2 by omega] at this
          simp only [hpOf, List.getD_cons_succ] at this
          rw [this, List.getD_eq_getElem?_getD, List.getElem?_append_right (by rw [cpObjs_length]; omega), cpObjs_length, List.getElem?_eq_getElem hj']
          rfl
        · rw [List.getD_eq_getElem?_getD, List.getD_eq_getElem?_getD, List.getElem?_eq_none (by simp [cpObjs_length]; omega), List.getElem?_eq_none (by omega)]
  rw [e]
  exact h2

def boxRes2 (ps qs : List CP) (outs : List Sh) (r : AV) (h : List AO) : Option (HArgs (outs.map some) × CSem ps × CSem qs) := match h with
  | .box cs :: .box ds :: os => if os.length = cpCount ps + cpCount qs then match resOf [] outs r, cpMatch (hpOf (.box cs :: .box ds :: os)) 2 ps cs, cpMatch (hpOf (.box cs :: .box ds :: os)) (2 + cpCount ps) qs ds with
      | some a, some y, some z => some (a, y, z)
      | _, _, _ => none
    else none
  | _ => none

def box2G (ps qs : List CP) (ks outs : List Sh) (ps' qs' : List CP) (c : CSem ps → CSem qs → HArgs (ks.map some) → Bool) (g : CSem ps → CSem qs → HArgs (ks.map some) → HArgs (outs.map some) × CSem ps' × CSem qs') : GSem (none :: none :: ks.map some) := fun x h => match x.1, x.2.1, h with
  | .ptr 0 0, .ptr 1 0, .box cs :: .box ds :: os => if os.length = cpCount ps + cpCount qs then match cpMatch (hpOf (.box cs :: .box ds :: os)) 2 ps cs, cpMatch (hpOf (.box cs :: .box ds :: os)) (2 + cpCount ps) qs ds with
      | some y, some z => .chk (c y z x.2.2) (.ok (resAV outs (g y z x.2.2).1, cpHeap2 ps' qs' (g y z x.2.2).2.1 (g y z x.2.2).2.2))
      | _, _ => .err
    else .err
  | _, _, _ => .err

def box2F (ps qs : List CP) (ks outs : List Sh) (ps' qs' : List CP) (c : CSem ps → CSem qs → HArgs (ks.map some) → Bool) (g : CSem ps → CSem qs → HArgs (ks.map some) → HArgs (outs.map some) × CSem ps' × CSem qs') : FSem := liftF (none :: none :: ks.map some) (box2G ps qs ks outs ps' qs' c g)

theorem FOk_box2 {E : Env} {k : FuncId} {f : Func} {ps qs : List CP} {ks outs : List Sh} {ps' qs' : List CP} {c : CSem ps → CSem qs → HArgs (ks.map some) → Bool} {g : CSem ps → CSem qs → HArgs (ks.map some) → HArgs (outs.map some) × CSem ps' × CSem qs'} (hf : fnChk E.P k f (ks.length + 2))
    (h : ∀ y z x, c y z x = true → ∀ C : Ctx, (∀ id, cpCount ps + cpCount qs + 2 ≤ id → C.ρ0 id = none) → Reach E C k (bodyOf f) (initSt f.ntmps (.ptr 0 0 :: .ptr 1 0 :: avs (ks.map some) x) (cpHeap2 ps qs y z)) (fun r h => boxRes2 ps' qs' outs r h = some (g y z x))) :
    FOk E.P E.gl k (box2F ps qs ks outs ps' qs' c g) := by
  refine FOk_of (by simpa using hf) fun x h0 res hx C hC => ?_
  obtain ⟨x0, x1, x⟩ := x
  unfold box2G at hx
  simp only at hx
  split at hx
  · rename_i cs ds os
    split at hx
    · rename_i hos
      split at hx
      · rename_i y z hy hz
        simp only [Tr.val] at hx
        split at hx
        · rename_i hc
          simp only [Option.some.injEq] at hx
          subst hx
          have hR := h y z x hc C (fun id hid => hC id (by simpa [hos] using hid))
          intro b cs' a w U ρ h1 h2 hcn hW
          have hH : HpOk C w U ρ (fun j => ((AO.box cs :: AO.box ds :: os).getD j .dead)) := hcn.hp
          have hcn' : Cn C (initSt f.ntmps (.ptr 0 0 :: .ptr 1 0 :: avs (ks.map some) x) (cpHeap2 ps qs y z)) a w U ρ :=
            ⟨hcn.tm, hH.box2 hos hy hz, fun id hid => hcn.new id (by have hid : (cpHeap2 ps qs y z).length ≤ id := hid; rw [cpHeap2_length] at hid; simpa [initSt, hos] using hid), hcn.df, hcn.r0⟩
          obtain ⟨e, w', fr, ⟨v, r, h', U', ρ', he, hq, hrv, hH', hnew, hr0, hWd⟩, hcm, hf', hl⟩ := hR b cs' a w U ρ h1 h2 hcn' hW
          unfold boxRes2 at hq
          split at hq
          · rename_i cs2 ds2 os2
            split at hq
            · rename_i hos2
              split at hq
              · rename_i a' y' z' ha' hy' hz'
                simp only [Option.some.injEq] at hq
                refine ⟨e, w', fr, ⟨v, _, _, U', ρ', he, by rw [← hq], resOf_nil ha' hrv, hH'.box2 hos2 hy' hz', fun id hid => hnew id (by rw [cpHeap2_length] at hid; simpa [hos2] using hid), hr0, hWd⟩, hcm, hf', hl⟩
              · cases hq
            · cases hq
          · cases hq
        · simp at hx
      · simp at hx
    · simp at hx
  · simp at hx

def outB2 {σ : Type} (outs : List Sh) (ps' qs' : List CP) (t : σ → Tr (σ ⊕ Raw)) (n : Nat) (i : Tr (σ ⊕ Raw)) : Option (HArgs (outs.map some) × CSem ps' × CSem qs') := (runT t n i).bind fun r => boxRes2 ps' qs' outs r.1 r.2

theorem FOk_B2 {σ : Type} {E : Env} {k : FuncId} {f : Func} {ps qs : List CP} {ks outs : List Sh} {ps' qs' : List CP} {keep : Nat → Keep} {gas n : Nat} {e : σ → Nat × St} {t : σ → Tr (σ ⊕ Raw)} {i : CSem ps → CSem qs → HArgs (ks.map some) → Tr (σ ⊕ Raw)} {c : CSem ps → CSem qs → HArgs (ks.map some) → Bool} {g : CSem ps → CSem qs → HArgs (ks.map some) → HArgs (outs.map some) × CSem ps' × CSem qs'}
    (hE : EnvAll E) (hm : E.P.follows .mixedOrders = true) (hf : fnChk E.P k f (ks.length + 2)) (hgo : ∀ y z x, run E (cpCount ps + cpCount qs + 2) keep f.results.toList gas (bodyOf f) (initSt f.ntmps (.ptr 0 0 :: .ptr 1 0 :: avs (ks.map some) x) (cpHeap2 ps qs y z)) = (i y z x).map (lf f e))
    (hon : ∀ s, run E (cpCount ps + cpCount qs + 2) keep f.results.toList gas (headK f (e s).1) (e s).2 = (t s).map (lf f e))
    (hc : ∀ y z x, c y z x = (outB2 outs ps' qs' t n (i y z x)).isSome) (hg : ∀ y z x, g y z x = (outB2 outs ps' qs' t n (i y z x)).getD (dfltH outs, dfltC ps', dfltC qs')) : FOk E.P E.gl k (box2F ps qs ks outs ps' qs' c g) := by
  refine FOk_box2 hf fun y z x hcx C hC => ?_
  rw [hc, Option.isSome_iff_exists] at hcx
  obtain ⟨u, hu⟩ := hcx
  rw [hg, hu]
  unfold outB2 at hu
  rw [Option.bind_eq_some_iff] at hu
  obtain ⟨r, h1, h2⟩ := hu
  exact iterR_ok (Q := fun r h => boxRes2 ps' qs' outs r h = some u) hE hm hf hC (n + 1) _ _ r (by rw [iterR_runT hon (hgo y z x)]; exact h1) h2

open Go Go.Proofs
noncomputable section
set_option maxHeartbeats 4000000
abbrev cpSm : List CP := [.d .str, .d .str, .d .str, .vec .str, .nil, .d .str, .nil, .nil, .d .expr, .nil, .nil, .d .str, .d shInt, .d shInt, .d .str, .d .str, .nil, .d .str]

abbrev kp114p : Nat → Keep := fun j => if j = 14 then { slots := [0, 1, 4] } else if j = 1000000 then { prom := [(1, some 3, .str)] } else { }
inductive H114p where
  | h14 (ja0 : LF) (ja1 : Sem shInt) (bh_0_2 : Sem Sh.bool) (jb0 : List UInt8) (jb1 : TS) (jb2 : TS) (jb5 : TS) (jb8 : TS) (jb9 : Sem shInt) (jb10 : Sem shInt) (jb11 : TS) (jb12 : TS) (jb16 : TS) (jb17 : Sem shInt) (jb18 : Sem shInt) (jb19 : TS) (jb20 : TS) (jb22 : TS)
  | h14b (b4 : Sem Sh.bool) (ja0 : LF) (ja1 : Sem shInt) (bh_0_2 : Sem Sh.bool) (jb0 : List UInt8) (jb1 : TS) (jb2 : TS) (jb5 : TS) (jb8 : TS) (jb9 : Sem shInt) (jb10 : Sem shInt) (jb11 : TS) (jb12 : TS) (jb16 : TS) (jb17 : Sem shInt) (jb18 : Sem shInt) (jb19 : TS) (jb20 : TS) (jb22 : TS) (lh_2 : LS)
abbrev e114p : H114p → Nat × St
  | .h14 ja0 ja1 bh_0_2 jb0 jb1 jb2 jb5 jb8 jb9 jb10 jb11 jb12 jb16 jb17 jb18 jb19 jb20 jb22 => (14, ⟨tm 117 [(0, AV.ptr 0 0), (1, AV.ptr 1 0), (4, AV.kb true)], [AO.box [AV.sl shFor ja0, AV.int .i64 ja1, AV.bool bh_0_2], AO.box [AV.str jb0, AV.str jb1, AV.str jb2, AV.nils, AV.nils, AV.str jb5, AV.nils, AV.nils, AV.str jb8, AV.int .i64 jb9, AV.int .i64 jb10, AV.str jb11, AV.str jb12, AV.nils, AV.nils, AV.nils, AV.str jb16, AV.int .i64 jb17, AV.int .i64 jb18, AV.str jb19, AV.str jb20, AV.nils, AV.str jb22]]⟩)
  | .h14b b4 ja0 ja1 bh_0_2 jb0 jb1 jb2 jb5 jb8 jb9 jb10 jb11 jb12 jb16 jb17 jb18 jb19 jb20 jb22 lh_2 => (14, ⟨tm 117 [(0, AV.ptr 0 0), (1, AV.ptr 1 0), (4, AV.bool b4)], [AO.box [AV.sl shFor ja0, AV.int .i64 ja1, AV.bool bh_0_2], AO.box [AV.str jb0, AV.str jb1, AV.str jb2, AV.vec 2, AV.nils, AV.str jb5, AV.nils, AV.nils, AV.str jb8, AV.int .i64 jb9, AV.int .i64 jb10, AV.str jb11, AV.str jb12, AV.nils, AV.nils, AV.nils, AV.str jb16, AV.int .i64 jb17, AV.int .i64 jb18, AV.str jb19, AV.str jb20, AV.nils, AV.str jb22], AO.vec Sh.str lh_2]⟩)
theorem ok114p : fnChk env78.P 114 Tryz.f114 2 := by refine ⟨?_, ?_, ?_, ?_⟩ <;> kernel_rfl
def i114pz (_ : CSem cpRd) (z : CSem cpSz) (a0 : Sem shFor.sl × CSem [CP.d shInt, CP.d Sh.bool]) (a1 : Sem Sh.bool × CSem cpRd) (a2 : Sem shFor.sl × CSem [CP.d shInt, CP.d Sh.bool]) (a3 : Sem Sh.str × CSem cpRd) (a4 : Sem shFor.sl × CSem [CP.d shInt, CP.d Sh.bool]) (_ : CSem cpRd) (a6 : Sem shFor.sl × CSem [CP.d shInt, CP.d Sh.bool]) (a7 : Sem Sh.str × CSem cpRd) (a8 : Sem shFor.sl × CSem [CP.d shInt, CP.d Sh.bool]) (a9 : CSem cpRd) (_ : CSem cpRd) (a11 : Sem shFor.sl × CSem [CP.d shInt, CP.d Sh.bool]) (a12 : Sem Sh.str × CSem cpRd) (a13 : Sem shFor.sl × CSem [CP.d shInt, CP.d Sh.bool]) (_ : CSem cpRd) (a15 : Sem shFor.sl × CSem [CP.d shInt, CP.d Sh.bool]) (a16 : Sem Sh.str × CSem cpRd) (a17 : Sem shFor.sl × CSem [CP.d shInt, CP.d Sh.bool]) (a18 : Sem Sh.expr × CSem cpRd) (_ : CSem cpRd) (a20 : Sem shFor.sl × CSem [CP.d shInt, CP.d Sh.bool]) (_ : Sem Sh.str × CSem cpRd) (a22 : LS) (a23 : Sem shFor.sl × CSem [CP.d shInt, CP.d Sh.bool]) (_ : CSem cpRd) (a25 : Sem shFor.sl × CSem [CP.d shInt, CP.d Sh.bool]) (_ : Sem Sh.str × CSem cpRd) (a27 : LS) (a28 : Sem shFor.sl × CSem [CP.d shInt, CP.d Sh.bool]) (a29 : Sem Sh.expr × CSem cpRd) (a30 : Sem Sh.expr × CSem cpRd) (a31 : Sem Sh.bool × CSem cpRd) (a32 : Sem shFor.sl × CSem [CP.d shInt, CP.d Sh.bool]) (a33 : Sem Sh.str × CSem cpRd) (a34 : Sem shFor.sl × CSem [CP.d shInt, CP.d Sh.bool]) (_ : CSem cpRd) (a36 : Sem shFor.sl × CSem [CP.d shInt, CP.d Sh.bool]) (a37 : Sem Sh.str × CSem cpRd) (a38 : Sem shFor.sl × CSem [CP.d shInt, CP.d Sh.bool]) (a39 : CSem cpRd) (_ : CSem cpRd) (a41 : Sem shFor.sl × CSem [CP.d shInt, CP.d Sh.bool]) (a42 : Sem Sh.str × CSem cpRd) (a43 : Sem shFor.sl × CSem [CP.d shInt, CP.d Sh.bool]) (_ : CSem cpRd) (a45 : Sem shFor.sl × CSem [CP.d shInt, CP.d Sh.bool]) (a46 : Sem Sh.str × CSem cpRd) (a47 : Sem shFor.sl × CSem [CP.d shInt, CP.d Sh.bool]) (a48 : Sem Sh.expr × CSem cpRd) (_ : CSem cpRd) (a50 : Sem shFor.sl × CSem [CP.d shInt, CP.d Sh.bool]) (_ : Sem Sh.str × CSem cpRd) (a52 : LS) (a53 : Sem shFor.sl × CSem [CP.d shInt, CP.d Sh.bool]) (_ : CSem cpRd) (a55 : Sem shFor.sl × CSem [CP.d shInt, CP.d Sh.bool]) (_ : Sem Sh.str × CSem cpRd) (a57 : LS) (a58 : Sem shFor.sl × CSem [CP.d shInt, CP.d Sh.bool]) (a59 : Sem Sh.expr × CSem cpRd) (a60 : Sem Sh.expr × CSem cpRd) (a61 : Sem Sh.bool × CSem cpRd) (a62 : Sem shFor.sl × CSem [CP.d shInt, CP.d Sh.bool]) (a63 : Sem Sh.str × CSem cpRd) (a64 : Sem shFor.sl × CSem [CP.d shInt, CP.d Sh.bool]) (_ : CSem cpRd) (a66 : Sem shFor.sl × CSem [CP.d shInt, CP.d Sh.bool]) (a67 : Sem Sh.str × CSem cpRd) (a68 : Sem shFor.sl × CSem [CP.d shInt, CP.d Sh.bool]) (a69 : CSem cpRd) (_ : CSem cpRd) (a71 : Sem shFor.sl × CSem [CP.d shInt, CP.d Sh.bool]) (a72 : Sem Sh.str × CSem cpRd) (a73 : Sem shFor.sl × CSem [CP.d shInt, CP.d Sh.bool]) (_ : CSem cpRd) (a75 : Sem shFor.sl × CSem [CP.d shInt, CP.d Sh.bool]) (a76 : Sem Sh.str × CSem cpRd) (a77 : Sem shFor.sl × CSem [CP.d shInt, CP.d Sh.bool]) (a78 : Sem Sh.expr × CSem cpRd) (_ : CSem cpRd) (a80 : Sem shFor.sl × CSem [CP.d shInt, CP.d Sh.bool]) (_ : Sem Sh.str × CSem cpRd) (a82 : LS) (a83 : Sem shFor.sl × CSem [CP.d shInt, CP.d Sh.bool]) (_ : CSem cpRd) (a85 : Sem shFor.sl × CSem [CP.d shInt, CP.d Sh.bool]) (_ : Sem Sh.str × CSem cpRd) (a87 : LS) (a88 : Sem shFor.sl × CSem [CP.d shInt, CP.d Sh.bool]) (a89 : Sem Sh.expr × CSem cpRd) (a90 : Sem Sh.expr × CSem cpRd) (a91 : Sem shFor.sl × CSem [CP.d shInt, CP.d Sh.bool]) (a92 : Sem Sh.str × CSem cpRd) (a93 : Sem shFor.sl × CSem [CP.d shInt, CP.d Sh.bool]) (_ : CSem cpRd) (a95 : Sem shFor.sl × CSem [CP.d shInt, CP.d Sh.bool]) (a96 : Sem Sh.str × CSem cpRd) (a97 : Sem shFor.sl × CSem [CP.d shInt, CP.d Sh.bool]) (a98 : CSem cpRd) (_ : CSem cpRd) (a100 : Sem shFor.sl × CSem [CP.d shInt, CP.d Sh.bool]) (a101 : Sem Sh.str × CSem cpRd) (a102 : Sem shFor.sl × CSem [CP.d shInt, CP.d Sh.bool]) (_ : CSem cpRd) (a104 : Sem shFor.sl × CSem [CP.d shInt, CP.d Sh.bool]) (a105 : Sem Sh.str × CSem cpRd) (a106 : Sem shFor.sl × CSem [CP.d shInt, CP.d Sh.bool]) (a107 : Sem Sh.expr × CSem cpRd) (_ : CSem cpRd) (a109 : Sem shFor.sl × CSem [CP.d shInt, CP.d Sh.bool]) (_ : Sem Sh.str × CSem cpRd) (a111 : LS) (a112 : Sem shFor.sl × CSem [CP.d shInt, CP.d Sh.bool]) (_ : CSem cpRd) (a114 : Sem shFor.sl × CSem [CP.d shInt, CP.d Sh.bool]) (_ : Sem Sh.str × CSem cpRd) (a116 : LS) (a117 : Sem shFor.sl × CSem [CP.d shInt, CP.d Sh.bool]) (a118 : Sem Sh.expr × CSem cpRd) (a119 : Sem Sh.expr × CSem cpRd) : Tr (H114p ⊕ Raw) :=
  Tr.chk (rdPassC a0 [67, 79, 80, 89])
  (Tr.br a1.1
    (Tr.chk (rdNameC a2) (Tr.chk (rdMustC a4 [70, 82, 79, 77]) (Tr.chk (rdNameC a6) (Tr.br true (Tr.chk (rdMustC a8 [40]) (Tr.to (H114p.h14 a9.1 a9.2.1 a9.2.2.1 [99, 111, 112, 121] a3.1 a7.1 z.2.2.2.1 z.2.2.2.2.1 z.2.2.2.2.2.1 z.2.2.2.2.2.2.1 z.2.2.2.2.2.2.2.1 z.2.2.2.2.2.2.2.2.1 z.2.2.2.2.2.2.2.2.2.1 z.2.2.2.2.2.2.2.2.2.2.1 z.2.2.2.2.2.2.2.2.2.2.2.1
    z.2.2.2.2.2.2.2.2.2.2.2.2.1 z.2.2.2.2.2.2.2.2.2.2.2.2.2.1 z.2.2.2.2.2.2.2.2.2.2.2.2.2.2.1))) (Tr.br false (Tr.chk (rdMustC a8 [44]) (Tr.chk (rdNameC a11) (Tr.chk (rdMustC a13 [79, 78]) (Tr.chk (rdNameC a15) (Tr.chk (rdCondC a17 [67, 72, 69, 67, 75]) (Tr.re (AV.tup []) (cpHeap2 cpRd cpSm a18.2 ([99, 111, 112, 121], a3.1, a7.1, [], a16.1, a18.1, z.2.2.2.2.2.2.2.2.2.1,
    z.2.2.2.2.2.2.2.2.2.2.1, z.2.2.2.2.2.2.2.2.2.2.2.1, z.2.2.2.2.2.2.2.2.2.2.2.2.1, z.2.2.2.2.2.2.2.2.2.2.2.2.2.1, a12.1, ())))))))) (Tr.br false (Tr.chk (rdMustC a8 [66, 89]) (Tr.chk (rdNameC a20) (Tr.chk (decide (a22.length ≤ 1073741824)) (Tr.chk (rdMustC a23 [83, 85, 77]) (Tr.chk (rdNameC a25) (Tr.chk (decide (a22.length + a27.length ≤ 1073741824)) (Tr.chk (rdCondC a28 [67, 72, 69, 67, 75])
    (Tr.re (AV.tup []) (cpHeap2 cpRd cpSm a29.2 ([99, 111, 112, 121], a3.1, a7.1, a22 ++ a27, z.2.2.2.1, a29.1, z.2.2.2.2.2.2.2.2.2)))))))))) (Tr.chk (rdCondC a8 [67, 72, 69, 67, 75]) (Tr.re (AV.tup []) (cpHeap2 cpRd cpSm a30.2 ([99, 111, 112, 121], a3.1, a7.1, [], z.2.2.2.1, a30.1, z.2.2.2.2.2.2.2.2.2))))))))))
    (Tr.chk (rdPassC a2 [74, 79, 73, 78]) (Tr.br a31.1 (Tr.chk (rdNameC a32) (Tr.chk (rdMustC a34 [70, 82, 79, 77]) (Tr.chk (rdNameC a36) (Tr.br false (Tr.chk (rdMustC a38 [40]) (Tr.to (H114p.h14 a39.1 a39.2.1 a39.2.2.1 [106, 111, 105, 110] a33.1 a37.1 z.2.2.2.1 z.2.2.2.2.1 z.2.2.2.2.2.1 z.2.2.2.2.2.2.1 z.2.2.2.2.2.2.2.1 z.2.2.2.2.2.2.2.2.1
    z.2.2.2.2.2.2.2.2.2.1 z.2.2.2.2.2.2.2.2.2.2.1 z.2.2.2.2.2.2.2.2.2.2.2.1 z.2.2.2.2.2.2.2.2.2.2.2.2.1 z.2.2.2.2.2.2.2.2.2.2.2.2.2.1 z.2.2.2.2.2.2.2.2.2.2.2.2.2.2.1))) (Tr.br true (Tr.chk (rdMustC a38 [44]) (Tr.chk (rdNameC a41) (Tr.chk (rdMustC a43 [79, 78]) (Tr.chk (rdNameC a45) (Tr.chk (rdCondC a47 [67, 72, 69, 67, 75]) (Tr.re (AV.tup []) (cpHeap2 cpRd cpSm a48.2
    ([106, 111, 105, 110], a33.1, a37.1, [], a46.1, a48.1, z.2.2.2.2.2.2.2.2.2.1, z.2.2.2.2.2.2.2.2.2.2.1, z.2.2.2.2.2.2.2.2.2.2.2.1, z.2.2.2.2.2.2.2.2.2.2.2.2.1, z.2.2.2.2.2.2.2.2.2.2.2.2.2.1, a42.1, ())))))))) (Tr.br false (Tr.chk (rdMustC a38 [66, 89]) (Tr.chk (rdNameC a50) (Tr.chk (decide (a52.length ≤ 1073741824)) (Tr.chk (rdMustC a53 [83, 85, 77]) (Tr.chk (rdNameC a55)
    (Tr.chk (decide (a52.length + a57.length ≤ 1073741824)) (Tr.chk (rdCondC a58 [67, 72, 69, 67, 75]) (Tr.re (AV.tup []) (cpHeap2 cpRd cpSm a59.2 ([106, 111, 105, 110], a33.1, a37.1, a52 ++ a57, z.2.2.2.1, a59.1, z.2.2.2.2.2.2.2.2.2)))))))))) (Tr.chk (rdCondC a38 [67, 72, 69, 67, 75]) (Tr.re (AV.tup []) (cpHeap2 cpRd cpSm a60.2
    ([106, 111, 105, 110], a33.1, a37.1, [], z.2.2.2.1, a60.1, z.2.2.2.2.2.2.2.2.2)))))))))) (Tr.chk (rdPassC a32 [71, 82, 79, 85, 80]) (Tr.br a61.1 (Tr.chk (rdNameC a62) (Tr.chk (rdMustC a64 [70, 82, 79, 77]) (Tr.chk (rdNameC a66) (Tr.br false (Tr.chk (rdMustC a68 [40]) (Tr.to (H114p.h14 a69.1 a69.2.1 a69.2.2.1 [103, 114, 111, 117, 112] a63.1 a67.1 z.2.2.2.1 z.2.2.2.2.1
    z.2.2.2.2.2.1 z.2.2.2.2.2.2.1 z.2.2.2.2.2.2.2.1 z.2.2.2.2.2.2.2.2.1 z.2.2.2.2.2.2.2.2.2.1 z.2.2.2.2.2.2.2.2.2.2.1 z.2.2.2.2.2.2.2.2.2.2.2.1 z.2.2.2.2.2.2.2.2.2.2.2.2.1 z.2.2.2.2.2.2.2.2.2.2.2.2.2.1 z.2.2.2.2.2.2.2.2.2.2.2.2.2.2.1))) (Tr.br false (Tr.chk (rdMustC a68 [44]) (Tr.chk (rdNameC a71) (Tr.chk (rdMustC a73 [79, 78]) (Tr.chk (rdNameC a75) (Tr.chk (rdCondC a77 [67, 72, 69, 67, 75])
    (Tr.re (AV.tup []) (cpHeap2 cpRd cpSm a78.2 ([103, 114, 111, 117, 112], a63.1, a67.1, [], a76.1, a78.1, z.2.2.2.2.2.2.2.2.2.1, z.2.2.2.2.2.2.2.2.2.2.1, z.2.2.2.2.2.2.2.2.2.2.2.1, z.2.2.2.2.2.2.2.2.2.2.2.2.1, z.2.2.2.2.2.2.2.2.2.2.2.2.2.1, a72.1, ())))))))) (Tr.br true (Tr.chk (rdMustC a68 [66, 89]) (Tr.chk (rdNameC a80) (Tr.chk (decide (a82.length ≤ 1073741824))
    (Tr.chk (rdMustC a83 [83, 85, 77]) (Tr.chk (rdNameC a85) (Tr.chk (decide (a82.length + a87.length ≤ 1073741824)) (Tr.chk (rdCondC a88 [67, 72, 69, 67, 75]) (Tr.re (AV.tup []) (cpHeap2 cpRd cpSm a89.2 ([103, 114, 111, 117, 112], a63.1, a67.1, a82 ++ a87, z.2.2.2.1, a89.1, z.2.2.2.2.2.2.2.2.2)))))))))) (Tr.chk (rdCondC a68 [67, 72, 69, 67, 75]) (Tr.re (AV.tup []) (cpHeap2 cpRd cpSm a90.2
    ([103, 114, 111, 117, 112], a63.1, a67.1, [], z.2.2.2.1, a90.1, z.2.2.2.2.2.2.2.2.2)))))))))) (Tr.chk (rdNameC a91) (Tr.chk (rdMustC a93 [70, 82, 79, 77]) (Tr.chk (rdNameC a95) (Tr.br (z.1 == [99, 111, 112, 121]) (Tr.chk (rdMustC a97 [40]) (Tr.to (H114p.h14 a98.1 a98.2.1 a98.2.2.1 z.1 a92.1 a96.1 z.2.2.2.1 z.2.2.2.2.1 z.2.2.2.2.2.1 z.2.2.2.2.2.2.1 z.2.2.2.2.2.2.2.1 z.2.2.2.2.2.2.2.2.1
    z.2.2.2.2.2.2.2.2.2.1 z.2.2.2.2.2.2.2.2.2.2.1 z.2.2.2.2.2.2.2.2.2.2.2.1 z.2.2.2.2.2.2.2.2.2.2.2.2.1 z.2.2.2.2.2.2.2.2.2.2.2.2.2.1 z.2.2.2.2.2.2.2.2.2.2.2.2.2.2.1))) (Tr.br (z.1 == [106, 111, 105, 110]) (Tr.chk (rdMustC a97 [44]) (Tr.chk (rdNameC a100) (Tr.chk (rdMustC a102 [79, 78]) (Tr.chk (rdNameC a104) (Tr.chk (rdCondC a106 [67, 72, 69, 67, 75]) (Tr.re (AV.tup []) (cpHeap2 cpRd cpSm a107.2
    (z.1, a92.1, a96.1, [], a105.1, a107.1, z.2.2.2.2.2.2.2.2.2.1, z.2.2.2.2.2.2.2.2.2.2.1, z.2.2.2.2.2.2.2.2.2.2.2.1, z.2.2.2.2.2.2.2.2.2.2.2.2.1, z.2.2.2.2.2.2.2.2.2.2.2.2.2.1, a101.1, ())))))))) (Tr.br (z.1 == [103, 114, 111, 117, 112]) (Tr.chk (rdMustC a97 [66, 89]) (Tr.chk (rdNameC a109) (Tr.chk (decide (a111.length ≤ 1073741824)) (Tr.chk (rdMustC a112 [83, 85, 77]) (Tr.chk (rdNameC a114)
    (Tr.chk (decide (a111.length + a116.length ≤ 1073741824)) (Tr.chk (rdCondC a117 [67, 72, 69, 67, 75]) (Tr.re (AV.tup []) (cpHeap2 cpRd cpSm a118.2 (z.1, a92.1, a96.1, a111 ++ a116, z.2.2.2.1, a118.1, z.2.2.2.2.2.2.2.2.2)))))))))) (Tr.chk (rdCondC a97 [67, 72, 69, 67, 75]) (Tr.re (AV.tup []) (cpHeap2 cpRd cpSm a119.2 (z.1, a92.1, a96.1, [], z.2.2.2.1, a119.1, z.2.2.2.2.2.2.2.2.2)))))))))))))))
def i114p (y : CSem cpRd) (z : CSem cpSz) : Tr (H114p ⊕ Raw) :=
  let a0 := (y.1, y.2.1, y.2.2.1, ())
  let a1 := rdPass a0 [67, 79, 80, 89]
  let a2 := (a1.2.1, a1.2.2.1, a1.2.2.2.1, ())
  let a3 := rdName a2
  let a4 := (a3.2.1, a3.2.2.1, a3.2.2.2.1, ())
  let a5 := rdMust a4 [70, 82, 79, 77]
  let a6 := (a5.1, a5.2.1, a5.2.2.1, ())
  let a7 := rdName a6
  let a8 := (a7.2.1, a7.2.2.1, a7.2.2.2.1, ())
  let a9 := rdMust a8 [40]
  let a10 := rdMust a8 [44]
  let a11 := (a10.1, a10.2.1, a10.2.2.1, ())
  let a12 := rdName a11
  let a13 := (a12.2.1, a12.2.2.1, a12.2.2.2.1, ())
  let a14 := rdMust a13 [79, 78]
  let a15 := (a14.1, a14.2.1, a14.2.2.1, ())
  let a16 := rdName a15
  let a17 := (a16.2.1, a16.2.2.1, a16.2.2.2.1, ())
  let a18 := rdCond a17 [67, 72, 69, 67, 75]
  let a19 := rdMust a8 [66, 89]
  let a20 := (a19.1, a19.2.1, a19.2.2.1, ())
  let a21 := rdName a20
  let a22 := [a21.1]
  let a23 := (a21.2.1, a21.2.2.1, a21.2.2.2.1, ())
  let a24 := rdMust a23 [83, 85, 77]
  let a25 := (a24.1, a24.2.1, a24.2.2.1, ())
  let a26 := rdName a25
  let a27 := [a26.1]
  let a28 := (a26.2.1, a26.2.2.1, a26.2.2.2.1, ())
  let a29 := rdCond a28 [67, 72, 69, 67, 75]
  let a30 := rdCond a8 [67, 72, 69, 67, 75]
  let a31 := rdPass a2 [74, 79, 73, 78]
  let a32 := (a31.2.1, a31.2.2.1, a31.2.2.2.1, ())
  let a33 := rdName a32
  let a34 := (a33.2.1, a33.2.2.1, a33.2.2.2.1, ())
  let a35 := rdMust a34 [70, 82, 79, 77]
  let a36 := (a35.1, a35.2.1, a35.2.2.1, ())
  let a37 := rdName a36
  let a38 := (a37.2.1, a37.2.2.1, a37.2.2.2.1, ())
  let a39 := rdMust a38 [40]
  let a40 := rdMust a38 [44]
  let a41 := (a40.1, a40.2.1, a40.2.2.1, ())
  let a42 := rdName a41
  let a43 := (a42.2.1, a42.2.2.1, a42.2.2.2.1, ())
  let a44 := rdMust a43 [79, 78]
  let a45 := (a44.1, a44.2.1, a44.2.2.1, ())
  let a46 := rdName a45
  let a47 := (a46.2.1, a46.2.2.1, a46.2.2.2.1, ())
  let a48 := rdCond a47 [67, 72, 69, 67, 75]
  let a49 := rdMust a38 [66, 89]
  let a50 := (a49.1, a49.2.1, a49.2.2.1, ())
  let a51 := rdName a50
  let a52 := [a51.1]
  let a53 := (a51.2.1, a51.2.2.1, a51.2.2.2.1, ())
  let a54 := rdMust a53 [83, 85, 77]
  let a55 := (a54.1, a54.2.1, a54.2.2.1, ())
  let a56 := rdName a55
  let a57 := [a56.1]
  let a58 := (a56.2.1, a56.2.2.1, a56.2.2.2.1, ())
  let a59 := rdCond a58 [67, 72, 69, 67, 75]
  let a60 := rdCond a38 [67, 72, 69, 67, 75]
  let a61 := rdPass a32 [71, 82, 79, 85, 80]
  let a62 := (a61.2.1, a61.2.2.1, a61.2.2.2.1, ())
  let a63 := rdName a62
  let a64 := (a63.2.1, a63.2.2.1, a63.2.2.2.1, ())
  let a65 := rdMust a64 [70, 82, 79, 77]
  let a66 := (a65.1, a65.2.1, a65.2.2.1, ())
  let a67 := rdName a66
  let a68 := (a67.2.1, a67.2.2.1, a67.2.2.2.1, ())
  let a69 := rdMust a68 [40]
  let a70 := rdMust a68 [44]
  let a71 := (a70.1, a70.2.1, a70.2.2.1, ())
  let a72 := rdName a71
  let a73 := (a72.2.1, a72.2.2.1, a72.2.2.2.1, ())
  let a74 := rdMust a73 [79, 78]
  let a75 := (a74.1, a74.2.1, a74.2.2.1, ())
  let a76 := rdName a75
  let a77 := (a76.2.1, a76.2.2.1, a76.2.2.2.1, ())
  let a78 := rdCond a77 [67, 72, 69, 67, 75]
  let a79 := rdMust a68 [66, 89]
  let a80 := (a79.1, a79.2.1, a79.2.2.1, ())
  let a81 := rdName a80
  let a82 := [a81.1]
  let a83 := (a81.2.1, a81.2.2.1, a81.2.2.2.1, ())
  let a84 := rdMust a83 [83, 85, 77]
  let a85 := (a84.1, a84.2.1, a84.2.2.1, ())
  let a86 := rdName a85
  let a87 := [a86.1]
  let a88 := (a86.2.1, a86.2.2.1, a86.2.2.2.1, ())
  let a89 := rdCond a88 [67, 72, 69, 67, 75]
  let a90 := rdCond a68 [67, 72, 69, 67, 75]
  let a91 := (a61.2.1, a61.2.2.1, false, ())
  let a92 := rdName a91
  let a93 := (a92.2.1, a92.2.2.1, a92.2.2.2.1, ())
  let a94 := rdMust a93 [70, 82, 79, 77]
  let a95 := (a94.1, a94.2.1, a94.2.2.1, ())
  let a96 := rdName a95
  let a97 := (a96.2.1, a96.2.2.1, a96.2.2.2.1, ())
  let a98 := rdMust a97 [40]
  let a99 := rdMust a97 [44]
  let a100 := (a99.1, a99.2.1, a99.2.2.1, ())
  let a101 := rdName a100
  let a102 := (a101.2.1, a101.2.2.1, a101.2.2.2.1, ())
  let a103 := rdMust a102 [79, 78]
  let a104 := (a103.1, a103.2.1, a103.2.2.1, ())
  let a105 := rdName a104
  let a106 := (a105.2.1, a105.2.2.1, a105.2.2.2.1, ())
  let a107 := rdCond a106 [67, 72, 69, 67, 75]
  let a108 := rdMust a97 [66, 89]
  let a109 := (a108.1, a108.2.1, a108.2.2.1, ())
  let a110 := rdName a109
  let a111 := [a110.1]
  let a112 := (a110.2.1, a110.2.2.1, a110.2.2.2.1, ())
  let a113 := rdMust a112 [83, 85, 77]
  let a114 := (a113.1, a113.2.1, a113.2.2.1, ())
  let a115 := rdName a114
  let a116 := [a115.1]
  let a117 := (a115.2.1, a115.2.2.1, a115.2.2.2.1, ())
  let a118 := rdCond a117 [67, 72, 69, 67, 75]
  let a119 := rdCond a97 [67, 72, 69, 67, 75]
  i114pz y z a0 a1 a2 a3 a4 a5 a6 a7 a8 a9 a10 a11 a12 a13 a14 a15 a16 a17 a18 a19 a20 a21 a22 a23 a24 a25 a26 a27 a28 a29 a30 a31 a32 a33 a34 a35 a36 a37 a38 a39 a40 a41 a42 a43 a44 a45 a46 a47 a48 a49 a50 a51 a52 a53 a54 a55 a56 a57 a58 a59 a60 a61 a62 a63 a64 a65 a66 a67 a68 a69 a70 a71 a72 a73 a74 a75 a76 a77 a78 a79 a80 a81 a82 a83 a84 a85 a86 a87 a88 a89 a90 a91 a92 a93 a94 a95 a96 a97 a98 a99 a100 a101 a102 a103 a104 a105 a106 a107 a108 a109 a110 a111 a112 a113 a114 a115 a116 a117 a118 a119
def t114p_14z (_ : LF) (_ : Sem shInt) (bh_0_2 : Sem Sh.bool) (jb0 : List UInt8) (jb1 : TS) (jb2 : TS) (jb5 : TS) (jb8 : TS) (jb9 : Sem shInt) (jb10 : Sem shInt) (jb11 : TS) (jb12 : TS) (jb16 : TS) (jb17 : Sem shInt) (jb18 : Sem shInt) (jb19 : TS) (jb20 : TS) (jb22 : TS) (a0 : Sem shFor.sl × CSem [CP.d shInt, CP.d Sh.bool]) (_ : Sem Sh.str × CSem cpRd) (a2 : LS) (a3 : Sem shFor.sl × CSem [CP.d shInt, CP.d Sh.bool]) (a4 : Sem Sh.bool × CSem cpRd) (_ : CSem cpRd) (a6 : Sem shFor.sl × CSem [CP.d shInt, CP.d Sh.bool]) (a7 : Sem Sh.expr × CSem cpRd) : Tr (H114p ⊕ Raw) :=
  Tr.br bh_0_2
  (Tr.chk (rdNameC a0)
    (Tr.chk (decide (a2.length ≤ 1073741824)) (Tr.chk (rdPassC a3 [44]) (Tr.to (H114p.h14b a4.1 a4.2.1 a4.2.2.1 a4.2.2.2.1 jb0 jb1 jb2 jb5 jb8 jb9 jb10 jb11 jb12 jb16 jb17 jb18 jb19 jb20 jb22 a2)))))
  (Tr.chk (rdMustC a0 [41])
    (Tr.chk (rdCondC a6 [67, 72, 69, 67, 75]) (Tr.re (AV.tup []) (cpHeap2 cpRd cpSm a7.2 (jb0, jb1, jb2, [], jb5, a7.1, jb16, jb17, jb18, jb19, jb20, jb22, ())))))
def t114p_14 (ja0 : LF) (ja1 : Sem shInt) (bh_0_2 : Sem Sh.bool) (jb0 : List UInt8) (jb1 : TS) (jb2 : TS) (jb5 : TS) (jb8 : TS) (jb9 : Sem shInt) (jb10 : Sem shInt) (jb11 : TS) (jb12 : TS) (jb16 : TS) (jb17 : Sem shInt) (jb18 : Sem shInt) (jb19 : TS) (jb20 : TS) (jb22 : TS) : Tr (H114p ⊕ Raw) :=
  let a0 := (ja0, ja1, bh_0_2, ())
  let a1 := rdName a0
  let a2 := [a1.1]
  let a3 := (a1.2.1, a1.2.2.1, a1.2.2.2.1, ())
  let a4 := rdPass a3 [44]
  let a5 := rdMust a0 [41]
  let a6 := (a5.1, a5.2.1, a5.2.2.1, ())
  let a7 := rdCond a6 [67, 72, 69, 67, 75]
  t114p_14z ja0 ja1 bh_0_2 jb0 jb1 jb2 jb5 jb8 jb9 jb10 jb11 jb12 jb16 jb17 jb18 jb19 jb20 jb22 a0 a1 a2 a3 a4 a5 a6 a7
def t114p_14bz (b4 : Sem Sh.bool) (_ : LF) (_ : Sem shInt) (bh_0_2 : Sem Sh.bool) (jb0 : List UInt8) (jb1 : TS) (jb2 : TS) (jb5 : TS) (jb8 : TS) (jb9 : Sem shInt) (jb10 : Sem shInt) (jb11 : TS) (jb12 : TS) (jb16 : TS) (jb17 : Sem shInt) (jb18 : Sem shInt) (jb19 : TS) (jb20 : TS) (jb22 : TS) (lh_2 : LS) (a0 : Sem shFor.sl × CSem [CP.d shInt, CP.d Sh.bool]) (_ : Sem Sh.str × CSem cpRd) (a2 : LS) (a3 : Sem shFor.sl × CSem [CP.d shInt, CP.d Sh.bool]) (a4 : Sem Sh.bool × CSem cpRd) (_ : CSem cpRd) (a6 : Sem shFor.sl × CSem [CP.d shInt, CP.d Sh.bool]) (a7 : Sem Sh.expr × CSem cpRd) : Tr (H114p ⊕ Raw) :=
  Tr.br (bif b4 then bh_0_2 else false)
  (Tr.chk (rdNameC a0)
    (Tr.chk (decide (lh_2.length + a2.length ≤ 1073741824)) (Tr.chk (rdPassC a3 [44]) (Tr.to (H114p.h14b a4.1 a4.2.1 a4.2.2.1 a4.2.2.2.1 jb0 jb1 jb2 jb5 jb8 jb9 jb10 jb11 jb12 jb16 jb17 jb18 jb19 jb20 jb22 (lh_2 ++ a2))))))
  (Tr.chk (rdMustC a0 [41])
    (Tr.chk (rdCondC a6 [67, 72, 69, 67, 75]) (Tr.re (AV.tup []) (cpHeap2 cpRd cpSm a7.2 (jb0, jb1, jb2, lh_2, jb5, a7.1, jb16, jb17, jb18, jb19, jb20, jb22, ())))))
def t114p_14b (b4 : Sem Sh.bool) (ja0 : LF) (ja1 : Sem shInt) (bh_0_2 : Sem Sh.bool) (jb0 : List UInt8) (jb1 : TS) (jb2 : TS) (jb5 : TS) (jb8 : TS) (jb9 : Sem shInt) (jb10 : Sem shInt) (jb11 : TS) (jb12 : TS) (jb16 : TS) (jb17 : Sem shInt) (jb18 : Sem shInt) (jb19 : TS) (jb20 : TS) (jb22 : TS) (lh_2 : LS) : Tr (H114p ⊕ Raw) :=
  let a0 := (ja0, ja1, bh_0_2, ())
  let a1 := rdName a0
  let a2 := [a1.1]
  let a3 := (a1.2.1, a1.2.2.1, a1.2.2.2.1, ())
  let a4 := rdPass a3 [44]
  let a5 := rdMust a0 [41]
  let a6 := (a5.1, a5.2.1, a5.2.2.1, ())
  let a7 := rdCond a6 [67, 72, 69, 67, 75]
  t114p_14bz b4 ja0 ja1 bh_0_2 jb0 jb1 jb2 jb5 jb8 jb9 jb10 jb11 jb12 jb16 jb17 jb18 jb19 jb20 jb22 lh_2 a0 a1 a2 a3 a4 a5 a6 a7
theorem go114p (y : CSem cpRd) (z : CSem cpSz) : run env78 2 kp114p (Func.results Tryz.f114).toList 400 (bodyOf Tryz.f114) (initSt (Func.ntmps Tryz.f114) [AV.ptr 0 0, AV.ptr 1 0] (cpHeap2 cpRd cpSz y z)) = (i114p y z).map (lf Tryz.f114 e114p) := by kernel_rfl
def t114p : H114p → Tr (H114p ⊕ Raw)
  | .h14 ja0 ja1 bh_0_2 jb0 jb1 jb2 jb5 jb8 jb9 jb10 jb11 jb12 jb16 jb17 jb18 jb19 jb20 jb22 => t114p_14 ja0 ja1 bh_0_2 jb0 jb1 jb2 jb5 jb8 jb9 jb10 jb11 jb12 jb16 jb17 jb18 jb19 jb20 jb22
  | .h14b b4 ja0 ja1 bh_0_2 jb0 jb1 jb2 jb5 jb8 jb9 jb10 jb11 jb12 jb16 jb17 jb18 jb19 jb20 jb22 lh_2 => t114p_14b b4 ja0 ja1 bh_0_2 jb0 jb1 jb2 jb5 jb8 jb9 jb10 jb11 jb12 jb16 jb17 jb18 jb19 jb20 jb22 lh_2
theorem on114p : ∀ s, run env78 2 kp114p (Func.results Tryz.f114).toList 400 (headK Tryz.f114 (e114p s).1) (e114p s).2 = (t114p s).map (lf Tryz.f114 e114p)
  | .h14 ja0 ja1 bh_0_2 jb0 jb1 jb2 jb5 jb8 jb9 jb10 jb11 jb12 jb16 jb17 jb18 jb19 jb20 jb22 => by kernel_rfl
  | .h14b b4 ja0 ja1 bh_0_2 jb0 jb1 jb2 jb5 jb8 jb9 jb10 jb11 jb12 jb16 jb17 jb18 jb19 jb20 jb22 lh_2 => by kernel_rfl
def rdMigO (y : CSem cpRd) (z : CSem cpSz) : Option (HArgs (List.map some []) × CSem cpRd × CSem cpSm) := outB2 [] cpRd cpSm t114p 100000000 (i114p y z)
def rdMigC (y : CSem cpRd) (z : CSem cpSz) : Bool := (rdMigO y z).isSome
def rdMig (y : CSem cpRd) (z : CSem cpSz) : CSem cpRd × CSem cpSm := (fun r : HArgs (List.map some []) × CSem cpRd × CSem cpSm => r.2) ((rdMigO y z).getD (dfltH [], dfltC cpRd, dfltC cpSm))
def F114p : FSem := box2F cpRd cpSz [] [] cpRd cpSm (fun y z _ => rdMigC y z) fun y z _ => ((), rdMig y z)
theorem FOk114p : FOk env78.P env78.gl 114 F114p := FOk_B2 (ps := cpRd) (qs := cpSz) (ks := []) (outs := []) (keep := kp114p) (gas := 400) (n := 100000000) (e := e114p) (t := t114p) (i := fun y z x => i114p y z) env78_all env78_mix ok114p (fun y z x => go114p y z) on114p (fun _ _ _ => by kernel_rfl) (fun _ _ _ => by kernel_rfl)

def env79 : Env := (env78.add 114 F114p)
theorem env79_all : EnvAll env79 := (EnvAll.addS env78_all (SameE.refl env78) FOk114p)
theorem env79_mix : env79.P.follows .mixedOrders = true := (mix_add env78_mix _ _)
end
open Go Go.Proofs
noncomputable section
set_option maxHeartbeats 4000000

abbrev kp65p : Nat → Keep := fun j => if j = 17 then { slots := [2, 4, 6, 7, 8] } else if j = 25 then { slots := [2, 4, 6, 7, 9] } else { }
inductive H65p where
  | h17 (l4 : LF) (ja0 : List UInt8) (ja1 : List UInt8) (ja2 : List UInt8) (ja5 : List UInt8) (ja8 : List UInt8) (ja9 : Int) (ja10 : Int) (ja11 : List UInt8) (ja12 : List UInt8) (ja16 : List UInt8) (ja17 : Int) (ja18 : Int) (ja19 : List UInt8) (ja20 : List UInt8) (ja22 : List UInt8) (jb0 : LF) (jb1 : Sem shInt) (bh_1_2 : Sem Sh.bool) (jc0 : List UInt8) (jc1 : TS) (jc2 : List UInt8) (jc5 : List UInt8) (jc8 : List UInt8) (jc9 : Int) (jc10 : Int) (jc11 : List UInt8) (jc12 : List UInt8) (jc16 : List UInt8) (jc17 : Int) (jc18 : Int) (jc19 : List UInt8) (jc20 : List UInt8) (jc22 : List UInt8)
  | h25 (l4 : LF) (ja0 : List UInt8) (ja1 : List UInt8) (ja2 : List UInt8) (ja5 : List UInt8) (ja8 : List UInt8) (ja9 : Int) (ja10 : Int) (ja11 : List UInt8) (ja12 : List UInt8) (ja16 : List UInt8) (ja17 : Int) (ja18 : Int) (ja19 : List UInt8) (ja20 : List UInt8) (ja22 : List UInt8) (jb0 : LF) (jb1 : Sem shInt) (bh_1_2 : Sem Sh.bool) (jc0 : List UInt8) (jc1 : TS) (jc2 : List UInt8) (jc5 : List UInt8) (jc8 : List UInt8) (jc9 : Int) (jc10 : Int) (jc11 : List UInt8) (jc12 : List UInt8) (jc16 : List UInt8) (jc17 : Int) (jc18 : Int) (jc19 : List UInt8) (jc20 : List UInt8) (jc22 : List UInt8)
abbrev e65p : H65p → Nat × St
  | .h17 l4 ja0 ja1 ja2 ja5 ja8 ja9 ja10 ja11 ja12 ja16 ja17 ja18 ja19 ja20 ja22 jb0 jb1 bh_1_2 jc0 jc1 jc2 jc5 jc8 jc9 jc10 jc11 jc12 jc16 jc17 jc18 jc19 jc20 jc22 => (17, ⟨tm 172 [(2, AV.ptr 0 0), (4, AV.sl shFor l4), (6, AV.ptr 1 0), (7, AV.ptr 2 0), (8, AV.kb true)], [AO.box [AV.str ja0, AV.str ja1, AV.str ja2, AV.nils, AV.nils, AV.str ja5, AV.nils, AV.nils, AV.str ja8, AV.int .i64 ja9, AV.int .i64 ja10, AV.str ja11, AV.str ja12, AV.nils, AV.nils, AV.nils, AV.str ja16, AV.int .i64 ja17, AV.int .i64 ja18, AV.str ja19, AV.str ja20, AV.nils, AV.str ja22], AO.box [AV.sl shFor jb0, AV.int .i64 jb1, AV.bool bh_1_2], AO.box [AV.str jc0, AV.str jc1, AV.str jc2, AV.nils, AV.nils, AV.str jc5, AV.nils, AV.nils, AV.str jc8, AV.int .i64 jc9, AV.int .i64 jc10, AV.str jc11, AV.str jc12, AV.nils, AV.nils, AV.nils, AV.str jc16, AV.int .i64 jc17, AV.int .i64 jc18, AV.str jc19, AV.str jc20, AV.nils, AV.str jc22]]⟩)
  | .h25 l4 ja0 ja1 ja2 ja5 ja8 ja9 ja10 ja11 ja12 ja16 ja17 ja18 ja19 ja20 ja22 jb0 jb1 bh_1_2 jc0 jc1 jc2 jc5 jc8 jc9 jc10 jc11 jc12 jc16 jc17 jc18 jc19 jc20 jc22 => (25, ⟨tm 172 [(2, AV.ptr 0 0), (4, AV.sl shFor l4), (6, AV.ptr 1 0), (7, AV.ptr 2 0), (9, AV.kb true)], [AO.box [AV.str ja0, AV.str ja1, AV.str ja2, AV.nils, AV.nils, AV.str ja5, AV.nils, AV.nils, AV.str ja8, AV.int .i64 ja9, AV.int .i64 ja10, AV.str ja11, AV.str ja12, AV.nils, AV.nils, AV.nils, AV.str ja16, AV.int .i64 ja17, AV.int .i64 ja18, AV.str ja19, AV.str ja20, AV.nils, AV.str ja22], AO.box [AV.sl shFor jb0, AV.int .i64 jb1, AV.bool bh_1_2], AO.box [AV.str jc0, AV.str jc1, AV.str jc2, AV.nils, AV.nils, AV.str jc5, AV.nils, AV.nils, AV.str jc8, AV.int .i64 jc9, AV.int .i64 jc10, AV.str jc11, AV.str jc12, AV.nils, AV.nils, AV.nils, AV.str jc16, AV.int .i64 jc17, AV.int .i64 jc18, AV.str jc19, AV.str jc20, AV.nils, AV.str jc22]]⟩)
theorem ok65p : fnChk env79.P 65 Tryz.f65 1 := by refine ⟨?_, ?_, ?_, ?_⟩ <;> kernel_rfl
def i65pz (x0 : TS) (a0 : Sem shFor.sl × CSem [CP.d shInt, CP.d Sh.bool]) (a1 : Sem Sh.bool × CSem cpRd) (a2 : Sem shFor.sl × CSem [CP.d shInt, CP.d Sh.bool]) (a3 : Sem Sh.bool × CSem cpRd) (a4 : Sem shFor.sl × CSem [CP.d shInt, CP.d Sh.bool]) (_ : CSem cpRd) (a6 : Sem shFor.sl × CSem [CP.d shInt, CP.d Sh.bool]) (a7 : Sem Sh.str × CSem cpRd) (a8 : Int) (a9 : Sem Sh.str × Sem (Sh.str.pr (Sh.str.pr (Sh.str.sl.pr (shCol.sl.pr (Sh.str.pr (Sh.str.sl.pr (shRef.sl.pr (Sh.expr.pr (shVal.sl.pr (shSet.sl.pr (Sh.expr.pr Sh.str)))))))))))) (a10 : Sem Sh.str × Sem Sh.bool) (a11 : Sem Sh.bool × CSem cpRd) (a12 : Sem shFor.sl × CSem [CP.d shInt, CP.d Sh.bool]) (_ : CSem cpRd) (a14 : Sem shFor.sl × CSem [CP.d shInt, CP.d Sh.bool]) (a15 : Sem Sh.str × CSem cpRd) (a16 : Sem shFor.sl × CSem [CP.d shInt, CP.d Sh.bool]) (_ : CSem cpRd) (a18 : Sem shFor.sl × CSem [CP.d shInt, CP.d Sh.bool]) (a19 : CSem cpRd) (a20 : Sem Sh.bool × CSem cpRd) (a21 : Sem shFor.sl × CSem [CP.d shInt, CP.d Sh.bool]) (a22 : Sem Sh.str × CSem cpRd) (a23 : Sem shFor.sl × CSem [CP.d shInt, CP.d Sh.bool]) (a24 : CSem cpRd) (a25 : Sem Sh.bool × CSem cpRd) (a26 : Sem shFor.sl × CSem [CP.d shInt, CP.d Sh.bool]) (_ : CSem cpRd) (a28 : Sem shFor.sl × CSem [CP.d shInt, CP.d Sh.bool]) (a29 : Sem Sh.str × CSem cpRd) (a30 : Sem shFor.sl × CSem [CP.d shInt, CP.d Sh.bool]) (a31 : Sem Sh.expr × CSem cpRd) (a32 : Sem Sh.str × Sem (Sh.str.pr (Sh.str.pr (Sh.str.sl.pr (shCol.sl.pr (Sh.str.pr (Sh.str.sl.pr (shRef.sl.pr (Sh.expr.pr (shVal.sl.pr (shSet.sl.pr (Sh.expr.pr Sh.str)))))))))))) (a33 : Sem Sh.str × Sem Sh.bool) (a34 : Sem Sh.bool × CSem cpRd) (a35 : Sem shFor.sl × CSem [CP.d shInt, CP.d Sh.bool]) (_ : CSem cpRd) (a37 : Sem shFor.sl × CSem [CP.d shInt, CP.d Sh.bool]) (_ : CSem cpRd) (a39 : Sem shFor.sl × CSem [CP.d shInt, CP.d Sh.bool]) (a40 : Sem Sh.str × CSem cpRd) (a41 : Sem shFor.sl × CSem [CP.d shInt, CP.d Sh.bool]) (a42 : Sem Sh.expr × CSem cpRd) (a43 : Sem Sh.str × Sem (Sh.str.pr (Sh.str.pr (Sh.str.sl.pr (shCol.sl.pr (Sh.str.pr (Sh.str.sl.pr (shRef.sl.pr (Sh.expr.pr (shVal.sl.pr (shSet.sl.pr (Sh.expr.pr Sh.str)))))))))))) (a44 : Sem Sh.str × Sem Sh.bool) (a45 : Sem Sh.bool × CSem cpRd) (a46 : Sem shFor.sl × CSem [CP.d shInt, CP.d Sh.bool]) (a47 : Sem Sh.bool × CSem cpRd) (a48 : Sem Sh.bool × CSem cpRd) (a49 : Sem shFor.sl × CSem [CP.d shInt, CP.d Sh.bool]) (a50 : Sem Sh.bool × CSem cpRd) (a51 : Sem Sh.bool × CSem cpRd) (a52 : Sem shFor.sl × CSem [CP.d shInt, CP.d Sh.bool]) (a53 : CSem cpRd × CSem cpSm) (a54 : Sem Sh.str × Sem (Sh.str.pr (Sh.str.pr (Sh.str.sl.pr (shCol.sl.pr (Sh.str.pr (Sh.str.sl.pr (shRef.sl.pr (Sh.expr.pr (shVal.sl.pr (shSet.sl.pr (Sh.expr.pr Sh.str)))))))))))) (a55 : Sem Sh.str × Sem Sh.bool) : Tr (H65p ⊕ Raw) :=
  Tr.chk (r3CutC x0)
  (Tr.br (!(r3Cut x0).2)
    (Tr.re (AV.tup [AV.agg [AV.str [], AV.str [], AV.str [], AV.nils, AV.nils, AV.str [], AV.nils, AV.nils, AV.str [], AV.int .i64 0, AV.int .i64 0, AV.str [], AV.str [], AV.nils, AV.nils, AV.nils, AV.str [], AV.int .i64 0, AV.int .i64 0, AV.str [], AV.str [], AV.nils, AV.str []], AV.kb false]) [])
    (Tr.chk (rdPassC a0 [67, 82, 69, 65, 84, 69]) (Tr.br a1.1 Tr.err (Tr.chk (rdPassC a2 [68, 82, 79, 80]) (Tr.br a3.1 (Tr.chk (rdMustC a4 [84, 65, 66, 76, 69]) (Tr.chk (rdNameC a6) (Tr.br (bif !a7.2.2.2.1 then true else a7.2.2.1 != a8) (Tr.re (AV.tup [AV.agg [AV.str [], AV.str [], AV.str [], AV.nils, AV.nils, AV.str [], AV.nils, AV.nils, AV.str [], AV.int .i64 0,
    AV.int .i64 0, AV.str [], AV.str [], AV.nils, AV.nils, AV.nils, AV.str [], AV.int .i64 0, AV.int .i64 0, AV.str [], AV.str [], AV.nils, AV.str []], AV.kb false]) []) (Tr.chk (r5TextC a9) (Tr.br (!a10.2) (Tr.re (AV.tup [AV.agg [AV.str [], AV.str [], AV.str [], AV.nils, AV.nils, AV.str [], AV.nils, AV.nils, AV.str [], AV.int .i64 0,
    AV.int .i64 0, AV.str [], AV.str [], AV.nils, AV.nils, AV.nils, AV.str [], AV.int .i64 0, AV.int .i64 0, AV.str [], AV.str [], AV.nils, AV.str []], AV.kb false]) []) (Tr.re (AV.tup [AV.agg [AV.str [100, 114, 111, 112], AV.str a7.1, AV.str [], AV.nils, AV.nils, AV.str [], AV.nils, AV.nils, AV.str [],
    AV.int .i64 0, AV.int .i64 0, AV.str [], AV.str [], AV.nils, AV.nils, AV.nils, AV.str [], AV.int .i64 0, AV.int .i64 0, AV.str [], AV.str [], AV.nils, AV.str []], AV.kb true]) [])))))) (Tr.chk (rdPassC a4 [73, 78, 83, 69, 82, 84]) (Tr.br a11.1 (Tr.chk (rdMustC a12 [73, 78, 84, 79]) (Tr.chk (rdNameC a14) (Tr.chk (rdMustC a16 [86, 65, 76, 85, 69, 83]) (Tr.chk (rdMustC a18 [40]) (Tr.to
    (H65p.h17 (r3Cut x0).1 [] [] [] [] [] 0 0 [] [] [] 0 0 [] [] [] a19.1 a19.2.1 a19.2.2.1 [105, 110, 115, 101, 114, 116] a15.1 [] [] [] 0 0 [] [] [] 0 0 [] [] [])))))) (Tr.chk (rdPassC a12 [85, 80, 68, 65, 84, 69]) (Tr.br a20.1 (Tr.chk (rdNameC a21) (Tr.chk (rdMustC a23 [83, 69, 84]) (Tr.to
    (H65p.h25 (r3Cut x0).1 [] [] [] [] [] 0 0 [] [] [] 0 0 [] [] [] a24.1 a24.2.1 a24.2.2.1 [117, 112, 100, 97, 116, 101] a22.1 [] [] [] 0 0 [] [] [] 0 0 [] [] [])))) (Tr.chk (rdPassC a21 [68, 69, 76, 69, 84, 69]) (Tr.br a25.1 (Tr.chk (rdMustC a26 [70, 82, 79, 77]) (Tr.chk (rdNameC a28) (Tr.chk (rdCondC a30 [87, 72, 69, 82, 69]) (Tr.br (bif !a31.2.2.2.1 then true else a31.2.2.1 != a8) (Tr.re
    (AV.tup [AV.agg [AV.str [], AV.str [], AV.str [], AV.nils, AV.nils, AV.str [], AV.nils, AV.nils, AV.str [], AV.int .i64 0, AV.int .i64 0, AV.str [], AV.str [], AV.nils, AV.nils, AV.nils, AV.str [], AV.int .i64 0, AV.int .i64 0, AV.str [], AV.str [], AV.nils, AV.str []], AV.kb false]) []) (Tr.chk (r5TextC a32) (Tr.br (!a33.2) (Tr.re (AV.tup [AV.agg
    [AV.str [], AV.str [], AV.str [], AV.nils, AV.nils, AV.str [], AV.nils, AV.nils, AV.str [], AV.int .i64 0, AV.int .i64 0, AV.str [], AV.str [], AV.nils, AV.nils, AV.nils, AV.str [], AV.int .i64 0, AV.int .i64 0, AV.str [], AV.str [], AV.nils, AV.str []], AV.kb false]) []) (Tr.re (AV.tup [AV.agg
    [AV.str [100, 101, 108, 101, 116, 101], AV.str a29.1, AV.str [], AV.nils, AV.nils, AV.str [], AV.nils, AV.nils, AV.str [], AV.int .i64 0, AV.int .i64 0, AV.str [], AV.str [], AV.nils, AV.nils, AV.nils, AV.str (ExprT.op a31.1), AV.int .i64 (ExprT.v a31.1).1, AV.int .i64 (ExprT.v a31.1).2.1, AV.str (ExprT.v a31.1).2.2, AV.str (ExprT.s a31.1), AV.sl Sh.expr (ExprT.l a31.1), AV.str []],
    AV.kb true]) []))))))) (Tr.chk (rdPassC a26 [83, 69, 76, 69, 67, 84]) (Tr.br a34.1 (Tr.chk (rdMustC a35 [42]) (Tr.chk (rdMustC a37 [70, 82, 79, 77]) (Tr.chk (rdNameC a39) (Tr.chk (rdCondC a41 [87, 72, 69, 82, 69]) (Tr.br (bif !a42.2.2.2.1 then true else a42.2.2.1 != a8) (Tr.re (AV.tup [AV.agg
    [AV.str [], AV.str [], AV.str [], AV.nils, AV.nils, AV.str [], AV.nils, AV.nils, AV.str [], AV.int .i64 0, AV.int .i64 0, AV.str [], AV.str [], AV.nils, AV.nils, AV.nils, AV.str [], AV.int .i64 0, AV.int .i64 0, AV.str [], AV.str [], AV.nils, AV.str []], AV.kb false]) []) (Tr.chk (r5TextC a43) (Tr.br (!a44.2) (Tr.re (AV.tup [AV.agg
    [AV.str [], AV.str [], AV.str [], AV.nils, AV.nils, AV.str [], AV.nils, AV.nils, AV.str [], AV.int .i64 0, AV.int .i64 0, AV.str [], AV.str [], AV.nils, AV.nils, AV.nils, AV.str [], AV.int .i64 0, AV.int .i64 0, AV.str [], AV.str [], AV.nils, AV.str []], AV.kb false]) []) (Tr.re (AV.tup [AV.agg
    [AV.str [115, 101, 108, 101, 99, 116], AV.str a40.1, AV.str [], AV.nils, AV.nils, AV.str [], AV.nils, AV.nils, AV.str [], AV.int .i64 0, AV.int .i64 0, AV.str [], AV.str [], AV.nils, AV.nils, AV.nils, AV.str (ExprT.op a42.1), AV.int .i64 (ExprT.v a42.1).1, AV.int .i64 (ExprT.v a42.1).2.1, AV.str (ExprT.v a42.1).2.2, AV.str (ExprT.s a42.1), AV.sl Sh.expr (ExprT.l a42.1), AV.str []],
    AV.kb true]) [])))))))) (Tr.chk (rdPassC a35 [71, 82, 65, 78, 84]) (Tr.br a45.1 (Tr.chk (rdSeeC a46 [82, 69, 65, 68]) (Tr.br a47.1 Tr.err Tr.err)) (Tr.chk (rdPassC a46 [82, 69, 86, 79, 75, 69]) (Tr.br a48.1 (Tr.chk (rdSeeC a49 [82, 69, 65, 68]) (Tr.br a50.1 Tr.err Tr.err)) (Tr.chk (rdPassC a49 [77, 73, 71, 82, 65, 84, 69]) (Tr.br a51.1
    (Tr.chk (rdMigC a52 ([], [], [], [], [], 0, 0, [], [], [], 0, 0, [], [], [], ())) (Tr.br (bif !a53.1.2.2.1 then true else a53.1.2.1 != a8) (Tr.re (AV.tup [AV.agg [AV.str [], AV.str [], AV.str [], AV.nils, AV.nils, AV.str [], AV.nils, AV.nils, AV.str [], AV.int .i64 0, AV.int .i64 0, AV.str [], AV.str [], AV.nils, AV.nils, AV.nils, AV.str [],
    AV.int .i64 0, AV.int .i64 0, AV.str [], AV.str [], AV.nils, AV.str []], AV.kb false]) []) (Tr.chk (r5TextC a54) (Tr.br (!a55.2) (Tr.re (AV.tup [AV.agg [AV.str [], AV.str [], AV.str [], AV.nils, AV.nils, AV.str [], AV.nils, AV.nils, AV.str [], AV.int .i64 0, AV.int .i64 0, AV.str [], AV.str [], AV.nils, AV.nils, AV.nils,
    AV.str [], AV.int .i64 0, AV.int .i64 0, AV.str [], AV.str [], AV.nils, AV.str []], AV.kb false]) []) (Tr.re (AV.tup [AV.agg [AV.str a53.2.1, AV.str a53.2.2.1, AV.str a53.2.2.2.1, AV.vec 0, AV.nils, AV.str a53.2.2.2.2.2.1, AV.nils, AV.nils, AV.str (ExprT.op a53.2.2.2.2.2.2.1), AV.int .i64 (ExprT.v a53.2.2.2.2.2.2.1).1, AV.int .i64 (ExprT.v a53.2.2.2.2.2.2.1).2.1,
    AV.str (ExprT.v a53.2.2.2.2.2.2.1).2.2, AV.str (ExprT.s a53.2.2.2.2.2.2.1), AV.sl Sh.expr (ExprT.l a53.2.2.2.2.2.2.1), AV.nils, AV.nils, AV.str a53.2.2.2.2.2.2.2.1, AV.int .i64 a53.2.2.2.2.2.2.2.2.1, AV.int .i64 a53.2.2.2.2.2.2.2.2.2.1, AV.str a53.2.2.2.2.2.2.2.2.2.2.1, AV.str a53.2.2.2.2.2.2.2.2.2.2.2.1, AV.nils, AV.str a53.2.2.2.2.2.2.2.2.2.2.2.2.1], AV.kb true])
    [AO.vec Sh.str a53.2.2.2.2.1]))))) (Tr.br (bif !a51.2.2.2.1 then true else a51.2.2.1 != a8) (Tr.re (AV.tup [AV.agg [AV.str [], AV.str [], AV.str [], AV.nils, AV.nils, AV.str [], AV.nils, AV.nils, AV.str [], AV.int .i64 0, AV.int .i64 0, AV.str [], AV.str [], AV.nils, AV.nils, AV.nils, AV.str [], AV.int .i64 0, AV.int .i64 0, AV.str [], AV.str [], AV.nils, AV.str []], AV.kb false]) [])
    (Tr.chk true (Tr.br true (Tr.re (AV.tup [AV.agg [AV.str [], AV.str [], AV.str [], AV.nils, AV.nils, AV.str [], AV.nils, AV.nils, AV.str [], AV.int .i64 0, AV.int .i64 0, AV.str [], AV.str [], AV.nils, AV.nils, AV.nils, AV.str [], AV.int .i64 0, AV.int .i64 0, AV.str [], AV.str [], AV.nils, AV.str []], AV.kb false]) []) (Tr.re (AV.tup [AV.agg
    [AV.str [], AV.str [], AV.str [], AV.nils, AV.nils, AV.str [], AV.nils, AV.nils, AV.str [], AV.int .i64 0, AV.int .i64 0, AV.str [], AV.str [], AV.nils, AV.nils, AV.nils, AV.str [], AV.int .i64 0, AV.int .i64 0, AV.str [], AV.str [], AV.nils, AV.str []], AV.kb true]) [])))))))))))))))))))))))
def i65p (x0 : TS) : Tr (H65p ⊕ Raw) :=
  let a0 := ((r3Cut x0).1, 0, true, ())
  let a1 := rdPass a0 [67, 82, 69, 65, 84, 69]
  let a2 := (a1.2.1, a1.2.2.1, a1.2.2.2.1, ())
  let a3 := rdPass a2 [68, 82, 79, 80]
  let a4 := (a3.2.1, a3.2.2.1, a3.2.2.2.1, ())
  let a5 := rdMust a4 [84, 65, 66, 76, 69]
  let a6 := (a5.1, a5.2.1, a5.2.2.1, ())
  let a7 := rdName a6
  let a8 := (↑(List.length (r3Cut x0).1) : Int)
  let a9 := ([100, 114, 111, 112], a7.1, [], [], [], [], [], [], ExprT.mk [] (0, 0, []) [] [], [], [], ExprT.mk [] (0, 0, []) [] [], [])
  let a10 := r5Text a9
  let a11 := rdPass a4 [73, 78, 83, 69, 82, 84]
  let a12 := (a11.2.1, a11.2.2.1, a11.2.2.2.1, ())
  let a13 := rdMust a12 [73, 78, 84, 79]
  let a14 := (a13.1, a13.2.1, a13.2.2.1, ())
  let a15 := rdName a14
  let a16 := (a15.2.1, a15.2.2.1, a15.2.2.2.1, ())
  let a17 := rdMust a16 [86, 65, 76, 85, 69, 83]
  let a18 := (a17.1, a17.2.1, a17.2.2.1, ())
  let a19 := rdMust a18 [40]
  let a20 := rdPass a12 [85, 80, 68, 65, 84, 69]
  let a21 := (a20.2.1, a20.2.2.1, a20.2.2.2.1, ())
  let a22 := rdName a21
  let a23 := (a22.2.1, a22.2.2.1, a22.2.2.2.1, ())
  let a24 := rdMust a23 [83, 69, 84]
  let a25 := rdPass a21 [68, 69, 76, 69, 84, 69]
  let a26 := (a25.2.1, a25.2.2.1, a25.2.2.2.1, ())
  let a27 := rdMust a26 [70, 82, 79, 77]
  let a28 := (a27.1, a27.2.1, a27.2.2.1, ())
  let a29 := rdName a28
  let a30 := (a29.2.1, a29.2.2.1, a29.2.2.2.1, ())
  let a31 := rdCond a30 [87, 72, 69, 82, 69]
  let a32 := ([100, 101, 108, 101, 116, 101], a29.1, [], [], [], [], [], [], ExprT.mk [] (0, 0, []) [] [], [], [], etaE a31.1, [])
  let a33 := r5Text a32
  let a34 := rdPass a26 [83, 69, 76, 69, 67, 84]
  let a35 := (a34.2.1, a34.2.2.1, a34.2.2.2.1, ())
  let a36 := rdMust a35 [42]
  let a37 := (a36.1, a36.2.1, a36.2.2.1, ())
  let a38 := rdMust a37 [70, 82, 79, 77]
  let a39 := (a38.1, a38.2.1, a38.2.2.1, ())
  let a40 := rdName a39
  let a41 := (a40.2.1, a40.2.2.1, a40.2.2.2.1, ())
  let a42 := rdCond a41 [87, 72, 69, 82, 69]
  let a43 := ([115, 101, 108, 101, 99, 116], a40.1, [], [], [], [], [], [], ExprT.mk [] (0, 0, []) [] [], [], [], etaE a42.1, [])
  let a44 := r5Text a43
  let a45 := rdPass a35 [71, 82, 65, 78, 84]
  let a46 := (a45.2.1, a45.2.2.1, a45.2.2.2.1, ())
  let a47 := rdSee a46 [82, 69, 65, 68]
  let a48 := rdPass a46 [82, 69, 86, 79, 75, 69]
  let a49 := (a48.2.1, a48.2.2.1, a48.2.2.2.1, ())
  let a50 := rdSee a49 [82, 69, 65, 68]
  let a51 := rdPass a49 [77, 73, 71, 82, 65, 84, 69]
  let a52 := (a51.2.1, a51.2.2.1, a51.2.2.2.1, ())
  let a53 := rdMig a52 ([], [], [], [], [], 0, 0, [], [], [], 0, 0, [], [], [], ())
  let a54 := (a53.2.1, a53.2.2.1, a53.2.2.2.1, a53.2.2.2.2.1, [], a53.2.2.2.2.2.1, [], [], etaE a53.2.2.2.2.2.2.1, [], [], ExprT.mk a53.2.2.2.2.2.2.2.1 (a53.2.2.2.2.2.2.2.2.1, a53.2.2.2.2.2.2.2.2.2.1, a53.2.2.2.2.2.2.2.2.2.2.1) a53.2.2.2.2.2.2.2.2.2.2.2.1 [], a53.2.2.2.2.2.2.2.2.2.2.2.2.1)
  let a55 := r5Text a54
  i65pz x0 a0 a1 a2 a3 a4 a5 a6 a7 a8 a9 a10 a11 a12 a13 a14 a15 a16 a17 a18 a19 a20 a21 a22 a23 a24 a25 a26 a27 a28 a29 a30 a31 a32 a33 a34 a35 a36 a37 a38 a39 a40 a41 a42 a43 a44 a45 a46 a47 a48 a49 a50 a51 a52 a53 a54 a55
def t65p_17z (l4 : LF) (_ : List UInt8) (_ : List UInt8) (_ : List UInt8) (_ : List UInt8) (_ : List UInt8) (_ : Int) (_ : Int) (_ : List UInt8) (_ : List UInt8) (_ : List UInt8) (_ : Int) (_ : Int) (_ : List UInt8) (_ : List UInt8) (_ : List UInt8) (_ : LF) (_ : Sem shInt) (bh_1_2 : Sem Sh.bool) (jc0 : List UInt8) (jc1 : TS) (jc2 : List UInt8) (jc5 : List UInt8) (jc8 : List UInt8) (jc9 : Int) (jc10 : Int) (jc11 : List UInt8) (jc12 : List UInt8) (jc16 : List UInt8) (jc17 : Int) (jc18 : Int) (jc19 : List UInt8) (jc20 : List UInt8) (jc22 : List UInt8) (a0 : Sem shFor.sl × CSem [CP.d shInt, CP.d Sh.bool]) (a1 : CSem cpRd) (a2 : Sem Sh.str × Sem (Sh.str.pr (Sh.str.pr (Sh.str.sl.pr (shCol.sl.pr (Sh.str.pr (Sh.str.sl.pr (shRef.sl.pr (Sh.expr.pr (shVal.sl.pr (shSet.sl.pr (Sh.expr.pr Sh.str)))))))))))) (a3 : Sem Sh.str × Sem Sh.bool) : Tr (H65p ⊕ Raw) :=
  Tr.br bh_1_2 Tr.err
  (Tr.chk (rdMustC a0 [41])
    (Tr.br (bif !a1.2.2.1 then true else a1.2.1 != (↑l4.length : Int)) (Tr.re (AV.tup [AV.agg [AV.str [], AV.str [], AV.str [], AV.nils, AV.nils, AV.str [], AV.nils, AV.nils, AV.str [], AV.int .i64 0, AV.int .i64 0, AV.str [], AV.str [], AV.nils, AV.nils, AV.nils, AV.str [], AV.int .i64 0, AV.int .i64 0, AV.str [], AV.str [], AV.nils, AV.str []], AV.kb false]) []) (Tr.chk (r5TextC a2)
    (Tr.br (!a3.2) (Tr.re (AV.tup [AV.agg [AV.str [], AV.str [], AV.str [], AV.nils, AV.nils, AV.str [], AV.nils, AV.nils, AV.str [], AV.int .i64 0, AV.int .i64 0, AV.str [], AV.str [], AV.nils, AV.nils, AV.nils, AV.str [], AV.int .i64 0, AV.int .i64 0, AV.str [], AV.str [], AV.nils, AV.str []], AV.kb false]) []) (Tr.re (AV.tup [AV.agg
    [AV.str jc0, AV.str jc1, AV.str jc2, AV.nils, AV.nils, AV.str jc5, AV.nils, AV.nils, AV.str jc8, AV.int .i64 jc9, AV.int .i64 jc10, AV.str jc11, AV.str jc12, AV.nils, AV.nils, AV.nils, AV.str jc16, AV.int .i64 jc17, AV.int .i64 jc18, AV.str jc19, AV.str jc20, AV.nils, AV.str jc22], AV.kb true]) [])))))
def t65p_17 (l4 : LF) (ja0 : List UInt8) (ja1 : List UInt8) (ja2 : List UInt8) (ja5 : List UInt8) (ja8 : List UInt8) (ja9 : Int) (ja10 : Int) (ja11 : List UInt8) (ja12 : List UInt8) (ja16 : List UInt8) (ja17 : Int) (ja18 : Int) (ja19 : List UInt8) (ja20 : List UInt8) (ja22 : List UInt8) (jb0 : LF) (jb1 : Sem shInt) (bh_1_2 : Sem Sh.bool) (jc0 : List UInt8) (jc1 : TS) (jc2 : List UInt8) (jc5 : List UInt8) (jc8 : List UInt8) (jc9 : Int) (jc10 : Int) (jc11 : List UInt8) (jc12 : List UInt8) (jc16 : List UInt8) (jc17 : Int) (jc18 : Int) (jc19 : List UInt8) (jc20 : List UInt8) (jc22 : List UInt8) : Tr (H65p ⊕ Raw) :=
  let a0 := (jb0, jb1, bh_1_2, ())
  let a1 := rdMust a0 [41]
  let a2 := (jc0, jc1, jc2, [], [], jc5, [], [], ExprT.mk jc8 (jc9, jc10, jc11) jc12 [], [], [], ExprT.mk jc16 (jc17, jc18, jc19) jc20 [], jc22)
  let a3 := r5Text a2
  t65p_17z l4 ja0 ja1 ja2 ja5 ja8 ja9 ja10 ja11 ja12 ja16 ja17 ja18 ja19 ja20 ja22 jb0 jb1 bh_1_2 jc0 jc1 jc2 jc5 jc8 jc9 jc10 jc11 jc12 jc16 jc17 jc18 jc19 jc20 jc22 a0 a1 a2 a3
def t65p_25z (l4 : LF) (_ : List UInt8) (_ : List UInt8) (_ : List UInt8) (_ : List UInt8) (_ : List UInt8) (_ : Int) (_ : Int) (_ : List UInt8) (_ : List UInt8) (_ : List UInt8) (_ : Int) (_ : Int) (_ : List UInt8) (_ : List UInt8) (_ : List UInt8) (_ : LF) (_ : Sem shInt) (bh_1_2 : Sem Sh.bool) (jc0 : List UInt8) (jc1 : TS) (jc2 : List UInt8) (jc5 : List UInt8) (jc8 : List UInt8) (jc9 : Int) (jc10 : Int) (jc11 : List UInt8) (jc12 : List UInt8) (_ : List UInt8) (_ : Int) (_ : Int) (_ : List UInt8) (_ : List UInt8) (jc22 : List UInt8) (a0 : Sem shFor.sl × CSem [CP.d shInt, CP.d Sh.bool]) (a1 : Sem Sh.str × CSem cpRd) (a2 : Sem Sh.expr × CSem cpRd) (a3 : Sem Sh.str × Sem (Sh.str.pr (Sh.str.pr (Sh.str.sl.pr (shCol.sl.pr (Sh.str.pr (Sh.str.sl.pr (shRef.sl.pr (Sh.expr.pr (shVal.sl.pr (shSet.sl.pr (Sh.expr.pr Sh.str)))))))))))) (a4 : Sem Sh.str × Sem Sh.bool) : Tr (H65p ⊕ Raw) :=
  Tr.br bh_1_2 (Tr.chk (rdNameC a0) (Tr.chk (rdMustC (a1.2.1, a1.2.2.1, a1.2.2.2.1, ()) [61]) Tr.err))
  (Tr.chk (rdCondC a0 [87, 72, 69, 82, 69])
    (Tr.br (bif !a2.2.2.2.1 then true else a2.2.2.1 != (↑l4.length : Int)) (Tr.re (AV.tup [AV.agg [AV.str [], AV.str [], AV.str [], AV.nils, AV.nils, AV.str [], AV.nils, AV.nils, AV.str [], AV.int .i64 0, AV.int .i64 0, AV.str [], AV.str [], AV.nils, AV.nils, AV.nils, AV.str [], AV.int .i64 0, AV.int .i64 0, AV.str [], AV.str [], AV.nils, AV.str []], AV.kb false]) []) (Tr.chk (r5TextC a3)
    (Tr.br (!a4.2) (Tr.re (AV.tup [AV.agg [AV.str [], AV.str [], AV.str [], AV.nils, AV.nils, AV.str [], AV.nils, AV.nils, AV.str [], AV.int .i64 0, AV.int .i64 0, AV.str [], AV.str [], AV.nils, AV.nils, AV.nils, AV.str [], AV.int .i64 0, AV.int .i64 0, AV.str [], AV.str [], AV.nils, AV.str []], AV.kb false]) []) (Tr.re (AV.tup [AV.agg
    [AV.str jc0, AV.str jc1, AV.str jc2, AV.nils, AV.nils, AV.str jc5, AV.nils, AV.nils, AV.str jc8, AV.int .i64 jc9, AV.int .i64 jc10, AV.str jc11, AV.str jc12, AV.nils, AV.nils, AV.nils, AV.str (ExprT.op a2.1), AV.int .i64 (ExprT.v a2.1).1, AV.int .i64 (ExprT.v a2.1).2.1, AV.str (ExprT.v a2.1).2.2, AV.str (ExprT.s a2.1), AV.sl Sh.expr (ExprT.l a2.1), AV.str jc22],
    AV.kb true]) [])))))
def t65p_25 (l4 : LF) (ja0 : List UInt8) (ja1 : List UInt8) (ja2 : List UInt8) (ja5 : List UInt8) (ja8 : List UInt8) (ja9 : Int) (ja10 : Int) (ja11 : List UInt8) (ja12 : List UInt8) (ja16 : List UInt8) (ja17 : Int) (ja18 : Int) (ja19 : List UInt8) (ja20 : List UInt8) (ja22 : List UInt8) (jb0 : LF) (jb1 : Sem shInt) (bh_1_2 : Sem Sh.bool) (jc0 : List UInt8) (jc1 : TS) (jc2 : List UInt8) (jc5 : List UInt8) (jc8 : List UInt8) (jc9 : Int) (jc10 : Int) (jc11 : List UInt8) (jc12 : List UInt8) (jc16 : List UInt8) (jc17 : Int) (jc18 : Int) (jc19 : List UInt8) (jc20 : List UInt8) (jc22 : List UInt8) : Tr (H65p ⊕ Raw) :=
  let a0 := (jb0, jb1, bh_1_2, ())
  let a1 := rdName a0
  let a2 := rdCond a0 [87, 72, 69, 82, 69]
  let a3 := (jc0, jc1, jc2, [], [], jc5, [], [], ExprT.mk jc8 (jc9, jc10, jc11) jc12 [], [], [], etaE a2.1, jc22)
  let a4 := r5Text a3
  t65p_25z l4 ja0 ja1 ja2 ja5 ja8 ja9 ja10 ja11 ja12 ja16 ja17 ja18 ja19 ja20 ja22 jb0 jb1 bh_1_2 jc0 jc1 jc2 jc5 jc8 jc9 jc10 jc11 jc12 jc16 jc17 jc18 jc19 jc20 jc22 a0 a1 a2 a3 a4
theorem go65p (x0 : TS) : run env79 0 kp65p (Func.results Tryz.f65).toList 400 (bodyOf Tryz.f65) (initSt (Func.ntmps Tryz.f65) [datum Sh.str x0] []) = (i65p x0).map (lf Tryz.f65 e65p) := by kernel_rfl
def t65p : H65p → Tr (H65p ⊕ Raw)
  | .h17 l4 ja0 ja1 ja2 ja5 ja8 ja9 ja10 ja11 ja12 ja16 ja17 ja18 ja19 ja20 ja22 jb0 jb1 bh_1_2 jc0 jc1 jc2 jc5 jc8 jc9 jc10 jc11 jc12 jc16 jc17 jc18 jc19 jc20 jc22 => t65p_17 l4 ja0 ja1 ja2 ja5 ja8 ja9 ja10 ja11 ja12 ja16 ja17 ja18 ja19 ja20 ja22 jb0 jb1 bh_1_2 jc0 jc1 jc2 jc5 jc8 jc9 jc10 jc11 jc12 jc16 jc17 jc18 jc19 jc20 jc22
  | .h25 l4 ja0 ja1 ja2 ja5 ja8 ja9 ja10 ja11 ja12 ja16 ja17 ja18 ja19 ja20 ja22 jb0 jb1 bh_1_2 jc0 jc1 jc2 jc5 jc8 jc9 jc10 jc11 jc12 jc16 jc17 jc18 jc19 jc20 jc22 => t65p_25 l4 ja0 ja1 ja2 ja5 ja8 ja9 ja10 ja11 ja12 ja16 ja17 ja18 ja19 ja20 ja22 jb0 jb1 bh_1_2 jc0 jc1 jc2 jc5 jc8 jc9 jc10 jc11 jc12 jc16 jc17 jc18 jc19 jc20 jc22
theorem on65p : ∀ s, run env79 0 kp65p (Func.results Tryz.f65).toList 400 (headK Tryz.f65 (e65p s).1) (e65p s).2 = (t65p s).map (lf Tryz.f65 e65p)
  | .h17 l4 ja0 ja1 ja2 ja5 ja8 ja9 ja10 ja11 ja12 ja16 ja17 ja18 ja19 ja20 ja22 jb0 jb1 bh_1_2 jc0 jc1 jc2 jc5 jc8 jc9 jc10 jc11 jc12 jc16 jc17 jc18 jc19 jc20 jc22 => by kernel_rfl
  | .h25 l4 ja0 ja1 ja2 ja5 ja8 ja9 ja10 ja11 ja12 ja16 ja17 ja18 ja19 ja20 ja22 jb0 jb1 bh_1_2 jc0 jc1 jc2 jc5 jc8 jc9 jc10 jc11 jc12 jc16 jc17 jc18 jc19 jc20 jc22 => by kernel_rfl
def r5ParseO (x0 : TS) : Option (HArgs (List.map some [shStmt, Sh.bool])) := outT [shStmt, Sh.bool] t65p 100000000 (i65p x0)
def r5ParseC (x0 : TS) : Bool := (r5ParseO x0).isSome
def r5Parse (x0 : TS) : Sem shStmt × Sem Sh.bool := (fun r : HArgs (List.map some [shStmt, Sh.bool]) => (r.1, r.2.1)) ((r5ParseO x0).getD (dfltH [shStmt, Sh.bool]))
def F65p : FSem := plainC [Sh.str] [shStmt, Sh.bool] (fun x => r5ParseC x.1) fun x => ((r5Parse x.1).1, (r5Parse x.1).2, ())
theorem FOk65p : FOk env79.P env79.gl 65 F65p := FOk_T1 (ks := [Sh.str]) (outs := [shStmt, Sh.bool]) (keep := kp65p) (gas := 400) (n := 100000000) (e := e65p) (t := t65p) (i := fun x => i65p x.1) env79_all env79_mix ok65p (fun x => go65p x.1) on65p (fun _ => by kernel_rfl) (fun _ => by kernel_rfl)

def env80 : Env := (env79.add 65 F65p)
theorem env80_all : EnvAll env80 := (EnvAll.addS env79_all (SameE.refl env79) FOk65p)
theorem env80_mix : env80.P.follows .mixedOrders = true := (mix_add env79_mix _ _)
end
open Go Go.Proofs
set_option maxHeartbeats 4000000

abbrev kp29p : Nat → Keep := fun _ => { }
theorem ok29p : fnChk env80.P 29 Tryz.f29 1 := by refine ⟨?_, ?_, ?_, ?_⟩ <;> kernel_rfl
noncomputable def i29p (x0 : TS) : Tr (Empty ⊕ Raw) :=
  Tr.chk (r5ParseC x0)
  (Tr.re
    (AV.agg [AV.str (r5Parse x0).1.1, AV.str (r5Parse x0).1.2.1, AV.str (r5Parse x0).1.2.2.1, AV.sl Sh.str (r5Parse x0).1.2.2.2.1, AV.sl shCol (r5Parse x0).1.2.2.2.2.1, AV.str (r5Parse x0).1.2.2.2.2.2.1, AV.sl Sh.str (r5Parse x0).1.2.2.2.2.2.2.1, AV.sl (Sh.str.pr Sh.str) (r5Parse x0).1.2.2.2.2.2.2.2.1, AV.str (ExprT.op (r5Parse x0).1.2.2.2.2.2.2.2.2.1),
    AV.int .i64 (ExprT.v (r5Parse x0).1.2.2.2.2.2.2.2.2.1).1, AV.int .i64 (ExprT.v (r5Parse x0).1.2.2.2.2.2.2.2.2.1).2.1, AV.str (ExprT.v (r5Parse x0).1.2.2.2.2.2.2.2.2.1).2.2, AV.str (ExprT.s (r5Parse x0).1.2.2.2.2.2.2.2.2.1), AV.sl Sh.expr (ExprT.l (r5Parse x0).1.2.2.2.2.2.2.2.2.1), AV.sl shVal (r5Parse x0).1.2.2.2.2.2.2.2.2.2.1, AV.sl (Sh.str.pr Sh.expr) (r5Parse x0).1.2.2.2.2.2.2.2.2.2.2.1,
    AV.str (ExprT.op (r5Parse x0).1.2.2.2.2.2.2.2.2.2.2.2.1), AV.int .i64 (ExprT.v (r5Parse x0).1.2.2.2.2.2.2.2.2.2.2.2.1).1, AV.int .i64 (ExprT.v (r5Parse x0).1.2.2.2.2.2.2.2.2.2.2.2.1).2.1, AV.str (ExprT.v (r5Parse x0).1.2.2.2.2.2.2.2.2.2.2.2.1).2.2, AV.str (ExprT.s (r5Parse x0).1.2.2.2.2.2.2.2.2.2.2.2.1), AV.sl Sh.expr (ExprT.l (r5Parse x0).1.2.2.2.2.2.2.2.2.2.2.2.1),
    AV.str (r5Parse x0).1.2.2.2.2.2.2.2.2.2.2.2.2])
    [])
theorem go29p (x0 : TS) : run env80 0 kp29p (Func.results Tryz.f29).toList 400 (bodyOf Tryz.f29) (initSt (Func.ntmps Tryz.f29) [datum Sh.str x0] []) = (i29p x0).map (lf Tryz.f29 e0) := by kernel_rfl
noncomputable def l8OfO (x0 : TS) : Option (HArgs (List.map some [shStmt])) := outT [shStmt] t0 100000000 (i29p x0)
noncomputable def l8OfC (x0 : TS) : Bool := (l8OfO x0).isSome
noncomputable def l8Of (x0 : TS) : Sem shStmt := (fun r : HArgs (List.map some [shStmt]) => r.1) ((l8OfO x0).getD (dfltH [shStmt]))
noncomputable def F29p : FSem := plainC [Sh.str] [shStmt] (fun x => l8OfC x.1) fun x => (l8Of x.1, ())
theorem FOk29p : FOk env80.P env80.gl 29 F29p := FOk_T1 (ks := [Sh.str]) (outs := [shStmt]) (keep := kp29p) (gas := 400) (n := 100000000) (e := e0) (t := t0) (i := fun x => i29p x.1) env80_all env80_mix ok29p (fun x => go29p x.1) (on0 _ _ _ _ _) (fun _ => by kernel_rfl) (fun _ => by kernel_rfl)

noncomputable def env81 : Env := (env80.add 29 F29p)
theorem env81_all : EnvAll env81 := (EnvAll.addS env80_all (SameE.refl env80) FOk29p)
theorem env81_mix : env81.P.follows .mixedOrders = true := (mix_add env80_mix _ _)
open Go Go.Proofs
set_option maxHeartbeats 4000000

abbrev kp10p : Nat → Keep := fun _ => { }
theorem ok10p : fnChk env81.P 10 Tryz.f10 0 := by refine ⟨?_, ?_, ?_, ?_⟩ <;> kernel_rfl
noncomputable def i10p : Tr (Empty ⊕ Raw) :=
  Tr.chk true (Tr.chk true (Tr.chk true (Tr.chk true (Tr.chk true (Tr.chk true (Tr.chk true (Tr.re (AV.bool true) [])))))))
theorem go10p : run env81 0 kp10p (Func.results Tryz.f10).toList 400 (bodyOf Tryz.f10) (initSt (Func.ntmps Tryz.f10) [] []) = (i10p).map (lf Tryz.f10 e0) := by kernel_rfl
noncomputable def awakeO : Option (HArgs (List.map some [Sh.bool])) := outT [Sh.bool] t0 100000000 (i10p)
noncomputable def awakeC : Bool := (awakeO).isSome
noncomputable def awake : Sem Sh.bool := (fun r : HArgs (List.map some [Sh.bool]) => r.1) ((awakeO).getD (dfltH [Sh.bool]))
noncomputable def F10p : FSem := plainC [] [Sh.bool] (fun _ => awakeC) fun _ => (awake, ())
theorem FOk10p : FOk env81.P env81.gl 10 F10p := FOk_T1 (ks := []) (outs := [Sh.bool]) (keep := kp10p) (gas := 400) (n := 100000000) (e := e0) (t := t0) (i := fun x => i10p) env81_all env81_mix ok10p (fun x => go10p) (on0 _ _ _ _ _) (fun _ => by kernel_rfl) (fun _ => by kernel_rfl)

noncomputable def env82 : Env := (env81.add 10 F10p)
theorem env82_all : EnvAll env82 := (EnvAll.addS env81_all (SameE.refl env81) FOk10p)
theorem env82_mix : env82.P.follows .mixedOrders = true := (mix_add env81_mix _ _)
theorem awake_true : awakeO = some (true, ()) := by kernel_rfl
open Go Go.Proofs
noncomputable section
set_option maxHeartbeats 4000000

abbrev kp4p : Nat → Keep := fun _ => { }
theorem ok4p : fnChk env82.P 4 Tryz.f4 2 := by refine ⟨?_, ?_, ?_, ?_⟩ <;> kernel_rfl
def i4pz (x0 : Sem shRel.sl) (_ : Sem shStmt) (a0 : Sem Sh.str × Sem (Sh.str.pr (Sh.str.pr (Sh.str.sl.pr (shCol.sl.pr (Sh.str.pr (Sh.str.sl.pr (shRef.sl.pr (Sh.expr.pr (shVal.sl.pr (shSet.sl.pr (Sh.expr.pr Sh.str)))))))))))) (a1 : Sem shStmt) (a2 : Sem Sh.str × Sem (Sh.str.pr (Sh.str.pr (Sh.str.sl.pr (shCol.sl.pr (Sh.str.pr (Sh.str.sl.pr (shRef.sl.pr (Sh.expr.pr (shVal.sl.pr (shSet.sl.pr (Sh.expr.pr Sh.str)))))))))))) (a3 : Bool) (_ : Sem shPlan × Sem shInt) (a5 : Bool) (a6 : Bool) (_ : Sem shInt) (_ : Sem shInt) (_ : Sem shInt) (a10 : Bool) (a11 : Bool) : Tr (Empty ⊕ Raw) :=
  Tr.chk (l8FewC x0)
  (Tr.chk (l5FewC a0)
    (Tr.chk (pOfC (l8Few x0) a2) (Tr.br (bif !a1.1 == [99, 111, 112, 121] then bif !a3 then !a1.1 == [103, 114, 111, 117, 112] else false else false) (Tr.chk (bif a5 then bif a6 then awakeC else true else true) (Tr.re (AV.bool (bif a5 then bif a6 then awake else false else false)) []))
    (Tr.chk (bif a10 then awakeC else bif a11 then awakeC else true) (Tr.re (AV.bool (bif a10 then awake else bif a11 then awake else false)) [])))))
def i4p (x0 : Sem shRel.sl) (x1 : Sem shStmt) : Tr (Empty ⊕ Raw) :=
  let a0 := (x1.1, x1.2.1, x1.2.2.1, x1.2.2.2.1, x1.2.2.2.2.1, x1.2.2.2.2.2.1, x1.2.2.2.2.2.2.1, x1.2.2.2.2.2.2.2.1, etaE x1.2.2.2.2.2.2.2.2.1, x1.2.2.2.2.2.2.2.2.2.1, x1.2.2.2.2.2.2.2.2.2.2.1, etaE x1.2.2.2.2.2.2.2.2.2.2.2.1, x1.2.2.2.2.2.2.2.2.2.2.2.2)
  let a1 := l5Few a0
  let a2 := (a1.1, a1.2.1, a1.2.2.1, a1.2.2.2.1, a1.2.2.2.2.1, a1.2.2.2.2.2.1, a1.2.2.2.2.2.2.1, a1.2.2.2.2.2.2.2.1, etaE a1.2.2.2.2.2.2.2.2.1, a1.2.2.2.2.2.2.2.2.2.1, a1.2.2.2.2.2.2.2.2.2.2.1, etaE a1.2.2.2.2.2.2.2.2.2.2.2.1, a1.2.2.2.2.2.2.2.2.2.2.2.2)
  let a3 := a1.1 == [106, 111, 105, 110]
  let a4 := pOf (l8Few x0) a2
  let a5 := a4.2 == 1
  let a6 := (↑(List.length a4.1.2.2.2.1.2.1) : Int) == 0
  let a7 := r8Find (l8Few x0) a1.2.1
  let a8 := r8Find (l8Few x0) a1.2.2.1
  let a9 := r8Find (l8Few x0) a1.2.2.2.2.2.2.2.2.2.2.2.2
  let a10 := !bif decide (a7 ≥ 0) then true else bif decide (a8 < 0) then true else bif a3 then decide (a9 < 0) else false
  let a11 := a4.2 != 0
  i4pz x0 x1 a0 a1 a2 a3 a4 a5 a6 a7 a8 a9 a10 a11
theorem go4p (x0 : Sem shRel.sl) (x1 : Sem shStmt) : run env82 0 kp4p (Func.results Tryz.f4).toList 400 (bodyOf Tryz.f4) (initSt (Func.ntmps Tryz.f4) [datum shRel.sl x0, datum shStmt x1] []) = (i4p x0 x1).map (lf Tryz.f4 e0) := by kernel_rfl
def lRefusesO (x0 : Sem shRel.sl) (x1 : Sem shStmt) : Option (HArgs (List.map some [Sh.bool])) := outT [Sh.bool] t0 100000000 (i4p x0 x1)
def lRefusesC (x0 : Sem shRel.sl) (x1 : Sem shStmt) : Bool := (lRefusesO x0 x1).isSome
def lRefuses (x0 : Sem shRel.sl) (x1 : Sem shStmt) : Sem Sh.bool := (fun r : HArgs (List.map some [Sh.bool]) => r.1) ((lRefusesO x0 x1).getD (dfltH [Sh.bool]))
def F4p : FSem := plainC [shRel.sl, shStmt] [Sh.bool] (fun x => lRefusesC x.1 x.2.1) fun x => (lRefuses x.1 x.2.1, ())
theorem FOk4p : FOk env82.P env82.gl 4 F4p := FOk_T1 (ks := [shRel.sl, shStmt]) (outs := [Sh.bool]) (keep := kp4p) (gas := 400) (n := 100000000) (e := e0) (t := t0) (i := fun x => i4p x.1 x.2.1) env82_all env82_mix ok4p (fun x => go4p x.1 x.2.1) (on0 _ _ _ _ _) (fun _ => by kernel_rfl) (fun _ => by kernel_rfl)

def env83 : Env := (env82.add 4 F4p)
end
end Cad
