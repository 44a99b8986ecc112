/- Statements: their parts, their texts. Statements: their texts. Statements that may be. Bases: small things. Bases: few. Bases: few, and where a table is. Bases: few tables; has. Tables with rows: has. Tables with rows: has, check. Bases: bound. Bases: check. -/
import Derived.Test.YthpdpmhdaadgcaaGreatDoorG12
namespace Cad
open Go Go.Proofs
set_option maxHeartbeats 4000000

abbrev kp118p : Nat → Keep := fun _ => { }
theorem ok118p : fnChk env41.P 118 Tryz.f118 1 := by refine ⟨?_, ?_, ?_, ?_⟩ <;> kernel_rfl
def i118pz (x0 : Sem shStmt) (_ : ExprT) (_ : ExprT) (_ : Sem shSet.sl × Sem (Sh.expr.pr Sh.str)) (_ : Sem shVal.sl × Sem (shSet.sl.pr (Sh.expr.pr Sh.str))) (_ : Sem Sh.str × Sem (Sh.str.sl.pr (shCol.sl.pr (Sh.str.pr (Sh.str.sl.pr (shRef.sl.pr (Sh.expr.pr (shVal.sl.pr (shSet.sl.pr (Sh.expr.pr Sh.str)))))))))) (a5 : Bool) (_ : Sem Sh.expr × Sem (shVal.sl.pr (shSet.sl.pr (Sh.expr.pr Sh.str)))) (a7 : Sem Sh.str × Sem (Sh.str.pr (Sh.str.pr (Sh.str.sl.pr (shCol.sl.pr (Sh.str.pr (Sh.str.sl.pr (shRef.sl.pr (Sh.expr.pr (shVal.sl.pr (shSet.sl.pr (Sh.expr.pr Sh.str)))))))))))) (a8 : Sem Sh.str × Sem (Sh.str.pr (Sh.str.pr (Sh.str.sl.pr (shCol.sl.pr (Sh.str.pr (Sh.str.sl.pr (shRef.sl.pr (Sh.expr.pr (shVal.sl.pr (shSet.sl.pr (Sh.expr.pr Sh.str)))))))))))) (_ : Int) (_ : Int) (a11 : Bool) (a12 : Sem Sh.str × Sem (Sh.str.pr (Sh.str.pr (Sh.str.sl.pr (shCol.sl.pr (Sh.str.pr (Sh.str.sl.pr (shRef.sl.pr (Sh.expr.pr (shVal.sl.pr (shSet.sl.pr (Sh.expr.pr Sh.str)))))))))))) (_ : Int) (_ : Int) (_ : Sem Sh.bool) (a16 : Bool) (_ : Sem Sh.expr × Sem Sh.str) (a18 : Sem Sh.str × Sem (Sh.str.pr (Sh.str.pr (Sh.str.sl.pr (shCol.sl.pr (Sh.str.pr (Sh.str.sl.pr (shRef.sl.pr (Sh.expr.pr (shVal.sl.pr (shSet.sl.pr (Sh.expr.pr Sh.str)))))))))))) (a19 : Bool) (a20 : Sem Sh.str × Sem (Sh.str.pr (Sh.str.pr (Sh.str.sl.pr (shCol.sl.pr (Sh.str.pr (Sh.str.sl.pr (shRef.sl.pr (Sh.expr.pr (shVal.sl.pr (shSet.sl.pr (Sh.expr.pr Sh.str)))))))))))) (_ : Sem Sh.bool) (a22 : Bool) (_ : Sem shVal.sl × Sem (shSet.sl.pr (Sh.expr.pr Sh.str))) (a24 : Sem Sh.str × Sem (Sh.str.pr (Sh.str.pr (Sh.str.sl.pr (shCol.sl.pr (Sh.str.pr (Sh.str.sl.pr (shRef.sl.pr (Sh.expr.pr (shVal.sl.pr (shSet.sl.pr (Sh.expr.pr Sh.str)))))))))))) (_ : Sem Sh.bool) (_ : Int) (_ : Int) (_ : Sem Sh.bool) (_ : Bool) (a30 : Bool) (_ : Sem Sh.str × Sem (Sh.str.pr (Sh.str.pr (Sh.str.sl.pr (shCol.sl.pr (Sh.str.pr (Sh.str.sl.pr (shRef.sl.pr (Sh.expr.pr (shVal.sl.pr (shSet.sl.pr (Sh.expr.pr Sh.str)))))))))))) (a32 : Bool) (a33 : Sem Sh.bool) (a34 : Bool) (a35 : Sem Sh.str × Sem (Sh.str.pr (Sh.str.pr (Sh.str.sl.pr (shCol.sl.pr (Sh.str.pr (Sh.str.sl.pr (shRef.sl.pr (Sh.expr.pr (shVal.sl.pr (shSet.sl.pr (Sh.expr.pr Sh.str)))))))))))) (a36 : Bool) : Tr (Empty ⊕ Raw) :=
 Tr.br (x0.1 == [99, 114, 101, 97, 116, 101]) (Tr.chk (bif a5 then sEmptyC a7 else true) (Tr.re (AV.bool (bif a5 then sEmpty a7 else false)) [])) (Tr.br (x0.1 == [100, 114, 111, 112]) (Tr.chk (bif sName x0.2.1 then sEmptyC a8 else true) (Tr.re (AV.bool (bif sName x0.2.1 then sEmpty a8 else false)) [])) (Tr.br (x0.1 == [105, 110, 115, 101, 114, 116]) (Tr.chk (bif a11 then sEmptyC a12 else true) (Tr.re (AV.bool (bif a11 then sEmpty a12 else false)) [])) (Tr.br (x0.1 == [117, 112, 100, 97, 116, 101]) (Tr.chk (bif a16 then sEmptyC a18 else true) (Tr.re (AV.bool (bif a16 then sEmpty a18 else false)) [])) (Tr.br (x0.1 == [100, 101, 108, 101, 116, 101]) (Tr.chk (bif a19 then sEmptyC a20 else true) (Tr.re (AV.bool (bif a19 then sEmpty a20 else false)) [])) (Tr.br (x0.1 == [115, 101, 108, 101, 99, 116]) (Tr.chk (bif a19 then sEmptyC a20 else true) (Tr.re (AV.bool (bif a19 then sEmpty a20 else false)) [])) (Tr.br (x0.1 == [114, 101, 97, 100]) (Tr.chk (bif a22 then sEmptyC a24 else true) (Tr.re (AV.bool (bif a22 then sEmpty a24 else false)) [])) (Tr.br (x0.1 == [119, 114, 105, 116, 101]) (Tr.chk (bif a22 then sEmptyC a24 else true) (Tr.re (AV.bool (bif a22 then sEmpty a24 else false)) [])) (Tr.br (x0.1 == [117, 110, 114, 101, 97, 100]) (Tr.chk (bif a22 then sEmptyC a24 else true) (Tr.re (AV.bool (bif a22 then sEmpty a24 else false)) [])) (Tr.br (x0.1 == [117, 110, 119, 114, 105, 116, 101])
 (Tr.chk (bif a22 then sEmptyC a24 else true) (Tr.re (AV.bool (bif a22 then sEmpty a24 else false)) [])) (Tr.br (x0.1 == [99, 111, 112, 121]) (Tr.chk (bif a30 then a32 else true) (Tr.re (AV.bool (bif a30 then a33 else false)) [])) (Tr.br (x0.1 == [106, 111, 105, 110]) (Tr.chk (bif a34 then sEmptyC a35 else true) (Tr.re (AV.bool (bif a34 then sEmpty a35 else false)) [])) (Tr.br (x0.1 == [103, 114, 111, 117, 112]) (Tr.chk (bif a36 then a32 else true) (Tr.re (AV.bool (bif a36 then a33 else false)) [])) (Tr.re (AV.kb false) [])))))))))))))
def i118p (x0 : Sem shStmt) : Tr (Empty ⊕ Raw) :=
 let a0 := etaE x0.2.2.2.2.2.2.2.2.1
 let a1 := etaE x0.2.2.2.2.2.2.2.2.2.2.2.1
 let a2 := (x0.2.2.2.2.2.2.2.2.2.2.1, a1, x0.2.2.2.2.2.2.2.2.2.2.2.2)
 let a3 := (x0.2.2.2.2.2.2.2.2.2.1, a2)
 let a4 := (x0.2.2.1, x0.2.2.2.1, x0.2.2.2.2.1, x0.2.2.2.2.2.1, x0.2.2.2.2.2.2.1, x0.2.2.2.2.2.2.2.1, a0, a3)
 let a5 := bif sName x0.2.1 then creates (x0.1, x0.2.1, a4) else false
 let a6 := (ExprT.mk [] (0, 0, []) [] [], a3)
 let a7 := (x0.1, [], x0.2.2.1, x0.2.2.2.1, [], [], [], [], a6)
 let a8 := (x0.1, [], a4)
 let a9 := (↑(List.length x0.2.2.2.2.2.2.2.2.2.1) : Int)
 let a10 := ixFrom (fun x => !vMay x) x0.2.2.2.2.2.2.2.2.2.1 0
 let a11 := bif sName x0.2.1 then bif bif decide (a9 < 1) then true else decide (a9 > 12) then false else !decide (a10 ≥ 0) else false
 let a12 := (x0.1, [], x0.2.2.1, x0.2.2.2.1, x0.2.2.2.2.1, x0.2.2.2.2.2.1, x0.2.2.2.2.2.2.1, x0.2.2.2.2.2.2.2.1, a0, [], a2)
 let a13 := (↑(List.length x0.2.2.2.2.2.2.2.2.2.2.1) : Int)
 let a14 := ixFrom (fun x => !setOk x) x0.2.2.2.2.2.2.2.2.2.2.1 0
 let a15 := eMaybe a1
 let a16 := bif sName x0.2.1 then bif bif decide (a13 < 1) then true else decide (a13 > 8) then false else bif !decide (a14 ≥ 0) then a15 else false else false
 let a17 := (ExprT.mk [] (0, 0, []) [] [], x0.2.2.2.2.2.2.2.2.2.2.2.2)
 let a18 := (x0.1, [], x0.2.2.1, x0.2.2.2.1, x0.2.2.2.2.1, x0.2.2.2.2.2.1, x0.2.2.2.2.2.2.1, x0.2.2.2.2.2.2.2.1, a0, x0.2.2.2.2.2.2.2.2.2.1, [], a17)
 let a19 := bif sName x0.2.1 then a15 else false
 let a20 := (x0.1, [], x0.2.2.1, x0.2.2.2.1, x0.2.2.2.2.1, x0.2.2.2.2.2.1, x0.2.2.2.2.2.2.1, x0.2.2.2.2.2.2.2.1, a0, x0.2.2.2.2.2.2.2.2.2.1, x0.2.2.2.2.2.2.2.2.2.2.1, a17)
 let a21 := sName x0.2.2.2.2.2.2.2.2.2.2.2.2
 let a22 := bif sName x0.2.1 then a21 else false
 let a23 := (x0.2.2.2.2.2.2.2.2.2.1, x0.2.2.2.2.2.2.2.2.2.2.1, a1, [])
 let a24 := (x0.1, [], x0.2.2.1, x0.2.2.2.1, x0.2.2.2.2.1, x0.2.2.2.2.2.1, x0.2.2.2.2.2.2.1, x0.2.2.2.2.2.2.2.1, a0, a23)
 let a25 := sName x0.2.2.1
 let a26 := (↑(List.length x0.2.2.2.1) : Int)
 let a27 := ixFrom (fun x => !sName x) x0.2.2.2.1 0
 let a28 := eMaybe a0
 let a29 := bif !decide (a27 ≥ 0) then a28 else false
 let a30 := bif sName x0.2.1 then bif a25 then bif bif decide (a26 < 1) then true else decide (a26 > 8) then false else a29 else false else false
 let a31 := (x0.1, [], [], [], x0.2.2.2.2.1, x0.2.2.2.2.2.1, x0.2.2.2.2.2.2.1, x0.2.2.2.2.2.2.2.1, a6)
 let a32 := sEmptyC a31
 let a33 := sEmpty a31
 let a34 := bif sName x0.2.1 then bif a25 then bif sName x0.2.2.2.2.2.1 then bif a21 then a28 else false else false else false else false
 let a35 := (x0.1, [], [], x0.2.2.2.1, x0.2.2.2.2.1, [], x0.2.2.2.2.2.2.1, x0.2.2.2.2.2.2.2.1, ExprT.mk [] (0, 0, []) [] [], a23)
 let a36 := bif sName x0.2.1 then bif a25 then bif bif decide (a26 < 2) then true else decide (a26 > 2) then false else a29 else false else false
 i118pz x0 a0 a1 a2 a3 a4 a5 a6 a7 a8 a9 a10 a11 a12 a13 a14 a15 a16 a17 a18 a19 a20 a21 a22 a23 a24 a25 a26 a27 a28 a29 a30 a31 a32 a33 a34 a35 a36
theorem go118p (x0 : Sem shStmt) : run env41 0 kp118p (Func.results Tryz.f118).toList 400 (bodyOf Tryz.f118) (initSt (Func.ntmps Tryz.f118) [datum shStmt x0] []) = (i118p x0).map (lf Tryz.f118 e0) := by kernel_rfl
def sPartsO (x0 : Sem shStmt) : Option (HArgs (List.map some [Sh.bool])) := outT [Sh.bool] t0 100000000 (i118p x0)
def sPartsC (x0 : Sem shStmt) : Bool := (sPartsO x0).isSome
def sParts (x0 : Sem shStmt) : Sem Sh.bool := (fun r : HArgs (List.map some [Sh.bool]) => r.1) ((sPartsO x0).getD (dfltH [Sh.bool]))
def F118p : FSem := plainC [shStmt] [Sh.bool] (fun x => sPartsC x.1) fun x => (sParts x.1, ())
theorem FOk118p : FOk env41.P env41.gl 118 F118p := FOk_T1 (ks := [shStmt]) (outs := [Sh.bool]) (keep := kp118p) (gas := 400) (n := 100000000) (e := e0) (t := t0) (i := fun x => i118p x.1) env41_all env41_mix ok118p (fun x => go118p x.1) (on0 _ _ _ _ _) (fun _ => by kernel_rfl) (fun _ => by kernel_rfl)

abbrev kp119p : Nat → Keep := fun _ => { }
theorem ok119p : fnChk env41.P 119 Tryz.f119 1 := by refine ⟨?_, ?_, ?_, ?_⟩ <;> kernel_rfl
def i119pz (x0 : Sem shStmt) (a0 : Bool) (a1 : Str) (a2 : Str) (a3 : Str) (a4 : Str) (_ : ExprT) (_ : ExprT) (a7 : Sem Sh.str × Sem (Sh.str.pr (Sh.str.pr (Sh.str.sl.pr (shCol.sl.pr (Sh.str.pr (Sh.str.sl.pr (shRef.sl.pr (Sh.expr.pr (shVal.sl.pr (shSet.sl.pr (Sh.expr.pr Sh.str)))))))))))) (a8 : Str) (a9 : Str) (a10 : TS) (a11 : Str) (a12 : Str) (a13 : Str) (a14 : TS) (a15 : Bool) (a16 : Str) (a17 : TS) (a18 : Str) (a19 : Str) (a20 : Str) (a21 : Str) (a22 : Str) (a23 : Str) (a24 : List UInt8) (a25 : List UInt8) (a26 : Str) (a27 : Str) (a28 : Str) (a29 : Str) (a30 : Str) (a31 : Str) (a32 : TS) (a33 : Str) (a34 : Bool) (a35 : Str) (a36 : TS) (a37 : Str) (a38 : Str) (a39 : Str) (a40 : Str) (a41 : Str) (a42 : TS) (a43 : Str) (a44 : Str) (a45 : TS) (a46 : Str) : Tr (Empty ⊕ Raw) := Tr.chk a0 (Tr.chk (decide ([77, 73, 71, 82, 65, 84, 69, 32].length + (Lib.toUpperA x0.1).length ≤ 1099511627776)) (Tr.chk (decide (List.length a1 + [32].length ≤ 1099511627776)) (Tr.chk (decide (List.length a2 + List.length x0.2.1 ≤ 1099511627776)) (Tr.chk (decide (List.length a3 + [32, 70, 82, 79, 77, 32].length ≤ 1099511627776)) (Tr.chk (decide (List.length a4 + List.length x0.2.2.1 ≤ 1099511627776)) (Tr.br (x0.1 == [99, 114, 101, 97, 116, 101]) (Tr.chk (createdC a7) (Tr.re (AV.str (created a7)) []))
 (Tr.br (x0.1 == [100, 114, 111, 112]) (Tr.chk (decide ([68, 82, 79, 80, 32, 84, 65, 66, 76, 69, 32].length + List.length x0.2.1 ≤ 1099511627776)) (Tr.re (AV.str ([68, 82, 79, 80, 32, 84, 65, 66, 76, 69, 32] ++ x0.2.1)) [])) (Tr.br (x0.1 == [105, 110, 115, 101, 114, 116]) (Tr.chk (decide ([73, 78, 83, 69, 82, 84, 32, 73, 78, 84, 79, 32].length + List.length x0.2.1 ≤ 1099511627776)) (Tr.chk (decide (List.length a8 + [32, 86, 65, 76, 85, 69, 83, 32, 40, 32].length ≤ 1099511627776)) (Tr.chk (valTextsC x0.2.2.2.2.2.2.2.2.2.1) (Tr.chk (decide (List.length a9 + List.length a10 ≤ 1099511627776)) (Tr.chk (decide (List.length a11 + [32, 41].length ≤ 1099511627776)) (Tr.re (AV.str (a11 ++ [32, 41])) [])))))) (Tr.br (x0.1 == [117, 112, 100, 97, 116, 101]) (Tr.chk (decide ([85, 80, 68, 65, 84, 69, 32].length + List.length x0.2.1 ≤ 1099511627776)) (Tr.chk (decide (List.length a12 + [32, 83, 69, 84, 32].length ≤ 1099511627776)) (Tr.chk (setTextsC x0.2.2.2.2.2.2.2.2.2.2.1) (Tr.chk (decide (List.length a13 + List.length a14 ≤ 1099511627776)) (Tr.chk a15 (Tr.chk (decide (List.length a16 + List.length a17 ≤ 1099511627776)) (Tr.re (AV.str (a16 ++ a17)) []))))))) (Tr.br (x0.1 == [100, 101, 108, 101, 116, 101]) (Tr.chk (decide ([68, 69, 76, 69, 84, 69, 32, 70, 82, 79, 77, 32].length + List.length x0.2.1 ≤ 1099511627776)) (Tr.chk a15 (Tr.chk (decide (List.length a18 + List.length a17 ≤ 1099511627776)) (Tr.re (AV.str (a18 ++ a17)) []))))
 (Tr.br (x0.1 == [115, 101, 108, 101, 99, 116]) (Tr.chk (decide ([83, 69, 76, 69, 67, 84, 32, 42, 32, 70, 82, 79, 77, 32].length + List.length x0.2.1 ≤ 1099511627776)) (Tr.chk a15 (Tr.chk (decide (List.length a19 + List.length a17 ≤ 1099511627776)) (Tr.re (AV.str (a19 ++ a17)) [])))) (Tr.br (x0.1 == [114, 101, 97, 100]) (Tr.chk a0 (Tr.chk (decide ([71, 82, 65, 78, 84, 32].length + (Lib.toUpperA x0.1).length ≤ 1099511627776)) (Tr.chk (decide (List.length a20 + [32, 79, 78, 32].length ≤ 1099511627776)) (Tr.chk (decide (List.length a21 + List.length x0.2.1 ≤ 1099511627776)) (Tr.chk (decide (List.length a22 + [32, 84, 79, 32].length ≤ 1099511627776)) (Tr.chk (decide (List.length a23 + List.length x0.2.2.2.2.2.2.2.2.2.2.2.2 ≤ 1099511627776)) (Tr.re (AV.str (a23 ++ x0.2.2.2.2.2.2.2.2.2.2.2.2)) []))))))) (Tr.br (x0.1 == [119, 114, 105, 116, 101]) (Tr.chk a0 (Tr.chk (decide ([71, 82, 65, 78, 84, 32].length + (Lib.toUpperA x0.1).length ≤ 1099511627776)) (Tr.chk (decide (List.length a20 + [32, 79, 78, 32].length ≤ 1099511627776)) (Tr.chk (decide (List.length a21 + List.length x0.2.1 ≤ 1099511627776)) (Tr.chk (decide (List.length a22 + [32, 84, 79, 32].length ≤ 1099511627776)) (Tr.chk (decide (List.length a23 + List.length x0.2.2.2.2.2.2.2.2.2.2.2.2 ≤ 1099511627776)) (Tr.re (AV.str (a23 ++ x0.2.2.2.2.2.2.2.2.2.2.2.2)) []))))))) (Tr.br (x0.1 == [117, 110, 114, 101, 97, 100]) (Tr.chk
 (decide (0 ≤ 2) && decide (2 ≤ (↑(List.length x0.1) : Int)) && decide ((↑(List.length x0.1) : Int) ≤ (↑(List.length x0.1) : Int))) (Tr.chk (decide (a24.length ≤ 140737488355328) && a24.all fun b => decide (b.toNat < 128)) (Tr.chk (decide ([82, 69, 86, 79, 75, 69, 32].length + a25.length ≤ 1099511627776)) (Tr.chk (decide (List.length a26 + [32, 79, 78, 32].length ≤ 1099511627776)) (Tr.chk (decide (List.length a27 + List.length x0.2.1 ≤ 1099511627776)) (Tr.chk (decide (List.length a28 + [32, 70, 82, 79, 77, 32].length ≤ 1099511627776)) (Tr.chk (decide (List.length a29 + List.length x0.2.2.2.2.2.2.2.2.2.2.2.2 ≤ 1099511627776)) (Tr.re (AV.str (a29 ++ x0.2.2.2.2.2.2.2.2.2.2.2.2)) [])))))))) (Tr.br (x0.1 == [117, 110, 119, 114, 105, 116, 101]) (Tr.chk (decide (0 ≤ 2) && decide (2 ≤ (↑(List.length x0.1) : Int)) && decide ((↑(List.length x0.1) : Int) ≤ (↑(List.length x0.1) : Int))) (Tr.chk (decide (a24.length ≤ 140737488355328) && a24.all fun b => decide (b.toNat < 128)) (Tr.chk (decide ([82, 69, 86, 79, 75, 69, 32].length + a25.length ≤ 1099511627776)) (Tr.chk (decide (List.length a26 + [32, 79, 78, 32].length ≤ 1099511627776)) (Tr.chk (decide (List.length a27 + List.length x0.2.1 ≤ 1099511627776)) (Tr.chk (decide (List.length a28 + [32, 70, 82, 79, 77, 32].length ≤ 1099511627776)) (Tr.chk (decide (List.length a29 + List.length x0.2.2.2.2.2.2.2.2.2.2.2.2 ≤ 1099511627776)) (Tr.re (AV.str (a29 ++ x0.2.2.2.2.2.2.2.2.2.2.2.2)) [])))))))) (Tr.br (x0.1 == [99, 111, 112, 121])
 (Tr.chk (decide (List.length a30 + [32, 40, 32].length ≤ 1099511627776)) (Tr.chk (strTextsC x0.2.2.2.1) (Tr.chk (decide (List.length a31 + List.length a32 ≤ 1099511627776)) (Tr.chk (decide (List.length a33 + [32, 41].length ≤ 1099511627776)) (Tr.chk a34 (Tr.chk (decide (List.length a35 + List.length a36 ≤ 1099511627776)) (Tr.re (AV.str (a35 ++ a36)) []))))))) (Tr.br (x0.1 == [106, 111, 105, 110]) (Tr.chk (decide (List.length a30 + [32, 44, 32].length ≤ 1099511627776)) (Tr.chk (decide (List.length a37 + List.length x0.2.2.2.2.2.2.2.2.2.2.2.2 ≤ 1099511627776)) (Tr.chk (decide (List.length a38 + [32, 79, 78, 32].length ≤ 1099511627776)) (Tr.chk (decide (List.length a39 + List.length x0.2.2.2.2.2.1 ≤ 1099511627776)) (Tr.chk a34 (Tr.chk (decide (List.length a40 + List.length a36 ≤ 1099511627776)) (Tr.re (AV.str (a40 ++ a36)) []))))))) (Tr.chk (decide (List.length a30 + [32, 66, 89, 32].length ≤ 1099511627776)) (Tr.chk (inB 0 (List.length x0.2.2.2.1)) (Tr.chk (decide (List.length a41 + List.length a42 ≤ 1099511627776)) (Tr.chk (decide (List.length a43 + [32, 83, 85, 77, 32].length ≤ 1099511627776)) (Tr.chk (inB 1 (List.length x0.2.2.2.1)) (Tr.chk (decide (List.length a44 + List.length a45 ≤ 1099511627776)) (Tr.chk a34 (Tr.chk (decide (List.length a46 + List.length a36 ≤ 1099511627776)) (Tr.re (AV.str (a46 ++ a36)) []))))))))))))))))))))))))))
def i119p (x0 : Sem shStmt) : Tr (Empty ⊕ Raw) :=
 let a0 := decide (List.length x0.1 ≤ 140737488355328) && List.all x0.1 fun b => decide (b.toNat < 128)
 let a1 := [77, 73, 71, 82, 65, 84, 69, 32] ++ Lib.toUpperA x0.1
 let a2 := a1 ++ [32]
 let a3 := a2 ++ x0.2.1
 let a4 := a3 ++ [32, 70, 82, 79, 77, 32]
 let a5 := etaE x0.2.2.2.2.2.2.2.2.1
 let a6 := etaE x0.2.2.2.2.2.2.2.2.2.2.2.1
 let a7 := (x0.1, x0.2.1, x0.2.2.1, x0.2.2.2.1, x0.2.2.2.2.1, x0.2.2.2.2.2.1, x0.2.2.2.2.2.2.1, x0.2.2.2.2.2.2.2.1, a5, x0.2.2.2.2.2.2.2.2.2.1, x0.2.2.2.2.2.2.2.2.2.2.1, a6, x0.2.2.2.2.2.2.2.2.2.2.2.2)
 let a8 := [73, 78, 83, 69, 82, 84, 32, 73, 78, 84, 79, 32] ++ x0.2.1
 let a9 := a8 ++ [32, 86, 65, 76, 85, 69, 83, 32, 40, 32]
 let a10 := valTexts x0.2.2.2.2.2.2.2.2.2.1
 let a11 := a9 ++ a10
 let a12 := [85, 80, 68, 65, 84, 69, 32] ++ x0.2.1
 let a13 := a12 ++ [32, 83, 69, 84, 32]
 let a14 := setTexts x0.2.2.2.2.2.2.2.2.2.2.1
 let a15 := wTextC a6
 let a16 := a13 ++ a14
 let a17 := wText a6
 let a18 := [68, 69, 76, 69, 84, 69, 32, 70, 82, 79, 77, 32] ++ x0.2.1
 let a19 := [83, 69, 76, 69, 67, 84, 32, 42, 32, 70, 82, 79, 77, 32] ++ x0.2.1
 let a20 := [71, 82, 65, 78, 84, 32] ++ Lib.toUpperA x0.1
 let a21 := a20 ++ [32, 79, 78, 32]
 let a22 := a21 ++ x0.2.1
 let a23 := a22 ++ [32, 84, 79, 32]
 let a24 := List.take ((↑(List.length x0.1) : Int).toNat - Int.toNat 2) (List.drop (Int.toNat 2) x0.1)
 let a25 := Lib.toUpperA a24
 let a26 := [82, 69, 86, 79, 75, 69, 32] ++ a25
 let a27 := a26 ++ [32, 79, 78, 32]
 let a28 := a27 ++ x0.2.1
 let a29 := a28 ++ [32, 70, 82, 79, 77, 32]
 let a30 := a4 ++ x0.2.2.1
 let a31 := a30 ++ [32, 40, 32]
 let a32 := strTexts x0.2.2.2.1
 let a33 := a31 ++ a32
 let a34 := chTextC [32] a5
 let a35 := a33 ++ [32, 41]
 let a36 := chText [32] a5
 let a37 := a30 ++ [32, 44, 32]
 let a38 := a37 ++ x0.2.2.2.2.2.2.2.2.2.2.2.2
 let a39 := a38 ++ [32, 79, 78, 32]
 let a40 := a39 ++ x0.2.2.2.2.2.1
 let a41 := a30 ++ [32, 66, 89, 32]
 let a42 := List.getD x0.2.2.2.1 (Int.toNat 0) (dflt Sh.str)
 let a43 := a41 ++ a42
 let a44 := a43 ++ [32, 83, 85, 77, 32]
 let a45 := List.getD x0.2.2.2.1 (Int.toNat 1) (dflt Sh.str)
 let a46 := a44 ++ a45
 i119pz x0 a0 a1 a2 a3 a4 a5 a6 a7 a8 a9 a10 a11 a12 a13 a14 a15 a16 a17 a18 a19 a20 a21 a22 a23 a24 a25 a26 a27 a28 a29 a30 a31 a32 a33 a34 a35 a36 a37 a38 a39 a40 a41 a42 a43 a44 a45 a46
theorem go119p (x0 : Sem shStmt) : run env41 0 kp119p (Func.results Tryz.f119).toList 400 (bodyOf Tryz.f119) (initSt (Func.ntmps Tryz.f119) [datum shStmt x0] []) = (i119p x0).map (lf Tryz.f119 e0) := by kernel_rfl
def sTextO (x0 : Sem shStmt) : Option (HArgs (List.map some [Sh.str])) := outT [Sh.str] t0 100000000 (i119p x0)
def sTextC (x0 : Sem shStmt) : Bool := (sTextO x0).isSome
def sText (x0 : Sem shStmt) : Sem Sh.str := (fun r : HArgs (List.map some [Sh.str]) => r.1) ((sTextO x0).getD (dfltH [Sh.str]))
def F119p : FSem := plainC [shStmt] [Sh.str] (fun x => sTextC x.1) fun x => (sText x.1, ())
theorem FOk119p : FOk env41.P env41.gl 119 F119p := FOk_T1 (ks := [shStmt]) (outs := [Sh.str]) (keep := kp119p) (gas := 400) (n := 100000000) (e := e0) (t := t0) (i := fun x => i119p x.1) env41_all env41_mix ok119p (fun x => go119p x.1) (on0 _ _ _ _ _) (fun _ => by kernel_rfl) (fun _ => by kernel_rfl)

noncomputable def env42 : Env := ((env41.add 118 F118p).add 119 F119p)
theorem env42_all : EnvAll env42 := (EnvAll.addS (EnvAll.addS env41_all (SameE.refl env41) FOk118p) ((SameE.refl env41).add _ _) FOk119p)
theorem env42_mix : env42.P.follows .mixedOrders = true := (mix_add (mix_add env41_mix _ _) _ _)
open Go Go.Proofs
set_option maxHeartbeats 4000000

abbrev kp52 : Nat → Keep := fun _ => { }
theorem ok52 : fnChk (env42).P 70 Tryz.f70 1 := by refine ⟨?_, ?_, ?_, ?_⟩ <;> kernel_rfl
theorem go52 (x0 : Sem shStmt) : run (env42) 0 kp52 (Func.results Tryz.f70).toList 400 (bodyOf Tryz.f70) (initSt (Func.ntmps Tryz.f70) [datum shStmt x0] []) = Tr.chk (sPartsC (etaS x0)) (Tr.br (!sParts (etaS x0)) (Tr.ok (Leaf.ret (AV.tup [AV.str [], ai 1]) [])) (Tr.chk (sTextC (etaS x0)) (Tr.chk (cutC (sText (etaS x0))) (Tr.br ((cut (sText (etaS x0))).2 != 0) (Tr.ok (Leaf.ret (AV.tup [AV.str [], ai 1]) [])) (Tr.ok (Leaf.ret (AV.tup [AV.str (sText (etaS x0)), ai 0]) [])))))) := by kernel_rfl
def stText (x0 : Sem shStmt) : Sem Sh.str × Sem shInt := (if (!sParts x0) = true then ([], 1) else if ((cut (sText x0)).2 != 0) = true then ([], 1) else (sText x0, 0))
def stTextC (x0 : Sem shStmt) : Bool := (if sPartsC x0 = true then if (!sParts x0) = true then true else if sTextC x0 = true then if cutC (sText x0) = true then true else false else false else false)
def F52 : FSem := plainC [shStmt] [Sh.str, shInt] (fun x => stTextC x.1) fun x => ((stText x.1).1, (stText x.1).2, ())
theorem FOk52 : FOk (env42).P (env42).gl 70 F52 := by
 refine FOk_plainC (ok52) fun x hc C hC => ?_
 unfold stTextC at hc
 refine reach_ok env42_all env42_mix (ok52) (fun id _ => hC id) (go52 x.1) ?_
 generalize hy : stText x.1 = y
 unfold stText at hy
 try simp only [etaS_eq]
 repeat' (first | with_reducible refine obr hy hc (fun _ hy hc => ?_) (fun _ hy hc => ?_) | with_reducible refine obr1 hy (fun _ hy => ?_) (fun _ hy => ?_) | with_reducible refine ochk hc (fun hc => ?_) | with_reducible refine OptOk_chkT ?_)
 all_goals first | (cases hc; done) | (subst hy; first | rfl)

noncomputable def env43 : Env := (env42.add 70 F52)
theorem env43_all : EnvAll env43 := (EnvAll.addS env42_all (SameE.refl env42) FOk52)
theorem env43_mix : env43.P.follows .mixedOrders = true := (mix_add env42_mix _ _)
open Go Go.Proofs
set_option maxHeartbeats 4000000

abbrev kp31 : Nat → Keep := fun _ => { }
theorem ok31 : fnChk (env43).P 33 Tryz.f33 1 := by refine ⟨?_, ?_, ?_, ?_⟩ <;> kernel_rfl
theorem go31 (x0 : Sem shStmt) : run (env43) 0 kp31 (Func.results Tryz.f33).toList 400 (bodyOf Tryz.f33) (initSt (Func.ntmps Tryz.f33) [datum shStmt x0] []) = Tr.chk (stTextC (etaS x0)) (Tr.ok (Leaf.ret (AV.bool ((stText (etaS x0)).2 == 0)) [])) := by kernel_rfl
def stMay (x0 : Sem shStmt) : Sem Sh.bool := ((stText x0).2 == 0)
def stMayC (x0 : Sem shStmt) : Bool := (if stTextC x0 = true then true else false)
def F31 : FSem := plainC [shStmt] [Sh.bool] (fun x => stMayC x.1) fun x => (stMay x.1, ())
theorem FOk31 : FOk (env43).P (env43).gl 33 F31 := by
 refine FOk_plainC (ok31) fun x hc C hC => ?_
 unfold stMayC at hc
 refine reach_ok env43_all env43_mix (ok31) (fun id _ => hC id) (go31 x.1) ?_
 generalize hy : stMay x.1 = y
 unfold stMay at hy
 try simp only [etaS_eq]
 repeat' (first | with_reducible refine obr hy hc (fun _ hy hc => ?_) (fun _ hy hc => ?_) | with_reducible refine obr1 hy (fun _ hy => ?_) (fun _ hy => ?_) | with_reducible refine ochk hc (fun hc => ?_) | with_reducible refine OptOk_chkT ?_)
 all_goals first | (cases hc; done) | (subst hy; first | rfl)

noncomputable def env44 : Env := (env43.add 33 F31)
theorem env44_all : EnvAll env44 := (EnvAll.addS env43_all (SameE.refl env43) FOk31)
theorem env44_mix : env44.P.follows .mixedOrders = true := (mix_add env43_mix _ _)
open Go Go.Proofs
set_option maxHeartbeats 4000000

noncomputable def F92p : FSem := liftF (List.replicate 2 none) (autoG env44 Tryz.f92 (List.replicate 2 none))
theorem FOk92p : FOk env44.P env44.gl 92 F92p := FOk_auto _ env44_all env44_mix (by refine ⟨?_, ?_, ?_, ?_⟩ <;> kernel_rfl)

abbrev kp22p : Nat → Keep := fun _ => { }
theorem ok22p : fnChk (env44).P 22 Tryz.f22 1 := by refine ⟨?_, ?_, ?_, ?_⟩ <;> kernel_rfl
theorem go22p (x0 : TS) : run (env44) 0 kp22p (Func.results Tryz.f22).toList 400 (bodyOf Tryz.f22) (initSt (Func.ntmps Tryz.f22) [datum Sh.str x0] []) = Tr.br (decide ((↑(List.length x0) : Int) > 20)) (Tr.chk (decide (0 ≤ 0) && decide (0 ≤ 20) && decide (20 ≤ (↑(List.length x0) : Int))) (Tr.ok (Leaf.ret (AV.str (List.take (Int.toNat 20 - Int.toNat 0) (List.drop (Int.toNat 0) x0))) []))) (Tr.ok (Leaf.ret (AV.str x0) [])) := by kernel_rfl
def l5Text (x0 : TS) : Sem Sh.str := (if decide ((↑(List.length x0) : Int) > 20) = true then List.take (Int.toNat 20 - Int.toNat 0) (List.drop (Int.toNat 0) x0) else x0)
def l5TextC (x0 : TS) : Bool := (if decide ((↑(List.length x0) : Int) > 20) = true then if (decide (0 ≤ 0) && decide (0 ≤ 20) && decide (20 ≤ (↑(List.length x0) : Int))) = true then true else false else true)
def F22p : FSem := plainC [Sh.str] [Sh.str] (fun x => l5TextC x.1) fun x => (l5Text x.1, ())
theorem FOk22p : FOk (env44).P (env44).gl 22 F22p := by
 refine FOk_plainC (ok22p) fun x hc C hC => ?_
 unfold l5TextC at hc
 refine reach_ok env44_all env44_mix (ok22p) (fun id _ => hC id) (go22p x.1) ?_
 generalize hy : l5Text x.1 = y
 unfold l5Text at hy
 try simp only [ExprT.eta]
 repeat' (first | with_reducible refine obr hy hc (fun _ hy hc => ?_) (fun _ hy hc => ?_) | with_reducible refine obr1 hy (fun _ hy => ?_) (fun _ hy => ?_) | with_reducible refine ochk hc (fun hc => ?_) | with_reducible refine OptOk_chkT ?_)
 all_goals first | (cases hc; done) | (subst hy; first | rfl)

abbrev kp180p : Nat → Keep := fun _ => { }
theorem ok180p : fnChk (env44).P 180 Tryz.f180 3 := by refine ⟨?_, ?_, ?_, ?_⟩ <;> kernel_rfl
theorem go180p (x0 : Sem shVal.sl) (x1 : Sem shInt) (x2 : Sem shVal) : run (env44) 0 kp180p (Func.results Tryz.f180).toList 400 (bodyOf Tryz.f180) (initSt (Func.ntmps Tryz.f180) [datum shVal.sl x0, datum shInt x1, datum shVal x2] []) = Tr.chk (bif decide (x1 ≥ 0) then bif decide (x1 < (↑(List.length x0) : Int)) then inB x1 (List.length x0) else true else true) (Tr.ok (Leaf.ret (AV.bool (bif decide (x1 ≥ 0) then bif decide (x1 < (↑(List.length x0) : Int)) then (List.getD x0 (Int.toNat x1) (dflt shVal)).1 == x2.1 && ((List.getD x0 (Int.toNat x1) (dflt shVal)).2.1 == x2.2.1 && ((List.getD x0 (Int.toNat x1) (dflt shVal)).2.2 == x2.2.2 && true)) else false else false)) [])) := by kernel_rfl
def rHolds (x0 : Sem shVal.sl) (x1 : Sem shInt) (x2 : Sem shVal) : Sem Sh.bool := (bif decide (x1 ≥ 0) then bif decide (x1 < (↑(List.length x0) : Int)) then (List.getD x0 (Int.toNat x1) (dflt shVal)).1 == x2.1 && ((List.getD x0 (Int.toNat x1) (dflt shVal)).2.1 == x2.2.1 && ((List.getD x0 (Int.toNat x1) (dflt shVal)).2.2 == x2.2.2 && true)) else false else false)
def rHoldsC (x0 : Sem shVal.sl) (x1 : Sem shInt) (_ : Sem shVal) : Bool := (if (bif decide (x1 ≥ 0) then bif decide (x1 < (↑(List.length x0) : Int)) then inB x1 (List.length x0) else true else true) = true then true else false)
def F180p : FSem := plainC [shVal.sl, shInt, shVal] [Sh.bool] (fun x => rHoldsC x.1 x.2.1 x.2.2.1) fun x => (rHolds x.1 x.2.1 x.2.2.1, ())
theorem FOk180p : FOk (env44).P (env44).gl 180 F180p := by
 refine FOk_plainC (ok180p) fun x hc C hC => ?_
 unfold rHoldsC at hc
 refine reach_ok env44_all env44_mix (ok180p) (fun id _ => hC id) (go180p x.1 x.2.1 x.2.2.1) ?_
 generalize hy : rHolds x.1 x.2.1 x.2.2.1 = y
 unfold rHolds at hy
 try simp only [ExprT.eta]
 repeat' (first | with_reducible refine obr hy hc (fun _ hy hc => ?_) (fun _ hy hc => ?_) | with_reducible refine obr1 hy (fun _ hy => ?_) (fun _ hy => ?_) | with_reducible refine ochk hc (fun hc => ?_) | with_reducible refine OptOk_chkT ?_)
 all_goals first | (cases hc; done) | (subst hy; first | rfl)

abbrev kp122p : Nat → Keep := fun j => if j = 3 then { slots := [1, 5, 11, 12, 13] } else { }
abbrev s122p_3 (i1 : Sem shInt) (l11 : List (Sem shVal.sl)) (i12 : Int) (i13 : Int) (mh_0 : List ((Int × Int × Str) × Int)) : St := { tmps := [ny, ai i1, ny, ny, ny, AV.mp 0, ny, ny, ny, ny, ny, AV.sl shVal.sl l11, ai i12, ai i13, ny, ny, ny, ny, ny, ny, ny, ny, ny, ny, ny, ny, ny, ny, ny, ny, ny, ny, ny, ny, ny, ny, ny], heap := [AO.vmap false mh_0] }
theorem ok122p : fnChk (env44).P 122 Tryz.f122 2 := by refine ⟨?_, ?_, ?_, ?_⟩ <;> kernel_rfl
theorem go122p (x0 : Sem shRel) (x1 : Sem shInt) : run (env44) 0 kp122p (Func.results Tryz.f122).toList 400 (bodyOf Tryz.f122) (initSt (Func.ntmps Tryz.f122) [datum shRel x0, datum shInt x1] []) = Tr.ok (Leaf.head 3 (headK Tryz.f122 3) (s122p_3 x1 x0.2 (↑(List.length x0.2) : Int) 0 [])) := by kernel_rfl
theorem on122p_3 (i1 : Sem shInt) (l11 : List (Sem shVal.sl)) (i12 : Int) (i13 : Int) (mh_0 : List ((Int × Int × Str) × Int)) : run (env44) 0 kp122p (Func.results Tryz.f122).toList 400 (headK Tryz.f122 3) (s122p_3 i1 l11 i12 i13 mh_0) = Tr.br (decide (i13 < i12)) (Tr.chk (inB i13 l11.length) (Tr.chk (inB i1 (List.length (l11.getD i13.toNat (dflt shVal.sl)))) (Tr.chk (decide (mh_0.length ≤ 1073741824)) (Tr.chk (inB (↑(vidx mh_0 (List.getD (l11.getD i13.toNat (dflt shVal.sl)) (Int.toNat i1) (dflt shVal))) : Int) (vent mh_0 (List.getD (l11.getD i13.toNat (dflt shVal.sl)) (Int.toNat i1) (dflt shVal))).length) (Tr.br (bif (List.getD (l11.getD i13.toNat (dflt shVal.sl)) (Int.toNat i1) (dflt shVal)).1 != 0 then decide (vget (vsetAt (vent mh_0 (List.getD (l11.getD i13.toNat (dflt shVal.sl)) (Int.toNat i1) (dflt shVal))) (↑(vidx mh_0 (List.getD (l11.getD i13.toNat (dflt shVal.sl)) (Int.toNat i1) (dflt shVal))) : Int).toNat (IntKind.i64.wrap (vget mh_0 (List.getD (l11.getD i13.toNat (dflt shVal.sl)) (Int.toNat i1) (dflt shVal)) + 1))) (List.getD (l11.getD i13.toNat (dflt shVal.sl)) (Int.toNat i1) (dflt shVal)) > 1) else false) (Tr.ok (Leaf.ret (AV.kb true) [])) (Tr.ok (Leaf.head 3 (headK Tryz.f122 3) (s122p_3 i1 l11 i12 (IntKind.i64.wrap (i13 + 1)) (vsetAt (vent mh_0 (List.getD (l11.getD i13.toNat (dflt shVal.sl)) (Int.toNat i1) (dflt shVal))) (↑(vidx mh_0 (List.getD (l11.getD i13.toNat (dflt shVal.sl)) (Int.toNat i1) (dflt shVal))) : Int).toNat (IntKind.i64.wrap (vget mh_0
 (List.getD (l11.getD i13.toNat (dflt shVal.sl)) (Int.toNat i1) (dflt shVal)) + 1))))))))))) (Tr.ok (Leaf.ret (AV.kb false) [])) := by kernel_rfl
def rTwice_3 : Nat → (Sem shInt) → (List (Sem shVal.sl)) → Int → Int → (List ((Int × Int × Str) × Int)) → Sem Sh.bool
 | 0, _, _, _, _, _ => default
 | n + 1, i1, l11, i12, i13, mh_0 => (if decide (i13 < i12) = true then
 if
   (bif
      (List.getD (l11.getD i13.toNat (dflt shVal.sl)) (Int.toNat i1)
         (dflt shVal)).1 !=
       0 then
     decide
      (vget
        (vsetAt
         (vent mh_0
          (List.getD (l11.getD i13.toNat (dflt shVal.sl)) (Int.toNat i1)
           (dflt shVal)))
         (↑(vidx mh_0
             (List.getD (l11.getD i13.toNat (dflt shVal.sl)) (Int.toNat i1)
              (dflt shVal))) :
           Int).toNat
         (IntKind.i64.wrap
          (vget mh_0
            (List.getD (l11.getD i13.toNat (dflt shVal.sl)) (Int.toNat i1)
             (dflt shVal)) +
           1)))
        (List.getD (l11.getD i13.toNat (dflt shVal.sl)) (Int.toNat i1)
         (dflt shVal)) >
       1)
    else false) =
    true then
  true
 else
  rTwice_3 n i1 l11 i12 (IntKind.i64.wrap (i13 + 1))
   (vsetAt
    (vent mh_0
     (List.getD (l11.getD i13.toNat (dflt shVal.sl)) (Int.toNat i1)
      (dflt shVal)))
    (↑(vidx mh_0
        (List.getD (l11.getD i13.toNat (dflt shVal.sl)) (Int.toNat i1)
         (dflt shVal))) :
      Int).toNat
    (IntKind.i64.wrap
     (vget mh_0
       (List.getD (l11.getD i13.toNat (dflt shVal.sl)) (Int.toNat i1)
        (dflt shVal)) +
      1)))
else false)
def rTwiceC_3 : Nat → (Sem shInt) → (List (Sem shVal.sl)) → Int → Int → (List ((Int × Int × Str) × Int)) → Bool
 | 0, _, _, _, _, _ => false
 | n + 1, i1, l11, i12, i13, mh_0 => (if decide (i13 < i12) = true then
 if inB i13 l11.length = true then
  if inB i1 (List.length (l11.getD i13.toNat (dflt shVal.sl))) = true then
   if decide (mh_0.length ≤ 1073741824) = true then
    if
      inB
        (↑(vidx mh_0
           (List.getD (l11.getD i13.toNat (dflt shVal.sl)) (Int.toNat i1)
            (dflt shVal))) :
         Int)
        (vent mh_0
          (List.getD (l11.getD i13.toNat (dflt shVal.sl)) (Int.toNat i1)
           (dflt shVal))).length =
       true then
     if
       (bif
          (List.getD (l11.getD i13.toNat (dflt shVal.sl)) (Int.toNat i1)
             (dflt shVal)).1 !=
           0 then
         decide
          (vget
            (vsetAt
             (vent mh_0
              (List.getD (l11.getD i13.toNat (dflt shVal.sl)) (Int.toNat i1)
               (dflt shVal)))
             (↑(vidx mh_0
                 (List.getD (l11.getD i13.toNat (dflt shVal.sl)) (Int.toNat i1)
                  (dflt shVal))) :
               Int).toNat
             (IntKind.i64.wrap
              (vget mh_0
                (List.getD (l11.getD i13.toNat (dflt shVal.sl)) (Int.toNat i1)
                 (dflt shVal)) +
               1)))
            (List.getD (l11.getD i13.toNat (dflt shVal.sl)) (Int.toNat i1)
             (dflt shVal)) >
           1)
        else false) =
        true then
      true
     else
      rTwiceC_3 n i1 l11 i12 (IntKind.i64.wrap (i13 + 1))
       (vsetAt
        (vent mh_0
         (List.getD (l11.getD i13.toNat (dflt shVal.sl)) (Int.toNat i1)
          (dflt shVal)))
        (↑(vidx mh_0
            (List.getD (l11.getD i13.toNat (dflt shVal.sl)) (Int.toNat i1)
             (dflt shVal))) :
          Int).toNat
        (IntKind.i64.wrap
         (vget mh_0
           (List.getD (l11.getD i13.toNat (dflt shVal.sl)) (Int.toNat i1)
            (dflt shVal)) +
          1)))
    else false
   else false
  else false
 else false
else true)
theorem at122p_3 {C : Ctx} (hC : ∀ id, C.ρ0 id = none) : ∀ (n : Nat) (i1 : Sem shInt) (l11 : List (Sem shVal.sl)) (i12 : Int) (i13 : Int) (mh_0 : List ((Int × Int × Str) × Int)), rTwiceC_3 n i1 l11 i12 i13 mh_0 = true →
  Reach (env44) C 122 (headK Tryz.f122 3) (s122p_3 i1 l11 i12 i13 mh_0) (fun r h => resOf h [Sh.bool] r = some (rTwice_3 n i1 l11 i12 i13 mh_0, ()))
 | 0, i1, l11, i12, i13, mh_0, hc => by cases hc
 | n + 1, i1, l11, i12, i13, mh_0, hc => by
  refine reach_ok env44_all env44_mix (ok122p) (fun id _ => hC id) (on122p_3 _ _ _ _ _) ?_
  rw [rTwiceC_3] at hc
  generalize hy : rTwice_3 (n + 1) i1 l11 i12 i13 mh_0 = y
  rw [rTwice_3] at hy
  try simp only [ExprT.eta]
  repeat' (first | with_reducible refine obr hy hc (fun _ hy hc => ?_) (fun _ hy hc => ?_) | with_reducible refine obr1 hy (fun _ hy => ?_) (fun _ hy => ?_) | with_reducible refine ochk hc (fun hc => ?_) | with_reducible refine OptOk_chkT ?_)
  all_goals first | (cases hc; done) | (subst hy; first | (change Reach _ _ _ _ _ _; refine at122p_3 hC n _ _ _ _ _ ?_ <;> exact hc) | rfl)
def rTwice (x0 : Sem shRel) (x1 : Sem shInt) : Sem Sh.bool := (rTwice_3 100000000 x1 x0.2 (↑(List.length x0.2) : Int) 0 [])
def rTwiceC (x0 : Sem shRel) (x1 : Sem shInt) : Bool := (rTwiceC_3 100000000 x1 x0.2 (↑(List.length x0.2) : Int) 0 [])
def F122p : FSem := plainC [shRel, shInt] [Sh.bool] (fun x => rTwiceC x.1 x.2.1) fun x => (rTwice x.1 x.2.1, ())
theorem FOk122p : FOk (env44).P (env44).gl 122 F122p := by
 refine FOk_plainC (ok122p) fun x hc C hC => ?_
 unfold rTwiceC at hc
 refine reach_ok env44_all env44_mix (ok122p) (fun id _ => hC id) (go122p x.1 x.2.1) ?_
 generalize hy : rTwice x.1 x.2.1 = y
 unfold rTwice at hy
 try simp only [ExprT.eta]
 repeat' (first | with_reducible refine obr hy hc (fun _ hy hc => ?_) (fun _ hy hc => ?_) | with_reducible refine obr1 hy (fun _ hy => ?_) (fun _ hy => ?_) | with_reducible refine ochk hc (fun hc => ?_) | with_reducible refine OptOk_chkT ?_)
 all_goals first | (cases hc; done) | (subst hy; first | (change Reach _ _ _ _ _ _; refine at122p_3 hC _ _ _ _ _ _ ?_ <;> exact hc) | rfl)

abbrev kp13p : Nat → Keep := fun j => if j = 2 then { slots := [0, 1, 5] } else { }
abbrev s13p_2 (l0 : List (Sem shRel)) (s1 : TS) (i5 : Int) : St := { tmps := [AV.sl shRel l0, AV.str s1, ny, ny, ny, ai i5, ny, ny, ny, ny, ny, ny, ny, ny, ny, ny, ny, ny, ny, ny, ny], heap := [] }
theorem ok13p : fnChk (env44).P 13 Tryz.f13 2 := by refine ⟨?_, ?_, ?_, ?_⟩ <;> kernel_rfl
theorem go13p (x0 : Sem shRel.sl) (x1 : TS) : run (env44) 0 kp13p (Func.results Tryz.f13).toList 400 (bodyOf Tryz.f13) (initSt (Func.ntmps Tryz.f13) [datum shRel.sl x0, datum Sh.str x1] []) = Tr.ok (Leaf.head 2 (headK Tryz.f13 2) (s13p_2 x0 x1 0)) := by kernel_rfl
theorem on13p_2 (l0 : List (Sem shRel)) (s1 : TS) (i5 : Int) : run (env44) 0 kp13p (Func.results Tryz.f13).toList 400 (headK Tryz.f13 2) (s13p_2 l0 s1 i5) = Tr.br (decide (i5 < (↑l0.length : Int))) (Tr.chk (inB i5 l0.length) (Tr.br ((l0.getD i5.toNat (dflt shRel)).1.1 == s1) (Tr.ok (Leaf.ret (ai i5) [])) (Tr.ok (Leaf.head 2 (headK Tryz.f13 2) (s13p_2 l0 s1 (IntKind.i64.wrap (i5 + 1))))))) (Tr.ok (Leaf.ret (ai (-1)) [])) := by kernel_rfl
def r8Find_2 (s1 : TS) : List
 (Sem shRel) → Int → Sem shInt
 | [], _ => (-1)
 | x :: r, i5 => (if (x.1.1 == s1) = true then i5 else r8Find_2 s1 r (i5 + 1))
theorem at13p_2 {C : Ctx} (hC : ∀ id, C.ρ0 id = none) (s1 : TS) (l0 : List
 (Sem shRel)) (hl : l0.length ≤ maxStr) : ∀ (m i : Nat), l0.length - i = m → i ≤ l0.length →
  Reach (env44) C 13 (headK Tryz.f13 2) (s13p_2 l0 s1 (i : Int)) (fun r h => resOf h [shInt] r = some (r8Find_2 s1 (l0.drop i) i, ())) := by
 intro m
 induction m with
 | zero =>
  intro i hm hi
  obtain rfl : i = l0.length := by omega
  rw [List.drop_length]
  refine reach_ok env44_all env44_mix (ok13p) (fun id _ => hC id) (on13p_2 _ _ _) ?_
  generalize hy : r8Find_2 s1 [] _ = y
  rw [r8Find_2] at hy
  simp only [lt_dec', Tr.val_brF]
  repeat' (first | with_reducible refine obr1 hy (fun _ hy => ?_) (fun _ hy => ?_) | with_reducible refine OptOk_chkT ?_)
  all_goals first | (cases hc; done) | (subst hy; first | rfl)
 | succ m IH =>
  intro i hm hi
  have hlt : i < l0.length := by omega
  have IH := IH (i + 1)
  have hcast : ((i : Int) + 1) = ((i + 1 : Nat) : Int) := by omega
  have hwr := wrap_add i (by omega)
  rw [List.drop_eq_getElem_cons hlt]
  refine reach_ok env44_all env44_mix (ok13p) (fun id _ => hC id) (on13p_2 _ _ _) ?_
  generalize hy : r8Find_2 s1 (l0[i] :: l0.drop (i + 1)) (i : Int) = y
  rw [r8Find_2] at hy
  simp only [lt_dec hlt, inB_of hlt, getD_at l0 _ hlt, hwr, Tr.val_brT, Tr.val_chkT]
  clear hwr
  try simp only [inB_of hlt] at hy
  simp only [hcast] at hy
  repeat' (first | with_reducible refine obr1 hy (fun _ hy => ?_) (fun _ hy => ?_) | with_reducible refine OptOk_chkT ?_)
  all_goals first | (cases hc; done) | (subst hy; first | (change Reach _ _ _ _ _ _; apply IH <;> first | omega | assumption) | rfl)
theorem at13p_2s {C : Ctx} (hC : ∀ id, C.ρ0 id = none) (s1 : TS) (l0 : List
 (Sem shRel)) :
  Reach (env44) C 13 (headK Tryz.f13 2) (s13p_2 l0 s1 0) (fun r h => resOf h [shInt] r = some (r8Find_2 s1 l0 0, ())) :=
 Reach.len 0 shRel l0 rfl fun hl => at13p_2 hC s1 l0 hl _ 0 rfl (Nat.zero_le _)
def r8Find (x0 : Sem shRel.sl) (x1 : TS) : Sem shInt := (r8Find_2 x1 x0 0)
def F13p : FSem := plainT [shRel.sl, Sh.str] [shInt] fun x => (r8Find x.1 x.2.1, ())
theorem FOk13p : FOk (env44).P (env44).gl 13 F13p := by
 refine FOk_plainT (ok13p) fun x C hC => ?_
 refine reach_ok env44_all env44_mix (ok13p) (fun id _ => hC id) (go13p x.1 x.2.1) ?_
 generalize hy : r8Find x.1 x.2.1 = y
 unfold r8Find at hy
 try simp only [ExprT.eta]
 repeat' (first | with_reducible refine obr1 hy (fun _ hy => ?_) (fun _ hy => ?_) | with_reducible refine OptOk_chkT ?_)
 all_goals first | (cases hc; done) | (subst hy; first | (change Reach _ _ _ _ _ _; apply at13p_2s hC <;> first | assumption | exact hc) | rfl)

noncomputable def env45 : Env := (((((env44.add 92 F92p).add 22 F22p).add 180 F180p).add 122 F122p).add 13 F13p)
theorem env45_all : EnvAll env45 := (EnvAll.addS (EnvAll.addS (EnvAll.addS (EnvAll.addS (EnvAll.addS env44_all (SameE.refl env44) FOk92p) ((SameE.refl env44).add _ _) FOk22p) (((SameE.refl env44).add _ _).add _ _) FOk180p) ((((SameE.refl env44).add _ _).add _ _).add _ _) FOk122p) (((((SameE.refl env44).add _ _).add _ _).add _ _).add _ _) FOk13p)
theorem env45_mix : env45.P.follows .mixedOrders = true := (mix_add (mix_add (mix_add (mix_add (mix_add env44_mix _ _) _ _) _ _) _ _) _ _)
open Go Go.Proofs
set_option maxHeartbeats 4000000

theorem rHoldsC_true (x : Sem (Sh.sl shVal)) (c : Int) (v : Sem shVal) : rHoldsC x c v = true := by
 unfold rHoldsC
 by_cases h1 : (c : Int) ≥ 0
 ·by_cases h2 : c < (List.length x : Int)
  ·have h3 : inB c (List.length x) = true := by simp [inB]; exact ⟨h1, h2⟩
   simp [decide_eq_true h1, decide_eq_true h2, h3]
  ·simp [decide_eq_true h1, decide_eq_false h2]
 ·simp [decide_eq_false h1]
def F180t : FSem := plainT [Sh.sl shVal, shInt, shVal] [Sh.bool] fun x => (rHolds x.1 x.2.1 x.2.2.1, ())
theorem FOk180t : FOk env45.P env45.gl 180 F180t := FOk_tot FOk180p fun x => rHoldsC_true x.1 x.2.1 x.2.2.1

abbrev kp23p : Nat → Keep := fun j => if j = 3 then { slots := [0, 3, 4], prom := [(3, none, .str)] } else { }
abbrev s23p_3 (l0 : LS) (i4 : Int) (lh_0 : LS) : St := { tmps := [AV.sl Sh.str l0, ny, ny, AV.vec 0, ai i4, ny, ny, ny, ny, ny, ny, ny, ny, ny, ny, ny, ny, ny, ny, ny, ny, ny, ny, ny], heap := [AO.vec Sh.str lh_0] }
theorem ok23p : fnChk (env45).P 23 Tryz.f23 1 := by refine ⟨?_, ?_, ?_, ?_⟩ <;> kernel_rfl
theorem go23p (x0 : Sem Sh.str.sl) : run (env45) 0 kp23p (Func.results Tryz.f23).toList 400 (bodyOf Tryz.f23) (initSt (Func.ntmps Tryz.f23) [datum Sh.str.sl x0] []) = Tr.ok (Leaf.head 3 (headK Tryz.f23 3) (s23p_3 x0 0 [])) := by kernel_rfl
theorem on23p_3 (l0 : LS) (i4 : Int) (lh_0 : LS) : run (env45) 0 kp23p (Func.results Tryz.f23).toList 400 (headK Tryz.f23 3) (s23p_3 l0 i4 lh_0) = Tr.br (bif decide (i4 < (↑l0.length : Int)) then decide (i4 < 10) else false) (Tr.chk (inB i4 l0.length) (Tr.chk (l5TextC (l0.getD i4.toNat (dflt Sh.str))) (Tr.chk (decide (lh_0.length + [l5Text (l0.getD i4.toNat (dflt Sh.str))].length ≤ 1073741824)) (Tr.ok (Leaf.head 3 (headK Tryz.f23 3) (s23p_3 l0 (IntKind.i64.wrap (i4 + 1)) (lh_0 ++ [l5Text (l0.getD i4.toNat (dflt Sh.str))]))))))) (Tr.ok (Leaf.ret (AV.vec 0) [AO.vec Sh.str lh_0])) := by kernel_rfl
def l5Names_3 : List (Sem Sh.str) → Int → List (Sem Sh.str) → Sem Sh.str.sl
 | [], _, lh_0 => (lh_0)
 | x :: r, i4, lh_0 => (if decide (i4 < 10) = true then l5Names_3 r (i4 + 1) (lh_0 ++ [l5Text x]) else lh_0)
def l5NamesC_3 : List (Sem Sh.str) → Int → List (Sem Sh.str) → Bool
 | [], _, _ => (true)
 | x :: r, i4, lh_0 => (if decide (i4 < 10) = true then
 if l5TextC x = true then if decide (lh_0.length + [l5Text x].length ≤ 1073741824) = true then l5NamesC_3 r (i4 + 1) (lh_0 ++ [l5Text x]) else false else false
else true)
theorem at23p_3 {C : Ctx} (hC : ∀ id, C.ρ0 id = none) (l0 : LS) (hl : l0.length ≤ maxStr) : ∀ (m i : Nat) (lh_0 : LS), l0.length - i = m → i ≤ l0.length → l5NamesC_3 (l0.drop i) i lh_0 = true →
  Reach (env45) C 23 (headK Tryz.f23 3) (s23p_3 l0 (i : Int) lh_0) (fun r h => resOf h [Sh.str.sl] r = some (l5Names_3 (l0.drop i) i lh_0, ())) := by
 intro m
 induction m with
 | zero =>
  intro i lh_0 hm hi hc
  obtain rfl : i = l0.length := by omega
  rw [List.drop_length] at hc ⊢
  refine reach_ok env45_all env45_mix (ok23p) (fun id _ => hC id) (on23p_3 _ _ _) ?_
  rw [l5NamesC_3] at hc
  generalize hy : l5Names_3 [] _ lh_0 = y
  rw [l5Names_3] at hy
  simp only [lt_dec', cond_false, Tr.val_brF]
  repeat' (first | with_reducible refine obr hy hc (fun _ hy hc => ?_) (fun _ hy hc => ?_) | with_reducible refine obr1 hy (fun _ hy => ?_) (fun _ hy => ?_) | with_reducible refine ochk hc (fun hc => ?_) | with_reducible refine OptOk_chkT ?_)
  all_goals first | (cases hc; done) | (subst hy; first | rfl)
 | succ m IH =>
  intro i lh_0 hm hi hc
  have hlt : i < l0.length := by omega
  have IH := IH (i + 1)
  have hcast : ((i : Int) + 1) = ((i + 1 : Nat) : Int) := by omega
  have hwr := wrap_add i (by omega)
  rw [List.drop_eq_getElem_cons hlt] at hc ⊢
  refine reach_ok env45_all env45_mix (ok23p) (fun id _ => hC id) (on23p_3 _ _ _) ?_
  rw [l5NamesC_3] at hc
  generalize hy : l5Names_3 (l0[i] :: l0.drop (i + 1)) (i : Int) lh_0 = y
  rw [l5Names_3] at hy
  simp only [lt_dec hlt, inB_of hlt, getD_at l0 _ hlt, hwr, cond_true]
  clear hwr
  try simp only [inB_of hlt] at hy
  simp only [hcast] at hy
  try simp only [inB_of hlt] at hc
  try simp only [hcast] at hc
  repeat' (first | with_reducible refine obr hy hc (fun _ hy hc => ?_) (fun _ hy hc => ?_) | with_reducible refine obr1 hy (fun _ hy => ?_) (fun _ hy => ?_) | with_reducible refine ochk hc (fun hc => ?_) | with_reducible refine OptOk_chkT ?_)
  all_goals first | (cases hc; done) | (subst hy; first | (change Reach _ _ _ _ _ _; apply IH <;> first | omega | assumption) | rfl)
theorem at23p_3s {C : Ctx} (hC : ∀ id, C.ρ0 id = none) (l0 : LS) (lh_0 : LS) (hc : l5NamesC_3 l0 0 lh_0 = true) :
  Reach (env45) C 23 (headK Tryz.f23 3) (s23p_3 l0 0 lh_0) (fun r h => resOf h [Sh.str.sl] r = some (l5Names_3 l0 0 lh_0, ())) :=
 Reach.len 0 (Sh.str) l0 rfl fun hl => at23p_3 hC l0 hl _ 0 lh_0 rfl (Nat.zero_le _) hc
def l5Names (x0 : Sem Sh.str.sl) : Sem Sh.str.sl := (l5Names_3 x0 0 [])
def l5NamesC (x0 : Sem Sh.str.sl) : Bool := (l5NamesC_3 x0 0 [])
def F23p : FSem := plainC [Sh.str.sl] [Sh.str.sl] (fun x => l5NamesC x.1) fun x => (l5Names x.1, ())
theorem FOk23p : FOk (env45).P (env45).gl 23 F23p := by
 refine FOk_plainC (ok23p) fun x hc C hC => ?_
 unfold l5NamesC at hc
 refine reach_ok env45_all env45_mix (ok23p) (fun id _ => hC id) (go23p x.1) ?_
 generalize hy : l5Names x.1 = y
 unfold l5Names at hy
 try simp only [ExprT.eta]
 repeat' (first | with_reducible refine obr hy hc (fun _ hy hc => ?_) (fun _ hy hc => ?_) | with_reducible refine obr1 hy (fun _ hy => ?_) (fun _ hy => ?_) | with_reducible refine ochk hc (fun hc => ?_) | with_reducible refine OptOk_chkT ?_)
 all_goals first | (cases hc; done) | (subst hy; first | (change Reach _ _ _ _ _ _; apply at23p_3s hC <;> first | assumption | exact hc) | rfl)

abbrev s91p_92 (s : Str) (l : List (Sem shRel)) (i : Int) : St := { tmps := [.sl shRel l, .clo (.func 92) [] [.ptr 0 0], .any, .any, .any, .any, .any, .int .i64 l.length, .int .i64 i, .any, .any, .any, .any, .any, .any, .any, .any, .any, .any], heap := [.box [.str s]] }
theorem go91p_92 (s : Str) (l : List (Sem shRel)) : run env45 1 kpIx Tryz.f91.results.toList 300 (bodyOf Tryz.f91) (initSt Tryz.f91.ntmps [.sl shRel l, .clo (.func 92) [] [.ptr 0 0]] [.box [.str s]]) = .ok (.head 2 (headK Tryz.f91 2) (s91p_92 s l 0)) := by kernel_rfl
theorem on91p_92 (s : Str) (l : List (Sem shRel)) (i : Int) : run env45 1 kpIx Tryz.f91.results.toList 300 (headK Tryz.f91 2) (s91p_92 s l i) = ixTree (K := headK Tryz.f91 2) (e := shRel) l (fun x => x.1.1 == s) (s91p_92 s l) [.box [.str s]] i := by kernel_rfl

theorem ok91p : fnChk env45.P 91 Tryz.f91 2 := by refine ⟨?_, ?_, ?_, ?_⟩ <;> kernel_rfl
def G91p : GSem [some (.sl shRel), none] := fun x h => match x, h with
 | (l, .clo (.func 92) [] [.ptr 0 0], _), [.box [.str s]] => .ok (.int .i64 (ixFrom (fun x => x.1.1 == s) l 0), [.box [.str s]])
 | _, _ => .err
def F91p : FSem := liftF [some (.sl shRel), none] G91p
theorem FOk91p : FOk env45.P env45.gl 91 F91p := by
 refine FOk_of ok91p fun x h0 res hx C hC => ?_
 unfold G91p at hx
 split at hx
 ·rename_i l u s
  simp only [Tr.val_ok, Option.some.injEq] at hx
  subst hx
  refine Reach.len 0 shRel l rfl fun hl => ?_
  refine reach_ok (n0 := 1) env45_all env45_mix ok91p hC (go91p_92 s l) ?_
  exact reach_ixf l (fun x => x.1.1 == s) (s91p_92 s l) env45_all env45_mix ok91p hC (on91p_92 s l) hl _ 0 rfl (Nat.zero_le _)
 ·simp at hx

noncomputable def env46 : Env := (((env45.add 180 F180t).add 23 F23p).add 91 F91p)
theorem env46_all : EnvAll env46 := (EnvAll.addS (EnvAll.addS (EnvAll.addS env45_all (SameE.refl env45) FOk180t) ((SameE.refl env45).add _ _) FOk23p) (((SameE.refl env45).add _ _).add _ _) FOk91p)
theorem env46_mix : env46.P.follows .mixedOrders = true := (mix_add (mix_add (mix_add env45_mix _ _) _ _) _ _)
open Go Go.Proofs
set_option maxHeartbeats 4000000

noncomputable def F179p : FSem := liftF (List.replicate 3 none) (autoG env46 Tryz.f179 (List.replicate 3 none))
theorem FOk179p : FOk env46.P env46.gl 179 F179p := FOk_auto _ env46_all env46_mix (by refine ⟨?_, ?_, ?_, ?_⟩ <;> kernel_rfl)

abbrev kp51p : Nat → Keep := fun _ => { }
theorem ok51p : fnChk (env46).P 51 Tryz.f51 2 := by refine ⟨?_, ?_, ?_, ?_⟩ <;> kernel_rfl
theorem go51p (x0 : Sem shRel.sl) (x1 : TS) : run (env46) 0 kp51p (Func.results Tryz.f51).toList 400 (bodyOf Tryz.f51) (initSt (Func.ntmps Tryz.f51) [datum shRel.sl x0, datum Sh.str x1] []) = Tr.ok (Leaf.ret (ai (ixFrom (fun x => x.1.1 == x1) x0 0)) []) := by kernel_rfl
def bFind (x0 : Sem shRel.sl) (x1 : TS) : Sem shInt := (ixFrom (fun x => x.1.1 == x1) x0 0)
def F51p : FSem := plainT [shRel.sl, Sh.str] [shInt] fun x => (bFind x.1 x.2.1, ())
theorem FOk51p : FOk (env46).P (env46).gl 51 F51p := by
 refine FOk_plainT (ok51p) fun x C hC => ?_
 refine reach_ok env46_all env46_mix (ok51p) (fun id _ => hC id) (go51p x.1 x.2.1) ?_
 generalize hy : bFind x.1 x.2.1 = y
 unfold bFind at hy
 try simp only [ExprT.eta]
 repeat' (first | with_reducible refine obr1 hy (fun _ hy => ?_) (fun _ hy => ?_) | with_reducible refine OptOk_chkT ?_)
 all_goals first | (cases hc; done) | (subst hy; first | rfl)

noncomputable def env47 : Env := ((env46.add 179 F179p).add 51 F51p)
theorem env47_all : EnvAll env47 := (EnvAll.addS (EnvAll.addS env46_all (SameE.refl env46) FOk179p) ((SameE.refl env46).add _ _) FOk51p)
theorem env47_mix : env47.P.follows .mixedOrders = true := (mix_add (mix_add env46_mix _ _) _ _)
open Go Go.Proofs
set_option maxHeartbeats 4000000

abbrev s223p_179 (c a b : Int) (s : Str) (l : List (Sem (Sh.sl shVal))) (i : Int) : St := { tmps := [.sl (Sh.sl shVal) l, .clo (.func 179) [] [.ptr 0 0, .ptr 1 0], .any, .any, .any, .any, .any, .int .i64 l.length, .int .i64 i, .any, .any, .any, .any, .any, .any, .any, .any, .any, .any], heap := [.box [.int .i64 c], .box [.int .i64 a, .int .i64 b, .str s]] }
theorem go223p_179 (c a b : Int) (s : Str) (l : List (Sem (Sh.sl shVal))) : run env47 2 kpIx Tryz.f223.results.toList 300 (bodyOf Tryz.f223) (initSt Tryz.f223.ntmps [.sl (Sh.sl shVal) l, .clo (.func 179) [] [.ptr 0 0, .ptr 1 0]] [.box [.int .i64 c], .box [.int .i64 a, .int .i64 b, .str s]]) = .ok (.head 2 (headK Tryz.f223 2) (s223p_179 c a b s l 0)) := by kernel_rfl
theorem on223p_179 (c a b : Int) (s : Str) (l : List (Sem (Sh.sl shVal))) (i : Int) : run env47 2 kpIx Tryz.f223.results.toList 300 (headK Tryz.f223 2) (s223p_179 c a b s l i) = ixTree (K := headK Tryz.f223 2) (e := (Sh.sl shVal)) l (fun x => rHolds x c (a, b, s)) (s223p_179 c a b s l) [.box [.int .i64 c], .box [.int .i64 a, .int .i64 b, .str s]] i := by kernel_rfl

theorem ok223p : fnChk env47.P 223 Tryz.f223 2 := by refine ⟨?_, ?_, ?_, ?_⟩ <;> kernel_rfl
def G223p : GSem [some (.sl (Sh.sl shVal)), none] := fun x h => match x, h with
 | (l, .clo (.func 179) [] [.ptr 0 0, .ptr 1 0], _), [.box [.int .i64 c], .box [.int .i64 a, .int .i64 b, .str s]] => .ok (.int .i64 (ixFrom (fun x => rHolds x c (a, b, s)) l 0), [.box [.int .i64 c], .box [.int .i64 a, .int .i64 b, .str s]])
 | _, _ => .err
def F223p : FSem := liftF [some (.sl (Sh.sl shVal)), none] G223p
theorem FOk223p : FOk env47.P env47.gl 223 F223p := by
 refine FOk_of ok223p fun x h0 res hx C hC => ?_
 unfold G223p at hx
 split at hx
 ·rename_i l u c a b s
  simp only [Tr.val_ok, Option.some.injEq] at hx
  subst hx
  refine Reach.len 0 (Sh.sl shVal) l rfl fun hl => ?_
  refine reach_ok (n0 := 2) env47_all env47_mix ok223p hC (go223p_179 c a b s l) ?_
  exact reach_ixf l (fun x => rHolds x c (a, b, s)) (s223p_179 c a b s l) env47_all env47_mix ok223p hC (on223p_179 c a b s l) hl _ 0 rfl (Nat.zero_le _)
 ·simp at hx

noncomputable def env48 : Env := (env47.add 223 F223p)
theorem env48_all : EnvAll env48 := (EnvAll.addS env47_all (SameE.refl env47) FOk223p)
theorem env48_mix : env48.P.follows .mixedOrders = true := (mix_add env47_mix _ _)
open Go Go.Proofs
set_option maxHeartbeats 4000000

noncomputable def F178p : FSem := liftF (List.replicate 2 none) (autoG env48 Tryz.f178 (List.replicate 2 none))
theorem FOk178p : FOk env48.P env48.gl 178 F178p := FOk_auto _ env48_all env48_mix (by refine ⟨?_, ?_, ?_, ?_⟩ <;> kernel_rfl)

noncomputable def env49 : Env := (env48.add 178 F178p)
theorem env49_all : EnvAll env49 := (EnvAll.addS env48_all (SameE.refl env48) FOk178p)
theorem env49_mix : env49.P.follows .mixedOrders = true := (mix_add env48_mix _ _)
open Go Go.Proofs
set_option maxHeartbeats 4000000

abbrev kp124p : Nat → Keep := fun _ => { }
theorem ok124p : fnChk (env49).P 124 Tryz.f124 3 := by refine ⟨?_, ?_, ?_, ?_⟩ <;> kernel_rfl
theorem go124p (x0 : Sem shRel) (x1 : Sem shInt) (x2 : Sem shVal) : run (env49) 0 kp124p (Func.results Tryz.f124).toList 400 (bodyOf Tryz.f124) (initSt (Func.ntmps Tryz.f124) [datum shRel x0, datum shInt x1, datum shVal x2] []) = Tr.ok (Leaf.ret (AV.bool (decide (ixFrom (fun x => rHolds x x1 x2) x0.2 0 ≥ 0))) []) := by kernel_rfl
def rHas (x0 : Sem shRel) (x1 : Sem shInt) (x2 : Sem shVal) : Sem Sh.bool := (decide (ixFrom (fun x => rHolds x x1 x2) x0.2 0 ≥ 0))
def F124p : FSem := plainT [shRel, shInt, shVal] [Sh.bool] fun x => (rHas x.1 x.2.1 x.2.2.1, ())
theorem FOk124p : FOk (env49).P (env49).gl 124 F124p := by
 refine FOk_plainT (ok124p) fun x C hC => ?_
 refine reach_ok env49_all env49_mix (ok124p) (fun id _ => hC id) (go124p x.1 x.2.1 x.2.2.1) ?_
 generalize hy : rHas x.1 x.2.1 x.2.2.1 = y
 unfold rHas at hy
 try simp only [ExprT.eta, etaE_eq]
 repeat' (first | with_reducible refine obr1 hy (fun _ hy => ?_) (fun _ hy => ?_) | with_reducible refine OptOk_chkT ?_)
 all_goals first | (cases hc; done) | (subst hy; first | rfl)

abbrev kp71p : Nat → Keep := fun j => if j = 6 then { slots := [1, 18, 19, 20] } else if j = 15 then { slots := [1, 39, 40, 41] } else if j = 21 then { slots := [1, 8] } else { }
abbrev s71p_6 (l18 : List (Sem shVal.sl)) (i19 : Int) (i20 : Int) (ja0 : TS) (ja1 : LC) (ja2 : Sem shInt) (ja3 : LI) (ja4 : LF) (ja5 : Str) (ja6 : Int) (ja7 : Int) (ja8 : Str) (ja9 : Str) (ja10 : LX) (ja11 : List (Sem shVal.sl)) : St := { tmps := [ny, AV.ptr 0 0, ny, ny, ny, ny, ny, ny, ny, ny, ny, ny, ny, ny, ny, ny, ny, ny, AV.sl shVal.sl l18, ai i19, ai i20, ny, ny, ny, ny, ny, ny, ny, ny, ny, ny, ny, ny, ny, ny, ny, ny, ny, ny, ny, ny, ny, ny, ny, ny, ny, ny, ny, ny, ny, ny, ny, ny, ny, ny, ny, ny, ny, ny, ny, ny, ny, ny, ny, ny, ny, ny, ny, ny, ny, ny, ny, ny, ny, ny, ny, ny, ny, ny], heap := [AO.box [AV.str ja0, AV.sl shCol ja1, ai ja2, AV.sl shInt ja3, AV.sl shFor ja4, AV.str ja5, ai ja6, ai ja7, AV.str ja8, AV.str ja9, AV.sl Sh.expr ja10, AV.sl shVal.sl ja11]] }
theorem ok71p : fnChk (env49).P 71 Tryz.f71 1 := by refine ⟨?_, ?_, ?_, ?_⟩ <;> kernel_rfl
theorem go71p (x0 : Sem shRel) : run (env49) 0 kp71p (Func.results Tryz.f71).toList 400 (bodyOf Tryz.f71) (initSt (Func.ntmps Tryz.f71) [datum shRel x0] []) = Tr.br (!tMay (x0.1.1, x0.1.2.1, x0.1.2.2.1, x0.1.2.2.2.1, x0.1.2.2.2.2.1, etaE x0.1.2.2.2.2.2)) (Tr.ok (Leaf.ret (ai 1) [])) (Tr.br (decide ((↑(List.length x0.2) : Int) > 200)) (Tr.ok (Leaf.ret (ai 13) [])) (Tr.ok (Leaf.head 6 (headK Tryz.f71 6) (s71p_6 x0.2 (↑(List.length x0.2) : Int) 0 x0.1.1 x0.1.2.1 x0.1.2.2.1 x0.1.2.2.2.1 x0.1.2.2.2.2.1 (ExprT.op x0.1.2.2.2.2.2) (ExprT.v x0.1.2.2.2.2.2).1 (ExprT.v x0.1.2.2.2.2.2).2.1 (ExprT.v x0.1.2.2.2.2.2).2.2 (ExprT.s x0.1.2.2.2.2.2) (ExprT.l x0.1.2.2.2.2.2) x0.2)))) := by kernel_rfl
abbrev s71p_15 (l39 : LI) (i40 : Int) (i41 : Int) (ja0 : TS) (ja1 : LC) (ja2 : Sem shInt) (ja3 : LI) (ja4 : LF) (ja5 : Str) (ja6 : Int) (ja7 : Int) (ja8 : Str) (ja9 : Str) (ja10 : LX) (ja11 : List (Sem shVal.sl)) : St := { tmps := [ny, AV.ptr 0 0, ny, ny, ny, ny, ny, ny, ny, ny, ny, ny, ny, ny, ny, ny, ny, ny, ny, ny, ny, ny, ny, ny, ny, ny, ny, ny, ny, ny, ny, ny, ny, ny, ny, ny, ny, ny, ny, AV.sl shInt l39, ai i40, ai i41, ny, ny, ny, ny, ny, ny, ny, ny, ny, ny, ny, ny, ny, ny, ny, ny, ny, ny, ny, ny, ny, ny, ny, ny, ny, ny, ny, ny, ny, ny, ny, ny, ny, ny, ny, ny, ny], heap := [AO.box [AV.str ja0, AV.sl shCol ja1, ai ja2, AV.sl shInt ja3, AV.sl shFor ja4, AV.str ja5, ai ja6, ai ja7, AV.str ja8, AV.str ja9, AV.sl Sh.expr ja10, AV.sl shVal.sl ja11]] }
theorem on71p_6 (l18 : List (Sem shVal.sl)) (i19 : Int) (i20 : Int) (ja0 : TS) (ja1 : LC) (ja2 : Sem shInt) (ja3 : LI) (ja4 : LF) (ja5 : Str) (ja6 : Int) (ja7 : Int) (ja8 : Str) (ja9 : Str) (ja10 : LX) (ja11 : List (Sem shVal.sl)) : run (env49) 0 kp71p (Func.results Tryz.f71).toList 400 (headK Tryz.f71 6) (s71p_6 l18 i19 i20 ja0 ja1 ja2 ja3 ja4 ja5 ja6 ja7 ja8 ja9 ja10 ja11) = Tr.br (decide (i20 < i19)) (Tr.chk (inB i20 l18.length) (Tr.br (tFits (ja0, ja1, ja2, ja3, ja4, ExprT.mk ja5 (ja6, ja7, ja8) ja9 ja10) (l18.getD i20.toNat (dflt shVal.sl)) != 0) (Tr.ok (Leaf.ret (AV.int IntKind.i64 (tFits (ja0, ja1, ja2, ja3, ja4, ExprT.mk ja5 (ja6, ja7, ja8) ja9 ja10) (l18.getD i20.toNat (dflt shVal.sl)))) [])) (Tr.ok (Leaf.head 6 (headK Tryz.f71 6) (s71p_6 l18 i19 (IntKind.i64.wrap (i20 + 1)) ja0 ja1 ja2 ja3 ja4 ja5 ja6 ja7 ja8 ja9 ja10 ja11))))) (Tr.chk (rTwiceC ((ja0, ja1, ja2, ja3, ja4, ExprT.mk ja5 (ja6, ja7, ja8) ja9 ja10), ja11) ja2) (Tr.br (rTwice ((ja0, ja1, ja2, ja3, ja4, ExprT.mk ja5 (ja6, ja7, ja8) ja9 ja10), ja11) ja2) (Tr.ok (Leaf.ret (ai 7) [])) (Tr.ok (Leaf.head 15 (headK Tryz.f71 15) (s71p_15 ja3 (↑ja3.length : Int) 0 ja0 ja1 ja2 ja3 ja4 ja5 ja6 ja7 ja8 ja9 ja10 ja11))))) := by kernel_rfl
abbrev s71p_21 (i8 : Int) (ja0 : TS) (ja1 : LC) (ja2 : Sem shInt) (ja3 : LI) (ja4 : LF) (ja5 : Str) (ja6 : Int) (ja7 : Int) (ja8 : Str) (ja9 : Str) (ja10 : LX) (ja11 : List (Sem shVal.sl)) : St := { tmps := [ny, AV.ptr 0 0, ny, ny, ny, ny, ny, ny, ai i8, ny, ny, ny, ny, ny, ny, ny, ny, ny, ny, ny, ny, ny, ny, ny, ny, ny, ny, ny, ny, ny, ny, ny, ny, ny, ny, ny, ny, ny, ny, ny, ny, ny, ny, ny, ny, ny, ny, ny, ny, ny, ny, ny, ny, ny, ny, ny, ny, ny, ny, ny, ny, ny, ny, ny, ny, ny, ny, ny, ny, ny, ny, ny, ny, ny, ny, ny, ny, ny, ny], heap := [AO.box [AV.str ja0, AV.sl shCol ja1, ai ja2, AV.sl shInt ja3, AV.sl shFor ja4, AV.str ja5, ai ja6, ai ja7, AV.str ja8, AV.str ja9, AV.sl Sh.expr ja10, AV.sl shVal.sl ja11]] }
theorem on71p_15 (l39 : LI) (i40 : Int) (i41 : Int) (ja0 : TS) (ja1 : LC) (ja2 : Sem shInt) (ja3 : LI) (ja4 : LF) (ja5 : Str) (ja6 : Int) (ja7 : Int) (ja8 : Str) (ja9 : Str) (ja10 : LX) (ja11 : List (Sem shVal.sl)) : run (env49) 0 kp71p (Func.results Tryz.f71).toList 400 (headK Tryz.f71 15) (s71p_15 l39 i40 i41 ja0 ja1 ja2 ja3 ja4 ja5 ja6 ja7 ja8 ja9 ja10 ja11) = Tr.br (decide (i41 < i40)) (Tr.chk (inB i41 l39.length) (Tr.chk (rTwiceC ((ja0, ja1, ja2, ja3, ja4, ExprT.mk ja5 (ja6, ja7, ja8) ja9 ja10), ja11) (l39.getD i41.toNat (dflt shInt))) (Tr.br (rTwice ((ja0, ja1, ja2, ja3, ja4, ExprT.mk ja5 (ja6, ja7, ja8) ja9 ja10), ja11) (l39.getD i41.toNat (dflt shInt))) (Tr.ok (Leaf.ret (ai 7) [])) (Tr.ok (Leaf.head 15 (headK Tryz.f71 15) (s71p_15 l39 i40 (IntKind.i64.wrap (i41 + 1)) ja0 ja1 ja2 ja3 ja4 ja5 ja6 ja7 ja8 ja9 ja10 ja11)))))) (Tr.ok (Leaf.head 21 (headK Tryz.f71 21) (s71p_21 1 ja0 ja1 ja2 ja3 ja4 ja5 ja6 ja7 ja8 ja9 ja10 ja11))) := by kernel_rfl
theorem on71p_21 (i8 : Int) (ja0 : TS) (ja1 : LC) (ja2 : Sem shInt) (ja3 : LI) (ja4 : LF) (ja5 : Str) (ja6 : Int) (ja7 : Int) (ja8 : Str) (ja9 : Str) (ja10 : LX) (ja11 : List (Sem shVal.sl)) : run (env49) 0 kp71p (Func.results Tryz.f71).toList 400 (headK Tryz.f71 21) (s71p_21 i8 ja0 ja1 ja2 ja3 ja4 ja5 ja6 ja7 ja8 ja9 ja10 ja11) = Tr.br (decide (i8 < (↑ja11.length : Int))) (Tr.chk (inB (IntKind.i64.wrap (i8 - 1)) ja11.length) (Tr.chk (inB ja2 (List.length (ja11.getD (IntKind.i64.wrap (i8 - 1)).toNat (dflt shVal.sl)))) (Tr.chk (inB i8 ja11.length) (Tr.chk (inB ja2 (List.length (ja11.getD i8.toNat (dflt shVal.sl)))) (Tr.br (decide (vOrder (List.getD (ja11.getD (IntKind.i64.wrap (i8 - 1)).toNat (dflt shVal.sl)) (Int.toNat ja2) (dflt shVal)) (List.getD (ja11.getD i8.toNat (dflt shVal.sl)) (Int.toNat ja2) (dflt shVal)) ≥ 0)) (Tr.ok (Leaf.ret (ai 15) [])) (Tr.ok (Leaf.head 21 (headK Tryz.f71 21) (s71p_21 (IntKind.i64.wrap (i8 + 1)) ja0 ja1 ja2 ja3 ja4 ja5 ja6 ja7 ja8 ja9 ja10 ja11)))))))) (Tr.ok (Leaf.ret (ai 0) [])) := by kernel_rfl
mutual
def rCheck_6 : Nat → (List (Sem shVal.sl)) → Int → Int → (Sem Sh.str) → (List (Sem shCol)) → (Sem shInt) → (List (Sem shInt)) → (List (Sem shFor)) → Str → Int → Int → Str → Str → (List (Sem Sh.expr)) → (List (Sem shVal.sl)) → Sem shInt
 | 0, _, _, _, _, _, _, _, _, _, _, _, _, _, _, _ => default
 | n + 1, l18, i19, i20, ja0, ja1, ja2, ja3, ja4, ja5, ja6, ja7, ja8, ja9, ja10, ja11 => (if decide (i20 < i19) = true then
 if
   (tFits (ja0, ja1, ja2, ja3, ja4, ExprT.mk ja5 (ja6, ja7, ja8) ja9 ja10)
      (l18.getD i20.toNat (dflt shVal.sl)) !=
     0) =
    true then
  tFits (ja0, ja1, ja2, ja3, ja4, ExprT.mk ja5 (ja6, ja7, ja8) ja9 ja10)
   (l18.getD i20.toNat (dflt shVal.sl))
 else rCheck_6 n l18 i19 (IntKind.i64.wrap (i20 + 1)) ja0 ja1 ja2 ja3 ja4 ja5 ja6 ja7 ja8 ja9 ja10 ja11
else
 if rTwice ((ja0, ja1, ja2, ja3, ja4, ExprT.mk ja5 (ja6, ja7, ja8) ja9 ja10), ja11) ja2 = true then 7
 else rCheck_15 n ja3 (↑ja3.length : Int) 0 ja0 ja1 ja2 ja3 ja4 ja5 ja6 ja7 ja8 ja9 ja10 ja11)
def rCheck_15 : Nat → (List (Sem shInt)) → Int → Int → (Sem Sh.str) → (List (Sem shCol)) → (Sem shInt) → (List (Sem shInt)) → (List (Sem shFor)) → Str → Int → Int → Str → Str → (List (Sem Sh.expr)) → (List (Sem shVal.sl)) → Sem shInt
 | 0, _, _, _, _, _, _, _, _, _, _, _, _, _, _, _ => default
 | n + 1, l39, i40, i41, ja0, ja1, ja2, ja3, ja4, ja5, ja6, ja7, ja8, ja9, ja10, ja11 => (if decide (i41 < i40) = true then
 if
   rTwice ((ja0, ja1, ja2, ja3, ja4, ExprT.mk ja5 (ja6, ja7, ja8) ja9 ja10), ja11)
     (l39.getD i41.toNat (dflt shInt)) =
    true then
  7
 else rCheck_15 n l39 i40 (IntKind.i64.wrap (i41 + 1)) ja0 ja1 ja2 ja3 ja4 ja5 ja6 ja7 ja8 ja9 ja10 ja11
else rCheck_21 n 1 ja0 ja1 ja2 ja3 ja4 ja5 ja6 ja7 ja8 ja9 ja10 ja11)
def rCheck_21 : Nat → Int → (Sem Sh.str) → (List (Sem shCol)) → (Sem shInt) → (List (Sem shInt)) → (List (Sem shFor)) → Str → Int → Int → Str → Str → (List (Sem Sh.expr)) → (List (Sem shVal.sl)) → Sem shInt
 | 0, _, _, _, _, _, _, _, _, _, _, _, _, _ => default
 | n + 1, i8, ja0, ja1, ja2, ja3, ja4, ja5, ja6, ja7, ja8, ja9, ja10, ja11 => (if decide (i8 < (↑ja11.length : Int)) = true then
 if
   decide
     (vOrder
       (List.getD (ja11.getD (IntKind.i64.wrap (i8 - 1)).toNat (dflt shVal.sl))
        (Int.toNat ja2) (dflt shVal))
       (List.getD (ja11.getD i8.toNat (dflt shVal.sl)) (Int.toNat ja2)
        (dflt shVal)) ≥
      0) =
    true then
  15
 else rCheck_21 n (IntKind.i64.wrap (i8 + 1)) ja0 ja1 ja2 ja3 ja4 ja5 ja6 ja7 ja8 ja9 ja10 ja11
else 0)
end
mutual
def rCheckC_6 : Nat → (List (Sem shVal.sl)) → Int → Int → (Sem Sh.str) → (List (Sem shCol)) → (Sem shInt) → (List (Sem shInt)) → (List (Sem shFor)) → Str → Int → Int → Str → Str → (List (Sem Sh.expr)) → (List (Sem shVal.sl)) → Bool
 | 0, _, _, _, _, _, _, _, _, _, _, _, _, _, _, _ => false
 | n + 1, l18, i19, i20, ja0, ja1, ja2, ja3, ja4, ja5, ja6, ja7, ja8, ja9, ja10, ja11 => (if decide (i20 < i19) = true then
 if inB i20 l18.length = true then
  if
    (tFits (ja0, ja1, ja2, ja3, ja4, ExprT.mk ja5 (ja6, ja7, ja8) ja9 ja10)
       (l18.getD i20.toNat (dflt shVal.sl)) !=
      0) =
     true then
   true
  else rCheckC_6 n l18 i19 (IntKind.i64.wrap (i20 + 1)) ja0 ja1 ja2 ja3 ja4 ja5 ja6 ja7 ja8 ja9 ja10 ja11
 else false
else
 if rTwiceC ((ja0, ja1, ja2, ja3, ja4, ExprT.mk ja5 (ja6, ja7, ja8) ja9 ja10), ja11) ja2 = true then
  if rTwice ((ja0, ja1, ja2, ja3, ja4, ExprT.mk ja5 (ja6, ja7, ja8) ja9 ja10), ja11) ja2 = true then true
  else rCheckC_15 n ja3 (↑ja3.length : Int) 0 ja0 ja1 ja2 ja3 ja4 ja5 ja6 ja7 ja8 ja9 ja10 ja11
 else false)
def rCheckC_15 : Nat → (List (Sem shInt)) → Int → Int → (Sem Sh.str) → (List (Sem shCol)) → (Sem shInt) → (List (Sem shInt)) → (List (Sem shFor)) → Str → Int → Int → Str → Str → (List (Sem Sh.expr)) → (List (Sem shVal.sl)) → Bool
 | 0, _, _, _, _, _, _, _, _, _, _, _, _, _, _, _ => false
 | n + 1, l39, i40, i41, ja0, ja1, ja2, ja3, ja4, ja5, ja6, ja7, ja8, ja9, ja10, ja11 => (if decide (i41 < i40) = true then
 if inB i41 l39.length = true then
  if
    rTwiceC ((ja0, ja1, ja2, ja3, ja4, ExprT.mk ja5 (ja6, ja7, ja8) ja9 ja10), ja11)
      (l39.getD i41.toNat (dflt shInt)) =
     true then
   if
     rTwice ((ja0, ja1, ja2, ja3, ja4, ExprT.mk ja5 (ja6, ja7, ja8) ja9 ja10), ja11)
       (l39.getD i41.toNat (dflt shInt)) =
      true then
    true
   else rCheckC_15 n l39 i40 (IntKind.i64.wrap (i41 + 1)) ja0 ja1 ja2 ja3 ja4 ja5 ja6 ja7 ja8 ja9 ja10 ja11
  else false
 else false
else rCheckC_21 n 1 ja0 ja1 ja2 ja3 ja4 ja5 ja6 ja7 ja8 ja9 ja10 ja11)
def rCheckC_21 : Nat → Int → (Sem Sh.str) → (List (Sem shCol)) → (Sem shInt) → (List (Sem shInt)) → (List (Sem shFor)) → Str → Int → Int → Str → Str → (List (Sem Sh.expr)) → (List (Sem shVal.sl)) → Bool
 | 0, _, _, _, _, _, _, _, _, _, _, _, _, _ => false
 | n + 1, i8, ja0, ja1, ja2, ja3, ja4, ja5, ja6, ja7, ja8, ja9, ja10, ja11 => (if decide (i8 < (↑ja11.length : Int)) = true then
 if inB (IntKind.i64.wrap (i8 - 1)) ja11.length = true then
  if
    inB ja2 (List.length (ja11.getD (IntKind.i64.wrap (i8 - 1)).toNat (dflt shVal.sl))) =
     true then
   if inB i8 ja11.length = true then
    if inB ja2 (List.length (ja11.getD i8.toNat (dflt shVal.sl))) = true then
     if
       decide
         (vOrder
           (List.getD (ja11.getD (IntKind.i64.wrap (i8 - 1)).toNat (dflt shVal.sl))
            (Int.toNat ja2) (dflt shVal))
           (List.getD (ja11.getD i8.toNat (dflt shVal.sl)) (Int.toNat ja2)
            (dflt shVal)) ≥
          0) =
        true then
      true
     else rCheckC_21 n (IntKind.i64.wrap (i8 + 1)) ja0 ja1 ja2 ja3 ja4 ja5 ja6 ja7 ja8 ja9 ja10 ja11
    else false
   else false
  else false
 else false
else true)
end
mutual
theorem at71p_6 {C : Ctx} (hC : ∀ id, C.ρ0 id = none) : ∀ (n : Nat) (l18 : List (Sem shVal.sl)) (i19 : Int) (i20 : Int) (ja0 : TS) (ja1 : LC) (ja2 : Sem shInt) (ja3 : LI) (ja4 : LF) (ja5 : Str) (ja6 : Int) (ja7 : Int) (ja8 : Str) (ja9 : Str) (ja10 : LX) (ja11 : List (Sem shVal.sl)), rCheckC_6 n l18 i19 i20 ja0 ja1 ja2 ja3 ja4 ja5 ja6 ja7 ja8 ja9 ja10 ja11 = true →
  Reach (env49) C 71 (headK Tryz.f71 6) (s71p_6 l18 i19 i20 ja0 ja1 ja2 ja3 ja4 ja5 ja6 ja7 ja8 ja9 ja10 ja11) (fun r h => resOf h [shInt] r = some (rCheck_6 n l18 i19 i20 ja0 ja1 ja2 ja3 ja4 ja5 ja6 ja7 ja8 ja9 ja10 ja11, ()))
 | 0, l18, i19, i20, ja0, ja1, ja2, ja3, ja4, ja5, ja6, ja7, ja8, ja9, ja10, ja11, hc => by cases hc
 | n + 1, l18, i19, i20, ja0, ja1, ja2, ja3, ja4, ja5, ja6, ja7, ja8, ja9, ja10, ja11, hc => by
  refine reach_ok env49_all env49_mix (ok71p) (fun id _ => hC id) (on71p_6 _ _ _ _ _ _ _ _ _ _ _ _ _ _ _) ?_
  rw [rCheckC_6] at hc
  generalize hy : rCheck_6 (n + 1) l18 i19 i20 ja0 ja1 ja2 ja3 ja4 ja5 ja6 ja7 ja8 ja9 ja10 ja11 = y
  rw [rCheck_6] at hy
  try simp only [ExprT.eta, etaE_eq]
  repeat' (first | with_reducible refine obr hy hc (fun _ hy hc => ?_) (fun _ hy hc => ?_) | with_reducible refine obr1 hy (fun _ hy => ?_) (fun _ hy => ?_) | with_reducible refine ochk hc (fun hc => ?_) | with_reducible refine OptOk_chkT ?_)
  all_goals first | (cases hc; done) | (subst hy; first | (change Reach _ _ _ _ _ _; refine at71p_6 hC n _ _ _ _ _ _ _ _ _ _ _ _ _ _ _ ?_ <;> exact hc) | (change Reach _ _ _ _ _ _; refine at71p_15 hC n _ _ _ _ _ _ _ _ _ _ _ _ _ _ _ ?_ <;> exact hc) | (change Reach _ _ _ _ _ _; refine at71p_21 hC n _ _ _ _ _ _ _ _ _ _ _ _ _ ?_ <;> exact hc) | rfl)
theorem at71p_15 {C : Ctx} (hC : ∀ id, C.ρ0 id = none) : ∀ (n : Nat) (l39 : LI) (i40 : Int) (i41 : Int) (ja0 : TS) (ja1 : LC) (ja2 : Sem shInt) (ja3 : LI) (ja4 : LF) (ja5 : Str) (ja6 : Int) (ja7 : Int) (ja8 : Str) (ja9 : Str) (ja10 : LX) (ja11 : List (Sem shVal.sl)), rCheckC_15 n l39 i40 i41 ja0 ja1 ja2 ja3 ja4 ja5 ja6 ja7 ja8 ja9 ja10 ja11 = true →
  Reach (env49) C 71 (headK Tryz.f71 15) (s71p_15 l39 i40 i41 ja0 ja1 ja2 ja3 ja4 ja5 ja6 ja7 ja8 ja9 ja10 ja11) (fun r h => resOf h [shInt] r = some (rCheck_15 n l39 i40 i41 ja0 ja1 ja2 ja3 ja4 ja5 ja6 ja7 ja8 ja9 ja10 ja11, ()))
 | 0, l39, i40, i41, ja0, ja1, ja2, ja3, ja4, ja5, ja6, ja7, ja8, ja9, ja10, ja11, hc => by cases hc
 | n + 1, l39, i40, i41, ja0, ja1, ja2, ja3, ja4, ja5, ja6, ja7, ja8, ja9, ja10, ja11, hc => by
  refine reach_ok env49_all env49_mix (ok71p) (fun id _ => hC id) (on71p_15 _ _ _ _ _ _ _ _ _ _ _ _ _ _ _) ?_
  rw [rCheckC_15] at hc
  generalize hy : rCheck_15 (n + 1) l39 i40 i41 ja0 ja1 ja2 ja3 ja4 ja5 ja6 ja7 ja8 ja9 ja10 ja11 = y
  rw [rCheck_15] at hy
  try simp only [ExprT.eta, etaE_eq]
  repeat' (first | with_reducible refine obr hy hc (fun _ hy hc => ?_) (fun _ hy hc => ?_) | with_reducible refine obr1 hy (fun _ hy => ?_) (fun _ hy => ?_) | with_reducible refine ochk hc (fun hc => ?_) | with_reducible refine OptOk_chkT ?_)
  all_goals first | (cases hc; done) | (subst hy; first | (change Reach _ _ _ _ _ _; refine at71p_6 hC n _ _ _ _ _ _ _ _ _ _ _ _ _ _ _ ?_ <;> exact hc) | (change Reach _ _ _ _ _ _; refine at71p_15 hC n _ _ _ _ _ _ _ _ _ _ _ _ _ _ _ ?_ <;> exact hc) | (change Reach _ _ _ _ _ _; refine at71p_21 hC n _ _ _ _ _ _ _ _ _ _ _ _ _ ?_ <;> exact hc) | rfl)
theorem at71p_21 {C : Ctx} (hC : ∀ id, C.ρ0 id = none) : ∀ (n : Nat) (i8 : Int) (ja0 : TS) (ja1 : LC) (ja2 : Sem shInt) (ja3 : LI) (ja4 : LF) (ja5 : Str) (ja6 : Int) (ja7 : Int) (ja8 : Str) (ja9 : Str) (ja10 : LX) (ja11 : List (Sem shVal.sl)), rCheckC_21 n i8 ja0 ja1 ja2 ja3 ja4 ja5 ja6 ja7 ja8 ja9 ja10 ja11 = true →
  Reach (env49) C 71 (headK Tryz.f71 21) (s71p_21 i8 ja0 ja1 ja2 ja3 ja4 ja5 ja6 ja7 ja8 ja9 ja10 ja11) (fun r h => resOf h [shInt] r = some (rCheck_21 n i8 ja0 ja1 ja2 ja3 ja4 ja5 ja6 ja7 ja8 ja9 ja10 ja11, ()))
 | 0, i8, ja0, ja1, ja2, ja3, ja4, ja5, ja6, ja7, ja8, ja9, ja10, ja11, hc => by cases hc
 | n + 1, i8, ja0, ja1, ja2, ja3, ja4, ja5, ja6, ja7, ja8, ja9, ja10, ja11, hc => by
  refine reach_ok env49_all env49_mix (ok71p) (fun id _ => hC id) (on71p_21 _ _ _ _ _ _ _ _ _ _ _ _ _) ?_
  rw [rCheckC_21] at hc
  generalize hy : rCheck_21 (n + 1) i8 ja0 ja1 ja2 ja3 ja4 ja5 ja6 ja7 ja8 ja9 ja10 ja11 = y
  rw [rCheck_21] at hy
  try simp only [ExprT.eta, etaE_eq]
  repeat' (first | with_reducible refine obr hy hc (fun _ hy hc => ?_) (fun _ hy hc => ?_) | with_reducible refine obr1 hy (fun _ hy => ?_) (fun _ hy => ?_) | with_reducible refine ochk hc (fun hc => ?_) | with_reducible refine OptOk_chkT ?_)
  all_goals first | (cases hc; done) | (subst hy; first | (change Reach _ _ _ _ _ _; refine at71p_6 hC n _ _ _ _ _ _ _ _ _ _ _ _ _ _ _ ?_ <;> exact hc) | (change Reach _ _ _ _ _ _; refine at71p_15 hC n _ _ _ _ _ _ _ _ _ _ _ _ _ _ _ ?_ <;> exact hc) | (change Reach _ _ _ _ _ _; refine at71p_21 hC n _ _ _ _ _ _ _ _ _ _ _ _ _ ?_ <;> exact hc) | rfl)
end
def rCheck (x0 : Sem shRel) : Sem shInt := (if (!tMay x0.1) = true then 1 else if decide ((↑(List.length x0.2) : Int) > 200) = true then 13 else rCheck_6 100000000 x0.2 (↑(List.length x0.2) : Int) 0 x0.1.1 x0.1.2.1 x0.1.2.2.1 x0.1.2.2.2.1 x0.1.2.2.2.2.1 (ExprT.op x0.1.2.2.2.2.2) (ExprT.v x0.1.2.2.2.2.2).1 (ExprT.v x0.1.2.2.2.2.2).2.1 (ExprT.v x0.1.2.2.2.2.2).2.2 (ExprT.s x0.1.2.2.2.2.2) (ExprT.l x0.1.2.2.2.2.2) x0.2)
def rCheckC (x0 : Sem shRel) : Bool := (if (!tMay x0.1) = true then true else if decide ((↑(List.length x0.2) : Int) > 200) = true then true else rCheckC_6 100000000 x0.2 (↑(List.length x0.2) : Int) 0 x0.1.1 x0.1.2.1 x0.1.2.2.1 x0.1.2.2.2.1 x0.1.2.2.2.2.1 (ExprT.op x0.1.2.2.2.2.2) (ExprT.v x0.1.2.2.2.2.2).1 (ExprT.v x0.1.2.2.2.2.2).2.1 (ExprT.v x0.1.2.2.2.2.2).2.2 (ExprT.s x0.1.2.2.2.2.2) (ExprT.l x0.1.2.2.2.2.2) x0.2)
def F71p : FSem := plainC [shRel] [shInt] (fun x => rCheckC x.1) fun x => (rCheck x.1, ())
theorem FOk71p : FOk (env49).P (env49).gl 71 F71p := by
 refine FOk_plainC (ok71p) fun x hc C hC => ?_
 unfold rCheckC at hc
 refine reach_ok env49_all env49_mix (ok71p) (fun id _ => hC id) (go71p x.1) ?_
 generalize hy : rCheck x.1 = y
 unfold rCheck at hy
 try simp only [ExprT.eta]
 repeat' (first | with_reducible refine obr hy hc (fun _ hy hc => ?_) (fun _ hy hc => ?_) | with_reducible refine obr1 hy (fun _ hy => ?_) (fun _ hy => ?_) | with_reducible refine ochk hc (fun hc => ?_) | with_reducible refine OptOk_chkT ?_)
 all_goals first | (cases hc; done) | (subst hy; first | (change Reach _ _ _ _ _ _; refine at71p_6 hC _ _ _ _ _ _ _ _ _ _ _ _ _ _ _ _ ?_ <;> exact hc) | (change Reach _ _ _ _ _ _; refine at71p_15 hC _ _ _ _ _ _ _ _ _ _ _ _ _ _ _ _ ?_ <;> exact hc) | (change Reach _ _ _ _ _ _; refine at71p_21 hC _ _ _ _ _ _ _ _ _ _ _ _ _ _ ?_ <;> exact hc) | rfl)

noncomputable def env50 : Env := ((env49.add 124 F124p).add 71 F71p)
theorem env50_all : EnvAll env50 := (EnvAll.addS (EnvAll.addS env49_all (SameE.refl env49) FOk124p) ((SameE.refl env49).add _ _) FOk71p)
theorem env50_mix : env50.P.follows .mixedOrders = true := (mix_add (mix_add env49_mix _ _) _ _)
open Go Go.Proofs
set_option maxHeartbeats 4000000

abbrev kp72p : Nat → Keep := fun j => if j = 2 then { slots := [0, 11, 12, 13] } else if j = 5 then { slots := [0, 4, 11, 12, 13, 19, 20, 21] } else if j = 11 then { slots := [0, 4, 6, 7, 11, 12, 13, 19, 20, 21, 32, 33, 34] } else { }
abbrev s72p_2 (l0 : List (Sem shRel)) (l11 : List (Sem shRel)) (i12 : Int) (i13 : Int) : St := { tmps := [AV.sl shRel l0, ny, ny, ny, ny, ny, ny, ny, ny, ny, ny, AV.sl shRel l11, ai i12, ai i13, ny, ny, ny, ny, ny, ny, ny, ny, ny, ny, ny, ny, ny, ny, ny, ny, ny, ny, ny, ny, ny, ny, ny, ny, ny, ny, ny, ny, ny, ny, ny, ny, ny, ny, ny, ny, ny, ny, ny, ny, ny, ny, ny, ny, ny, ny, ny, ny, ny, ny], heap := [] }
theorem ok72p : fnChk (env50).P 72 Tryz.f72 1 := by refine ⟨?_, ?_, ?_, ?_⟩ <;> kernel_rfl
theorem go72p (x0 : Sem shRel.sl) : run (env50) 0 kp72p (Func.results Tryz.f72).toList 400 (bodyOf Tryz.f72) (initSt (Func.ntmps Tryz.f72) [datum shRel.sl x0] []) = Tr.ok (Leaf.head 2 (headK Tryz.f72 2) (s72p_2 x0 x0 (↑(List.length x0) : Int) 0)) := by kernel_rfl
abbrev s72p_5 (l0 : List (Sem shRel)) (l11 : List (Sem shRel)) (i12 : Int) (i13 : Int) (l19 : LF) (i20 : Int) (i21 : Int) (ja0 : TS) (ja1 : LC) (ja2 : Sem shInt) (ja3 : LI) (ja4 : LF) (ja5 : Str) (ja6 : Int) (ja7 : Int) (ja8 : Str) (ja9 : Str) (ja10 : LX) (ja11 : List (Sem shVal.sl)) : St := { tmps := [AV.sl shRel l0, ny, ny, ny, AV.ptr 0 0, ny, ny, ny, ny, ny, ny, AV.sl shRel l11, ai i12, ai i13, ny, ny, ny, ny, ny, AV.sl shFor l19, ai i20, ai i21, ny, ny, ny, ny, ny, ny, ny, ny, ny, ny, ny, ny, ny, ny, ny, ny, ny, ny, ny, ny, ny, ny, ny, ny, ny, ny, ny, ny, ny, ny, ny, ny, ny, ny, ny, ny, ny, ny, ny, ny, ny, ny], heap := [AO.box [AV.str ja0, AV.sl shCol ja1, ai ja2, AV.sl shInt ja3, AV.sl shFor ja4, AV.str ja5, ai ja6, ai ja7, AV.str ja8, AV.str ja9, AV.sl Sh.expr ja10, AV.sl shVal.sl ja11]] }
theorem on72p_2 (l0 : List (Sem shRel)) (l11 : List (Sem shRel)) (i12 : Int) (i13 : Int) : run (env50) 0 kp72p (Func.results Tryz.f72).toList 400 (headK Tryz.f72 2) (s72p_2 l0 l11 i12 i13) = Tr.br (decide (i13 < i12)) (Tr.chk (inB i13 l11.length) (Tr.ok (Leaf.head 5 (headK Tryz.f72 5) (s72p_5 l0 l11 i12 i13 (l11.getD i13.toNat (dflt shRel)).1.2.2.2.2.1 (↑(List.length (l11.getD i13.toNat (dflt shRel)).1.2.2.2.2.1) : Int) 0 (l11.getD i13.toNat (dflt shRel)).1.1 (l11.getD i13.toNat (dflt shRel)).1.2.1 (l11.getD i13.toNat (dflt shRel)).1.2.2.1 (l11.getD i13.toNat (dflt shRel)).1.2.2.2.1 (l11.getD i13.toNat (dflt shRel)).1.2.2.2.2.1 (ExprT.op (l11.getD i13.toNat (dflt shRel)).1.2.2.2.2.2) (ExprT.v (l11.getD i13.toNat (dflt shRel)).1.2.2.2.2.2).1 (ExprT.v (l11.getD i13.toNat (dflt shRel)).1.2.2.2.2.2).2.1 (ExprT.v (l11.getD i13.toNat (dflt shRel)).1.2.2.2.2.2).2.2 (ExprT.s (l11.getD i13.toNat (dflt shRel)).1.2.2.2.2.2) (ExprT.l (l11.getD i13.toNat (dflt shRel)).1.2.2.2.2.2) (l11.getD i13.toNat (dflt shRel)).2)))) (Tr.ok (Leaf.ret (AV.kb true) [])) := by kernel_rfl
abbrev s72p_11 (l0 : List (Sem shRel)) (i7 : Sem shInt) (l11 : List (Sem shRel)) (i12 : Int) (i13 : Int) (l19 : LF) (i20 : Int) (i21 : Int) (l32 : List (Sem shVal.sl)) (i33 : Int) (i34 : Int) (ja0 : TS) (ja1 : LC) (ja2 : Sem shInt) (ja3 : LI) (ja4 : LF) (ja5 : Str) (ja6 : Int) (ja7 : Int) (ja8 : Str) (ja9 : Str) (ja10 : LX) (ja11 : List (Sem shVal.sl)) (jb0 : Sem shInt) (jb1 : TS) : St := { tmps := [AV.sl shRel l0, ny, ny, ny, AV.ptr 0 0, ny, AV.ptr 1 0, ai i7, ny, ny, ny, AV.sl shRel l11, ai i12, ai i13, ny, ny, ny, ny, ny, AV.sl shFor l19, ai i20, ai i21, ny, ny, ny, ny, ny, ny, ny, ny, ny, ny, AV.sl shVal.sl l32, ai i33, ai i34, ny, ny, ny, ny, ny, ny, ny, ny, ny, ny, ny, ny, ny, ny, ny, ny, ny, ny, ny, ny, ny, ny, ny, ny, ny, ny, ny, ny, ny], heap := [AO.box [AV.str ja0, AV.sl shCol ja1, ai ja2, AV.sl shInt ja3, AV.sl shFor ja4, AV.str ja5, ai ja6, ai ja7, AV.str ja8, AV.str ja9, AV.sl Sh.expr ja10, AV.sl shVal.sl ja11], AO.box [ai jb0, AV.str jb1]] }
theorem on72p_5 (l0 : List (Sem shRel)) (l11 : List (Sem shRel)) (i12 : Int) (i13 : Int) (l19 : LF) (i20 : Int) (i21 : Int) (ja0 : TS) (ja1 : LC) (ja2 : Sem shInt) (ja3 : LI) (ja4 : LF) (ja5 : Str) (ja6 : Int) (ja7 : Int) (ja8 : Str) (ja9 : Str) (ja10 : LX) (ja11 : List (Sem shVal.sl)) : run (env50) 0 kp72p (Func.results Tryz.f72).toList 400 (headK Tryz.f72 5) (s72p_5 l0 l11 i12 i13 l19 i20 i21 ja0 ja1 ja2 ja3 ja4 ja5 ja6 ja7 ja8 ja9 ja10 ja11) = Tr.br (decide (i21 < i20)) (Tr.chk (inB i21 l19.length) (Tr.br (decide (bFind l0 (l19.getD i21.toNat (dflt shFor)).2 < 0)) (Tr.ok (Leaf.ret (AV.kb false) [])) (Tr.ok (Leaf.head 11 (headK Tryz.f72 11) (s72p_11 l0 (bFind l0 (l19.getD i21.toNat (dflt shFor)).2) l11 i12 i13 l19 i20 i21 ja11 (↑ja11.length : Int) 0 ja0 ja1 ja2 ja3 ja4 ja5 ja6 ja7 ja8 ja9 ja10 ja11 (l19.getD i21.toNat (dflt shFor)).1 (l19.getD i21.toNat (dflt shFor)).2))))) (Tr.ok (Leaf.head 2 (headK Tryz.f72 2) (s72p_2 l0 l11 i12 (IntKind.i64.wrap (i13 + 1))))) := by kernel_rfl
theorem on72p_11 (l0 : List (Sem shRel)) (i7 : Sem shInt) (l11 : List (Sem shRel)) (i12 : Int) (i13 : Int) (l19 : LF) (i20 : Int) (i21 : Int) (l32 : List (Sem shVal.sl)) (i33 : Int) (i34 : Int) (ja0 : TS) (ja1 : LC) (ja2 : Sem shInt) (ja3 : LI) (ja4 : LF) (ja5 : Str) (ja6 : Int) (ja7 : Int) (ja8 : Str) (ja9 : Str) (ja10 : LX) (ja11 : List (Sem shVal.sl)) (jb0 : Sem shInt) (jb1 : TS) : run (env50) 0 kp72p (Func.results Tryz.f72).toList 400 (headK Tryz.f72 11) (s72p_11 l0 i7 l11 i12 i13 l19 i20 i21 l32 i33 i34 ja0 ja1 ja2 ja3 ja4 ja5 ja6 ja7 ja8 ja9 ja10 ja11 jb0 jb1) = Tr.br (decide (i34 < i33)) (Tr.chk (inB i34 l32.length) (Tr.chk (inB jb0 (List.length (l32.getD i34.toNat (dflt shVal.sl)))) (Tr.chk (bif (List.getD (l32.getD i34.toNat (dflt shVal.sl)) (Int.toNat jb0) (dflt shVal)).1 != 0 then inB i7 l0.length && inB i7 l0.length else true) (Tr.br (bif (List.getD (l32.getD i34.toNat (dflt shVal.sl)) (Int.toNat jb0) (dflt shVal)).1 != 0 then !rHas (((l0.getD (Int.toNat i7) (dflt shRel)).1.1, (l0.getD (Int.toNat i7) (dflt shRel)).1.2.1, (l0.getD (Int.toNat i7) (dflt shRel)).1.2.2.1, (l0.getD (Int.toNat i7) (dflt shRel)).1.2.2.2.1, (l0.getD (Int.toNat i7) (dflt shRel)).1.2.2.2.2.1, ExprT.mk (ExprT.op (l0.getD (Int.toNat i7) (dflt shRel)).1.2.2.2.2.2) (ExprT.v (l0.getD (Int.toNat i7) (dflt shRel)).1.2.2.2.2.2) (ExprT.s (l0.getD (Int.toNat i7) (dflt shRel)).1.2.2.2.2.2) (ExprT.l
 (l0.getD (Int.toNat i7) (dflt shRel)).1.2.2.2.2.2)), (l0.getD (Int.toNat i7) (dflt shRel)).2) (l0.getD (Int.toNat i7) (dflt shRel)).1.2.2.1 (List.getD (l32.getD i34.toNat (dflt shVal.sl)) (Int.toNat jb0) (dflt shVal)) else false) (Tr.ok (Leaf.ret (AV.kb false) [])) (Tr.ok (Leaf.head 11 (headK Tryz.f72 11) (s72p_11 l0 i7 l11 i12 i13 l19 i20 i21 l32 i33 (IntKind.i64.wrap (i34 + 1)) ja0 ja1 ja2 ja3 ja4 ja5 ja6 ja7 ja8 ja9 ja10 ja11 jb0 jb1))))))) (Tr.ok (Leaf.head 5 (headK Tryz.f72 5) (s72p_5 l0 l11 i12 i13 l19 i20 (IntKind.i64.wrap (i21 + 1)) ja0 ja1 ja2 ja3 ja4 ja5 ja6 ja7 ja8 ja9 ja10 ja11))) := by kernel_rfl
mutual
def bBound_2 : Nat → (List (Sem shRel)) → (List (Sem shRel)) → Int → Int → Sem Sh.bool
 | 0, _, _, _, _ => default
 | n + 1, l0, l11, i12, i13 => (if decide (i13 < i12) = true then
 bBound_5 n l0 l11 i12 i13
  (l11.getD i13.toNat
         (dflt shRel)).1.2.2.2.2.1
  (↑(List.length
     (l11.getD i13.toNat
            (dflt shRel)).1.2.2.2.2.1) :
   Int)
  0
  (l11.getD i13.toNat
     (dflt shRel)).1.1
  (l11.getD i13.toNat
      (dflt shRel)).1.2.1
  (l11.getD i13.toNat
       (dflt shRel)).1.2.2.1
  (l11.getD i13.toNat
        (dflt shRel)).1.2.2.2.1
  (l11.getD i13.toNat
         (dflt shRel)).1.2.2.2.2.1
  (ExprT.op
   (l11.getD i13.toNat
          (dflt shRel)).1.2.2.2.2.2)
  (ExprT.v
    (l11.getD i13.toNat
           (dflt shRel)).1.2.2.2.2.2).1
  (ExprT.v
     (l11.getD i13.toNat
            (dflt shRel)).1.2.2.2.2.2).2.1
  (ExprT.v
     (l11.getD i13.toNat
            (dflt shRel)).1.2.2.2.2.2).2.2
  (ExprT.s
   (l11.getD i13.toNat
          (dflt shRel)).1.2.2.2.2.2)
  (ExprT.l
   (l11.getD i13.toNat
          (dflt shRel)).1.2.2.2.2.2)
  (l11.getD i13.toNat
    (dflt shRel)).2
else true)
def bBound_5 : Nat → (List (Sem shRel)) → (List (Sem shRel)) → Int → Int → (List (Sem shFor)) → Int → Int → (Sem Sh.str) → (List (Sem shCol)) → (Sem shInt) → (List (Sem shInt)) → (List (Sem shFor)) → Str → Int → Int → Str → Str → (List (Sem Sh.expr)) → (List (Sem shVal.sl)) → Sem Sh.bool
 | 0, _, _, _, _, _, _, _, _, _, _, _, _, _, _, _, _, _, _, _ => default
 | n + 1, l0, l11, i12, i13, l19, i20, i21, ja0, ja1, ja2, ja3, ja4, ja5, ja6, ja7, ja8, ja9, ja10, ja11 => (if decide (i21 < i20) = true then
 if decide (bFind l0 (l19.getD i21.toNat (dflt shFor)).2 < 0) = true then false
 else
  bBound_11 n l0 (bFind l0 (l19.getD i21.toNat (dflt shFor)).2) l11 i12 i13 l19 i20 i21 ja11 (↑ja11.length : Int) 0 ja0
   ja1 ja2 ja3 ja4 ja5 ja6 ja7 ja8 ja9 ja10 ja11 (l19.getD i21.toNat (dflt shFor)).1
   (l19.getD i21.toNat (dflt shFor)).2
else bBound_2 n l0 l11 i12 (IntKind.i64.wrap (i13 + 1)))
def bBound_11 : Nat → (List (Sem shRel)) → (Sem shInt) → (List (Sem shRel)) → Int → Int → (List (Sem shFor)) → Int → Int → (List (Sem shVal.sl)) → Int → Int → (Sem Sh.str) → (List (Sem shCol)) → (Sem shInt) → (List (Sem shInt)) → (List (Sem shFor)) → Str → Int → Int → Str → Str → (List (Sem Sh.expr)) → (List (Sem shVal.sl)) → (Sem shInt) → (Sem Sh.str) → Sem Sh.bool
 | 0, _, _, _, _, _, _, _, _, _, _, _, _, _, _, _, _, _, _, _, _, _, _, _, _, _ => default
 | n + 1, l0, i7, l11, i12, i13, l19, i20, i21, l32, i33, i34, ja0, ja1, ja2, ja3, ja4, ja5, ja6, ja7, ja8, ja9, ja10, ja11, jb0, jb1 => (if decide (i34 < i33) = true then
 if
   (bif
      (List.getD (l32.getD i34.toNat (dflt shVal.sl)) (Int.toNat jb0)
         (dflt shVal)).1 !=
       0 then
     !rHas
       (l0.getD (Int.toNat i7)
        (dflt shRel))
       (l0.getD (Int.toNat i7)
            (dflt shRel)).1.2.2.1
       (List.getD (l32.getD i34.toNat (dflt shVal.sl)) (Int.toNat jb0)
        (dflt shVal))
    else false) =
    true then
  false
 else
  bBound_11 n l0 i7 l11 i12 i13 l19 i20 i21 l32 i33 (IntKind.i64.wrap (i34 + 1)) ja0 ja1 ja2 ja3 ja4 ja5 ja6 ja7 ja8 ja9 ja10
   ja11 jb0 jb1
else bBound_5 n l0 l11 i12 i13 l19 i20 (IntKind.i64.wrap (i21 + 1)) ja0 ja1 ja2 ja3 ja4 ja5 ja6 ja7 ja8 ja9 ja10 ja11)
end
mutual
def bBoundC_2 : Nat → (List (Sem shRel)) → (List (Sem shRel)) → Int → Int → Bool
 | 0, _, _, _, _ => false
 | n + 1, l0, l11, i12, i13 => (if decide (i13 < i12) = true then
 if inB i13 l11.length = true then
  bBoundC_5 n l0 l11 i12 i13
   (l11.getD i13.toNat
          (dflt shRel)).1.2.2.2.2.1
   (↑(List.length
      (l11.getD i13.toNat
             (dflt shRel)).1.2.2.2.2.1) :
    Int)
   0
   (l11.getD i13.toNat
      (dflt shRel)).1.1
   (l11.getD i13.toNat
       (dflt shRel)).1.2.1
   (l11.getD i13.toNat
        (dflt shRel)).1.2.2.1
   (l11.getD i13.toNat
         (dflt shRel)).1.2.2.2.1
   (l11.getD i13.toNat
          (dflt shRel)).1.2.2.2.2.1
   (ExprT.op
    (l11.getD i13.toNat
           (dflt shRel)).1.2.2.2.2.2)
   (ExprT.v
     (l11.getD i13.toNat
            (dflt shRel)).1.2.2.2.2.2).1
   (ExprT.v
      (l11.getD i13.toNat
             (dflt shRel)).1.2.2.2.2.2).2.1
   (ExprT.v
      (l11.getD i13.toNat
             (dflt shRel)).1.2.2.2.2.2).2.2
   (ExprT.s
    (l11.getD i13.toNat
           (dflt shRel)).1.2.2.2.2.2)
   (ExprT.l
    (l11.getD i13.toNat
           (dflt shRel)).1.2.2.2.2.2)
   (l11.getD i13.toNat
     (dflt shRel)).2
 else false
else true)
def bBoundC_5 : Nat → (List (Sem shRel)) → (List (Sem shRel)) → Int → Int → (List (Sem shFor)) → Int → Int → (Sem Sh.str) → (List (Sem shCol)) → (Sem shInt) → (List (Sem shInt)) → (List (Sem shFor)) → Str → Int → Int → Str → Str → (List (Sem Sh.expr)) → (List (Sem shVal.sl)) → Bool
 | 0, _, _, _, _, _, _, _, _, _, _, _, _, _, _, _, _, _, _, _ => false
 | n + 1, l0, l11, i12, i13, l19, i20, i21, ja0, ja1, ja2, ja3, ja4, ja5, ja6, ja7, ja8, ja9, ja10, ja11 => (if decide (i21 < i20) = true then
 if inB i21 l19.length = true then
  if decide (bFind l0 (l19.getD i21.toNat (dflt shFor)).2 < 0) = true then true
  else
   bBoundC_11 n l0 (bFind l0 (l19.getD i21.toNat (dflt shFor)).2) l11 i12 i13 l19 i20 i21 ja11 (↑ja11.length : Int) 0
    ja0 ja1 ja2 ja3 ja4 ja5 ja6 ja7 ja8 ja9 ja10 ja11 (l19.getD i21.toNat (dflt shFor)).1
    (l19.getD i21.toNat (dflt shFor)).2
 else false
else bBoundC_2 n l0 l11 i12 (IntKind.i64.wrap (i13 + 1)))
def bBoundC_11 : Nat → (List (Sem shRel)) → (Sem shInt) → (List (Sem shRel)) → Int → Int → (List (Sem shFor)) → Int → Int → (List (Sem shVal.sl)) → Int → Int → (Sem Sh.str) → (List (Sem shCol)) → (Sem shInt) → (List (Sem shInt)) → (List (Sem shFor)) → Str → Int → Int → Str → Str → (List (Sem Sh.expr)) → (List (Sem shVal.sl)) → (Sem shInt) → (Sem Sh.str) → Bool
 | 0, _, _, _, _, _, _, _, _, _, _, _, _, _, _, _, _, _, _, _, _, _, _, _, _, _ => false
 | n + 1, l0, i7, l11, i12, i13, l19, i20, i21, l32, i33, i34, ja0, ja1, ja2, ja3, ja4, ja5, ja6, ja7, ja8, ja9, ja10, ja11, jb0, jb1 => (if decide (i34 < i33) = true then
 if inB i34 l32.length = true then
  if inB jb0 (List.length (l32.getD i34.toNat (dflt shVal.sl))) = true then
   if
     (bif
        (List.getD (l32.getD i34.toNat (dflt shVal.sl)) (Int.toNat jb0)
           (dflt shVal)).1 !=
         0 then
       inB i7 l0.length && inB i7 l0.length
      else true) =
      true then
    if
      (bif
         (List.getD (l32.getD i34.toNat (dflt shVal.sl)) (Int.toNat jb0)
            (dflt shVal)).1 !=
          0 then
        !rHas
          (l0.getD (Int.toNat i7)
           (dflt shRel))
          (l0.getD (Int.toNat i7)
               (dflt shRel)).1.2.2.1
          (List.getD (l32.getD i34.toNat (dflt shVal.sl)) (Int.toNat jb0)
           (dflt shVal))
       else false) =
       true then
     true
    else
     bBoundC_11 n l0 i7 l11 i12 i13 l19 i20 i21 l32 i33 (IntKind.i64.wrap (i34 + 1)) ja0 ja1 ja2 ja3 ja4 ja5 ja6 ja7 ja8 ja9
      ja10 ja11 jb0 jb1
   else false
  else false
 else false
else bBoundC_5 n l0 l11 i12 i13 l19 i20 (IntKind.i64.wrap (i21 + 1)) ja0 ja1 ja2 ja3 ja4 ja5 ja6 ja7 ja8 ja9 ja10 ja11)
end
mutual
theorem at72p_2 {C : Ctx} (hC : ∀ id, C.ρ0 id = none) : ∀ (n : Nat) (l0 : List
 (Sem shRel)) (l11 : List
 (Sem shRel)) (i12 : Int) (i13 : Int), bBoundC_2 n l0 l11 i12 i13 = true →
  Reach (env50) C 72 (headK Tryz.f72 2) (s72p_2 l0 l11 i12 i13) (fun r h => resOf h [Sh.bool] r = some (bBound_2 n l0 l11 i12 i13, ()))
 | 0, l0, l11, i12, i13, hc => by cases hc
 | n + 1, l0, l11, i12, i13, hc => by
  refine reach_ok env50_all env50_mix (ok72p) (fun id _ => hC id) (on72p_2 _ _ _ _) ?_
  rw [bBoundC_2] at hc
  generalize hy : bBound_2 (n + 1) l0 l11 i12 i13 = y
  rw [bBound_2] at hy
  try simp only [ExprT.eta]
  repeat' (first | with_reducible refine obr hy hc (fun _ hy hc => ?_) (fun _ hy hc => ?_) | with_reducible refine obr1 hy (fun _ hy => ?_) (fun _ hy => ?_) | with_reducible refine ochk hc (fun hc => ?_) | with_reducible refine OptOk_chkT ?_)
  all_goals first | (cases hc; done) | (subst hy; first | (change Reach _ _ _ _ _ _; refine at72p_2 hC n _ _ _ _ ?_ <;> exact hc) | (change Reach _ _ _ _ _ _; refine at72p_5 hC n _ _ _ _ _ _ _ _ _ _ _ _ _ _ _ _ _ _ _ ?_ <;> exact hc) | (change Reach _ _ _ _ _ _; refine at72p_11 hC n _ _ _ _ _ _ _ _ _ _ _ _ _ _ _ _ _ _ _ _ _ _ _ _ _ ?_ <;> exact hc) | rfl)
theorem at72p_5 {C : Ctx} (hC : ∀ id, C.ρ0 id = none) : ∀ (n : Nat) (l0 : List
 (Sem shRel)) (l11 : List
 (Sem shRel)) (i12 : Int) (i13 : Int) (l19 : LF) (i20 : Int) (i21 : Int) (ja0 : TS) (ja1 : LC) (ja2 : Sem shInt) (ja3 : LI) (ja4 : LF) (ja5 : Str) (ja6 : Int) (ja7 : Int) (ja8 : Str) (ja9 : Str) (ja10 : LX) (ja11 : List (Sem shVal.sl)), bBoundC_5 n l0 l11 i12 i13 l19 i20 i21 ja0 ja1 ja2 ja3 ja4 ja5 ja6 ja7 ja8 ja9 ja10 ja11 = true →
  Reach (env50) C 72 (headK Tryz.f72 5) (s72p_5 l0 l11 i12 i13 l19 i20 i21 ja0 ja1 ja2 ja3 ja4 ja5 ja6 ja7 ja8 ja9 ja10 ja11) (fun r h => resOf h [Sh.bool] r = some (bBound_5 n l0 l11 i12 i13 l19 i20 i21 ja0 ja1 ja2 ja3 ja4 ja5 ja6 ja7 ja8 ja9 ja10 ja11, ()))
 | 0, l0, l11, i12, i13, l19, i20, i21, ja0, ja1, ja2, ja3, ja4, ja5, ja6, ja7, ja8, ja9, ja10, ja11, hc => by cases hc
 | n + 1, l0, l11, i12, i13, l19, i20, i21, ja0, ja1, ja2, ja3, ja4, ja5, ja6, ja7, ja8, ja9, ja10, ja11, hc => by
  refine reach_ok env50_all env50_mix (ok72p) (fun id _ => hC id) (on72p_5 _ _ _ _ _ _ _ _ _ _ _ _ _ _ _ _ _ _ _) ?_
  rw [bBoundC_5] at hc
  generalize hy : bBound_5 (n + 1) l0 l11 i12 i13 l19 i20 i21 ja0 ja1 ja2 ja3 ja4 ja5 ja6 ja7 ja8 ja9 ja10 ja11 = y
  rw [bBound_5] at hy
  try simp only [ExprT.eta]
  repeat' (first | with_reducible refine obr hy hc (fun _ hy hc => ?_) (fun _ hy hc => ?_) | with_reducible refine obr1 hy (fun _ hy => ?_) (fun _ hy => ?_) | with_reducible refine ochk hc (fun hc => ?_) | with_reducible refine OptOk_chkT ?_)
  all_goals first | (cases hc; done) | (subst hy; first | (change Reach _ _ _ _ _ _; refine at72p_2 hC n _ _ _ _ ?_ <;> exact hc) | (change Reach _ _ _ _ _ _; refine at72p_5 hC n _ _ _ _ _ _ _ _ _ _ _ _ _ _ _ _ _ _ _ ?_ <;> exact hc) | (change Reach _ _ _ _ _ _; refine at72p_11 hC n _ _ _ _ _ _ _ _ _ _ _ _ _ _ _ _ _ _ _ _ _ _ _ _ _ ?_ <;> exact hc) | rfl)
theorem at72p_11 {C : Ctx} (hC : ∀ id, C.ρ0 id = none) : ∀ (n : Nat) (l0 : List
 (Sem shRel)) (i7 : Sem shInt) (l11 : List
 (Sem shRel)) (i12 : Int) (i13 : Int) (l19 : LF) (i20 : Int) (i21 : Int) (l32 : List (Sem shVal.sl)) (i33 : Int) (i34 : Int) (ja0 : TS) (ja1 : LC) (ja2 : Sem shInt) (ja3 : LI) (ja4 : LF) (ja5 : Str) (ja6 : Int) (ja7 : Int) (ja8 : Str) (ja9 : Str) (ja10 : LX) (ja11 : List (Sem shVal.sl)) (jb0 : Sem shInt) (jb1 : TS), bBoundC_11 n l0 i7 l11 i12 i13 l19 i20 i21 l32 i33 i34 ja0 ja1 ja2 ja3 ja4 ja5 ja6 ja7 ja8 ja9 ja10 ja11 jb0 jb1 = true →
  Reach (env50) C 72 (headK Tryz.f72 11) (s72p_11 l0 i7 l11 i12 i13 l19 i20 i21 l32 i33 i34 ja0 ja1 ja2 ja3 ja4 ja5 ja6 ja7 ja8 ja9 ja10 ja11 jb0 jb1) (fun r h => resOf h [Sh.bool] r = some (bBound_11 n l0 i7 l11 i12 i13 l19 i20 i21 l32 i33 i34 ja0 ja1 ja2 ja3 ja4 ja5 ja6 ja7 ja8 ja9 ja10 ja11 jb0 jb1, ()))
 | 0, l0, i7, l11, i12, i13, l19, i20, i21, l32, i33, i34, ja0, ja1, ja2, ja3, ja4, ja5, ja6, ja7, ja8, ja9, ja10, ja11, jb0, jb1, hc => by cases hc
 | n + 1, l0, i7, l11, i12, i13, l19, i20, i21, l32, i33, i34, ja0, ja1, ja2, ja3, ja4, ja5, ja6, ja7, ja8, ja9, ja10, ja11, jb0, jb1, hc => by
  refine reach_ok env50_all env50_mix (ok72p) (fun id _ => hC id) (on72p_11 _ _ _ _ _ _ _ _ _ _ _ _ _ _ _ _ _ _ _ _ _ _ _ _ _) ?_
  rw [bBoundC_11] at hc
  generalize hy : bBound_11 (n + 1) l0 i7 l11 i12 i13 l19 i20 i21 l32 i33 i34 ja0 ja1 ja2 ja3 ja4 ja5 ja6 ja7 ja8 ja9 ja10 ja11 jb0 jb1 = y
  rw [bBound_11] at hy
  try simp only [ExprT.eta]
  repeat' (first | with_reducible refine obr hy hc (fun _ hy hc => ?_) (fun _ hy hc => ?_) | with_reducible refine obr1 hy (fun _ hy => ?_) (fun _ hy => ?_) | with_reducible refine ochk hc (fun hc => ?_) | with_reducible refine OptOk_chkT ?_)
  all_goals first | (cases hc; done) | (subst hy; first | (change Reach _ _ _ _ _ _; refine at72p_2 hC n _ _ _ _ ?_ <;> exact hc) | (change Reach _ _ _ _ _ _; refine at72p_5 hC n _ _ _ _ _ _ _ _ _ _ _ _ _ _ _ _ _ _ _ ?_ <;> exact hc) | (change Reach _ _ _ _ _ _; refine at72p_11 hC n _ _ _ _ _ _ _ _ _ _ _ _ _ _ _ _ _ _ _ _ _ _ _ _ _ ?_ <;> exact hc) | rfl)
end
def bBound (x0 : Sem shRel.sl) : Sem Sh.bool := (bBound_2 100000000 x0 x0 (↑(List.length x0) : Int) 0)
def bBoundC (x0 : Sem shRel.sl) : Bool := (bBoundC_2 100000000 x0 x0 (↑(List.length x0) : Int) 0)
def F72p : FSem := plainC [shRel.sl] [Sh.bool] (fun x => bBoundC x.1) fun x => (bBound x.1, ())
theorem FOk72p : FOk (env50).P (env50).gl 72 F72p := by
 refine FOk_plainC (ok72p) fun x hc C hC => ?_
 unfold bBoundC at hc
 refine reach_ok env50_all env50_mix (ok72p) (fun id _ => hC id) (go72p x.1) ?_
 generalize hy : bBound x.1 = y
 unfold bBound at hy
 try simp only [ExprT.eta]
 repeat' (first | with_reducible refine obr hy hc (fun _ hy hc => ?_) (fun _ hy hc => ?_) | with_reducible refine obr1 hy (fun _ hy => ?_) (fun _ hy => ?_) | with_reducible refine ochk hc (fun hc => ?_) | with_reducible refine OptOk_chkT ?_)
 all_goals first | (cases hc; done) | (subst hy; first | (change Reach _ _ _ _ _ _; refine at72p_2 hC _ _ _ _ _ ?_ <;> exact hc) | (change Reach _ _ _ _ _ _; refine at72p_5 hC _ _ _ _ _ _ _ _ _ _ _ _ _ _ _ _ _ _ _ _ ?_ <;> exact hc) | (change Reach _ _ _ _ _ _; refine at72p_11 hC _ _ _ _ _ _ _ _ _ _ _ _ _ _ _ _ _ _ _ _ _ _ _ _ _ _ ?_ <;> exact hc) | rfl)

noncomputable def env51 : Env := (env50.add 72 F72p)
theorem env51_all : EnvAll env51 := (EnvAll.addS env50_all (SameE.refl env50) FOk72p)
theorem env51_mix : env51.P.follows .mixedOrders = true := (mix_add env50_mix _ _)
open Go Go.Proofs
set_option maxHeartbeats 4000000

abbrev kp34p : Nat → Keep := fun j => if j = 4 then { slots := [0, 3] } else if j = 9 then { slots := [0, 30, 31, 32] } else { }
abbrev s34p_4 (l0 : List (Sem shRel)) (i3 : Int) : St := { tmps := [AV.sl shRel l0, ny, ny, ai i3, ny, ny, ny, ny, ny, ny, ny, ny, ny, ny, ny, ny, ny, ny, ny, ny, ny, ny, ny, ny, ny, ny, ny, ny, ny, ny, ny, ny, ny, ny, ny, ny, ny, ny, ny, ny, ny, ny, ny, ny, ny], heap := [] }
theorem ok34p : fnChk (env51).P 34 Tryz.f34 1 := by refine ⟨?_, ?_, ?_, ?_⟩ <;> kernel_rfl
theorem go34p (x0 : Sem shRel.sl) : run (env51) 0 kp34p (Func.results Tryz.f34).toList 400 (bodyOf Tryz.f34) (initSt (Func.ntmps Tryz.f34) [datum shRel.sl x0] []) = Tr.br (decide ((↑(List.length x0) : Int) > 12)) (Tr.ok (Leaf.ret (ai 13) [])) (Tr.ok (Leaf.head 4 (headK Tryz.f34 4) (s34p_4 x0 1))) := by kernel_rfl
abbrev s34p_9 (l0 : List (Sem shRel)) (l30 : List (Sem shRel)) (i31 : Int) (i32 : Int) : St := { tmps := [AV.sl shRel l0, ny, ny, ny, ny, ny, ny, ny, ny, ny, ny, ny, ny, ny, ny, ny, ny, ny, ny, ny, ny, ny, ny, ny, ny, ny, ny, ny, ny, ny, AV.sl shRel l30, ai i31, ai i32, ny, ny, ny, ny, ny, ny, ny, ny, ny, ny, ny, ny], heap := [] }
theorem on34p_4 (l0 : List (Sem shRel)) (i3 : Int) : run (env51) 0 kp34p (Func.results Tryz.f34).toList 400 (headK Tryz.f34 4) (s34p_4 l0 i3) = Tr.br (decide (i3 < (↑l0.length : Int))) (Tr.chk (inB (IntKind.i64.wrap (i3 - 1)) l0.length) (Tr.chk (inB i3 l0.length) (Tr.br (!Op.bytesLess (l0.getD (IntKind.i64.wrap (i3 - 1)).toNat (dflt shRel)).1.1 (l0.getD i3.toNat (dflt shRel)).1.1) (Tr.ok (Leaf.ret (ai 15) [])) (Tr.ok (Leaf.head 4 (headK Tryz.f34 4) (s34p_4 l0 (IntKind.i64.wrap (i3 + 1)))))))) (Tr.ok (Leaf.head 9 (headK Tryz.f34 9) (s34p_9 l0 l0 (↑l0.length : Int) 0))) := by kernel_rfl
theorem on34p_9 (l0 : List (Sem shRel)) (l30 : List (Sem shRel)) (i31 : Int) (i32 : Int) : run (env51) 0 kp34p (Func.results Tryz.f34).toList 400 (headK Tryz.f34 9) (s34p_9 l0 l30 i31 i32) = Tr.br (decide (i32 < i31)) (Tr.chk (inB i32 l30.length) (Tr.chk (rCheckC (((l30.getD i32.toNat (dflt shRel)).1.1, (l30.getD i32.toNat (dflt shRel)).1.2.1, (l30.getD i32.toNat (dflt shRel)).1.2.2.1, (l30.getD i32.toNat (dflt shRel)).1.2.2.2.1, (l30.getD i32.toNat (dflt shRel)).1.2.2.2.2.1, ExprT.mk (ExprT.op (l30.getD i32.toNat (dflt shRel)).1.2.2.2.2.2) (ExprT.v (l30.getD i32.toNat (dflt shRel)).1.2.2.2.2.2) (ExprT.s (l30.getD i32.toNat (dflt shRel)).1.2.2.2.2.2) (ExprT.l (l30.getD i32.toNat (dflt shRel)).1.2.2.2.2.2)), (l30.getD i32.toNat (dflt shRel)).2)) (Tr.br (rCheck (((l30.getD i32.toNat (dflt shRel)).1.1, (l30.getD i32.toNat (dflt shRel)).1.2.1, (l30.getD i32.toNat (dflt shRel)).1.2.2.1, (l30.getD i32.toNat (dflt shRel)).1.2.2.2.1, (l30.getD i32.toNat (dflt shRel)).1.2.2.2.2.1, ExprT.mk (ExprT.op (l30.getD i32.toNat (dflt shRel)).1.2.2.2.2.2) (ExprT.v (l30.getD i32.toNat (dflt shRel)).1.2.2.2.2.2) (ExprT.s (l30.getD i32.toNat (dflt shRel)).1.2.2.2.2.2) (ExprT.l (l30.getD i32.toNat (dflt shRel)).1.2.2.2.2.2)), (l30.getD i32.toNat (dflt shRel)).2) != 0) (Tr.ok (Leaf.ret (AV.int IntKind.i64 (rCheck (((l30.getD i32.toNat (dflt shRel)).1.1, (l30.getD i32.toNat (dflt shRel)).1.2.1, (l30.getD i32.toNat (dflt shRel)).1.2.2.1, (l30.getD i32.toNat (dflt shRel)).1.2.2.2.1, (l30.getD i32.toNat
 (dflt shRel)).1.2.2.2.2.1, ExprT.mk (ExprT.op (l30.getD i32.toNat (dflt shRel)).1.2.2.2.2.2) (ExprT.v (l30.getD i32.toNat (dflt shRel)).1.2.2.2.2.2) (ExprT.s (l30.getD i32.toNat (dflt shRel)).1.2.2.2.2.2) (ExprT.l (l30.getD i32.toNat (dflt shRel)).1.2.2.2.2.2)), (l30.getD i32.toNat (dflt shRel)).2))) [])) (Tr.ok (Leaf.head 9 (headK Tryz.f34 9) (s34p_9 l0 l30 i31 (IntKind.i64.wrap (i32 + 1)))))))) (Tr.chk (bBoundC l0) (Tr.br (!bBound l0) (Tr.ok (Leaf.ret (ai 10) [])) (Tr.ok (Leaf.ret (ai 0) [])))) := by kernel_rfl
mutual
def bCheck_4 : Nat → (List (Sem shRel)) → Int → Sem shInt
 | 0, _, _ => default
 | n + 1, l0, i3 => (if decide (i3 < (↑l0.length : Int)) = true then
 if
   (!Op.bytesLess
      (l0.getD (IntKind.i64.wrap (i3 - 1)).toNat
         (dflt shRel)).1.1
      (l0.getD i3.toNat
         (dflt shRel)).1.1) =
    true then
  15
 else bCheck_4 n l0 (IntKind.i64.wrap (i3 + 1))
else bCheck_9 n l0 l0 (↑l0.length : Int) 0)
def bCheck_9 : Nat → (List (Sem shRel)) → (List (Sem shRel)) → Int → Int → Sem shInt
 | 0, _, _, _, _ => default
 | n + 1, l0, l30, i31, i32 => (if decide (i32 < i31) = true then
 if
   (rCheck
      (l30.getD i32.toNat
       (dflt shRel)) !=
     0) =
    true then
  rCheck
   (l30.getD i32.toNat
    (dflt shRel))
 else bCheck_9 n l0 l30 i31 (IntKind.i64.wrap (i32 + 1))
else if (!bBound l0) = true then 10 else 0)
end
mutual
def bCheckC_4 : Nat → (List (Sem shRel)) → Int → Bool
 | 0, _, _ => false
 | n + 1, l0, i3 => (if decide (i3 < (↑l0.length : Int)) = true then
 if inB (IntKind.i64.wrap (i3 - 1)) l0.length = true then
  if inB i3 l0.length = true then
   if
     (!Op.bytesLess
        (l0.getD (IntKind.i64.wrap (i3 - 1)).toNat
           (dflt shRel)).1.1
        (l0.getD i3.toNat
           (dflt shRel)).1.1) =
      true then
    true
   else bCheckC_4 n l0 (IntKind.i64.wrap (i3 + 1))
  else false
 else false
else bCheckC_9 n l0 l0 (↑l0.length : Int) 0)
def bCheckC_9 : Nat → (List (Sem shRel)) → (List (Sem shRel)) → Int → Int → Bool
 | 0, _, _, _, _ => false
 | n + 1, l0, l30, i31, i32 => (if decide (i32 < i31) = true then
 if inB i32 l30.length = true then
  if
    rCheckC
      (l30.getD i32.toNat
       (dflt shRel)) =
     true then
   if
     (rCheck
        (l30.getD i32.toNat
         (dflt shRel)) !=
       0) =
      true then
    true
   else bCheckC_9 n l0 l30 i31 (IntKind.i64.wrap (i32 + 1))
  else false
 else false
else if bBoundC l0 = true then true else false)
end
mutual
theorem at34p_4 {C : Ctx} (hC : ∀ id, C.ρ0 id = none) : ∀ (n : Nat) (l0 : List
 (Sem shRel)) (i3 : Int), bCheckC_4 n l0 i3 = true →
  Reach (env51) C 34 (headK Tryz.f34 4) (s34p_4 l0 i3) (fun r h => resOf h [shInt] r = some (bCheck_4 n l0 i3, ()))
 | 0, l0, i3, hc => by cases hc
 | n + 1, l0, i3, hc => by
  refine reach_ok env51_all env51_mix (ok34p) (fun id _ => hC id) (on34p_4 _ _) ?_
  rw [bCheckC_4] at hc
  generalize hy : bCheck_4 (n + 1) l0 i3 = y
  rw [bCheck_4] at hy
  try simp only [ExprT.eta]
  repeat' (first | with_reducible refine obr hy hc (fun _ hy hc => ?_) (fun _ hy hc => ?_) | with_reducible refine obr1 hy (fun _ hy => ?_) (fun _ hy => ?_) | with_reducible refine ochk hc (fun hc => ?_) | with_reducible refine OptOk_chkT ?_)
  all_goals first | (cases hc; done) | (subst hy; first | (change Reach _ _ _ _ _ _; refine at34p_4 hC n _ _ ?_ <;> exact hc) | (change Reach _ _ _ _ _ _; refine at34p_9 hC n _ _ _ _ ?_ <;> exact hc) | rfl)
theorem at34p_9 {C : Ctx} (hC : ∀ id, C.ρ0 id = none) : ∀ (n : Nat) (l0 : List
 (Sem shRel)) (l30 : List
 (Sem shRel)) (i31 : Int) (i32 : Int), bCheckC_9 n l0 l30 i31 i32 = true →
  Reach (env51) C 34 (headK Tryz.f34 9) (s34p_9 l0 l30 i31 i32) (fun r h => resOf h [shInt] r = some (bCheck_9 n l0 l30 i31 i32, ()))
 | 0, l0, l30, i31, i32, hc => by cases hc
 | n + 1, l0, l30, i31, i32, hc => by
  refine reach_ok env51_all env51_mix (ok34p) (fun id _ => hC id) (on34p_9 _ _ _ _) ?_
  rw [bCheckC_9] at hc
  generalize hy : bCheck_9 (n + 1) l0 l30 i31 i32 = y
  rw [bCheck_9] at hy
  try simp only [ExprT.eta]
  repeat' (first | with_reducible refine obr hy hc (fun _ hy hc => ?_) (fun _ hy hc => ?_) | with_reducible refine obr1 hy (fun _ hy => ?_) (fun _ hy => ?_) | with_reducible refine ochk hc (fun hc => ?_) | with_reducible refine OptOk_chkT ?_)
  all_goals first | (cases hc; done) | (subst hy; first | (change Reach _ _ _ _ _ _; refine at34p_4 hC n _ _ ?_ <;> exact hc) | (change Reach _ _ _ _ _ _; refine at34p_9 hC n _ _ _ _ ?_ <;> exact hc) | rfl)
end
def bCheck (x0 : Sem shRel.sl) : Sem shInt := (if decide ((↑(List.length x0) : Int) > 12) = true then 13 else bCheck_4 100000000 x0 1)
def bCheckC (x0 : Sem shRel.sl) : Bool := (if decide ((↑(List.length x0) : Int) > 12) = true then true else bCheckC_4 100000000 x0 1)
def F34p : FSem := plainC [shRel.sl] [shInt] (fun x => bCheckC x.1) fun x => (bCheck x.1, ())
theorem FOk34p : FOk (env51).P (env51).gl 34 F34p := by
 refine FOk_plainC (ok34p) fun x hc C hC => ?_
 unfold bCheckC at hc
 refine reach_ok env51_all env51_mix (ok34p) (fun id _ => hC id) (go34p x.1) ?_
 generalize hy : bCheck x.1 = y
 unfold bCheck at hy
 try simp only [ExprT.eta]
 repeat' (first | with_reducible refine obr hy hc (fun _ hy hc => ?_) (fun _ hy hc => ?_) | with_reducible refine obr1 hy (fun _ hy => ?_) (fun _ hy => ?_) | with_reducible refine ochk hc (fun hc => ?_) | with_reducible refine OptOk_chkT ?_)
 all_goals first | (cases hc; done) | (subst hy; first | (change Reach _ _ _ _ _ _; refine at34p_4 hC _ _ _ ?_ <;> exact hc) | (change Reach _ _ _ _ _ _; refine at34p_9 hC _ _ _ _ _ ?_ <;> exact hc) | rfl)

noncomputable def env52 : Env := (env51.add 34 F34p)
theorem env52_all : EnvAll env52 := (EnvAll.addS env51_all (SameE.refl env51) FOk34p)
theorem env52_mix : env52.P.follows .mixedOrders = true := (mix_add env51_mix _ _)
end Cad
