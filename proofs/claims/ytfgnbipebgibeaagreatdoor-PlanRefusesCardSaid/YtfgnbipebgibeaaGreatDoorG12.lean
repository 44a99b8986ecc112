/- Statements: their parts, their texts. Statements: their texts. Statements that may be. Functions on a variable to which a pointer leads. Bases: small things. Bases: few. Bases: few, and where a table is. Bases: few tables; has. Tables with rows: has. -/
import Derived.Test.YtfgnbipebgibeaaGreatDoorG11
import Derived.Test.YtfgnbipebgibeaaGreatDoorG10
namespace Cad
open Go Go.Proofs
set_option maxHeartbeats 4000000

abbrev s8 (x : Sem shStmt) := x.2.2.2.2.2.2.2.2.1
abbrev s9 (x : Sem shStmt) := x.2.2.2.2.2.2.2.2.2.1
abbrev s10 (x : Sem shStmt) := x.2.2.2.2.2.2.2.2.2.2.1
abbrev s11 (x : Sem shStmt) := x.2.2.2.2.2.2.2.2.2.2.2.1
abbrev s12 (x : Sem shStmt) := x.2.2.2.2.2.2.2.2.2.2.2.2
abbrev kp67 : Nat → Keep := fun _ => { }
theorem ok67 : fnChk (env41).P 118 Tryz.f118 1 := by refine ⟨?_, ?_, ?_, ?_⟩ <;> kernel_rfl
theorem go67 (x0 : Sem shStmt) : run (env41) 0 kp67 (Func.results Tryz.f118).toList 400 (bodyOf Tryz.f118) (initSt (Func.ntmps Tryz.f118) [datum shStmt x0] []) = Tr.br (x0.1 == [99, 114, 101, 97, 116, 101]) (Tr.chk (bif bif sName x0.2.1 then creates (etaS x0) else false then sEmptyC (x0.1, [], x0.2.2.1, x0.2.2.2.1, [], [], [], [], ExprT.mk [] (0, 0, []) [] [], (s9 x0), (s10 x0), etaE (s11 x0), (s12 x0)) else true) (Tr.ok (Leaf.ret (AV.bool (bif bif sName x0.2.1 then creates (etaS x0) else false then sEmpty (x0.1, [], x0.2.2.1, x0.2.2.2.1, [], [], [], [], ExprT.mk [] (0, 0, []) [] [], (s9 x0), (s10 x0), etaE (s11 x0), (s12 x0)) else false)) []))) (Tr.br (x0.1 == [100, 114, 111, 112]) (Tr.chk (bif sName x0.2.1 then sEmptyC (x0.1, [], x0.2.2.1, x0.2.2.2.1, x0.2.2.2.2.1, x0.2.2.2.2.2.1, x0.2.2.2.2.2.2.1, x0.2.2.2.2.2.2.2.1, etaE (s8 x0),
 (s9 x0), (s10 x0), etaE (s11 x0), (s12 x0)) else true) (Tr.ok (Leaf.ret (AV.bool (bif sName x0.2.1 then sEmpty (x0.1, [], x0.2.2.1, x0.2.2.2.1, x0.2.2.2.2.1, x0.2.2.2.2.2.1, x0.2.2.2.2.2.2.1, x0.2.2.2.2.2.2.2.1, etaE (s8 x0), (s9 x0), (s10 x0), etaE (s11 x0), (s12 x0)) else false)) []))) (Tr.br (x0.1 == [105, 110, 115, 101, 114, 116]) (Tr.chk (bif bif sName x0.2.1 then bif bif decide ((↑(List.length (s9 x0)) : Int) < 1) then true else decide ((↑(List.length (s9 x0)) : Int) > 12) then false else !decide (ixFrom (fun x => !vMay x) (s9 x0) 0 ≥ 0) else false then sEmptyC (x0.1, [], x0.2.2.1, x0.2.2.2.1, x0.2.2.2.2.1, x0.2.2.2.2.2.1, x0.2.2.2.2.2.2.1, x0.2.2.2.2.2.2.2.1, etaE (s8 x0), [], (s10 x0), etaE (s11 x0), (s12 x0)) else true) (Tr.ok (Leaf.ret (AV.bool (bif bif sName x0.2.1 then bif bif decide ((↑(List.length (s9 x0)) : Int) < 1) then true else decide ((↑(List.length (s9 x0)) : Int) > 12) then false else !decide (ixFrom (fun x => !vMay x) (s9 x0) 0 ≥ 0) else false then sEmpty (x0.1, [], x0.2.2.1, x0.2.2.2.1, x0.2.2.2.2.1, x0.2.2.2.2.2.1, x0.2.2.2.2.2.2.1, x0.2.2.2.2.2.2.2.1, etaE (s8 x0), [], (s10 x0), etaE (s11 x0),
 (s12 x0)) else false)) []))) (Tr.br (x0.1 == [117, 112, 100, 97, 116, 101]) (Tr.chk (bif bif sName x0.2.1 then bif bif decide ((↑(List.length (s10 x0)) : Int) < 1) then true else decide ((↑(List.length (s10 x0)) : Int) > 8) then false else bif !decide (ixFrom (fun x => !setOk x) (s10 x0) 0 ≥ 0) then eMaybe (etaE (s11 x0)) else false else false then sEmptyC (x0.1, [], x0.2.2.1, x0.2.2.2.1, x0.2.2.2.2.1, x0.2.2.2.2.2.1, x0.2.2.2.2.2.2.1, x0.2.2.2.2.2.2.2.1, etaE (s8 x0), (s9 x0), [], ExprT.mk [] (0, 0, []) [] [], (s12 x0)) else true) (Tr.ok (Leaf.ret (AV.bool (bif bif sName x0.2.1 then bif bif decide ((↑(List.length (s10 x0)) : Int) < 1) then true else decide ((↑(List.length (s10 x0)) : Int) > 8) then false else bif !decide (ixFrom (fun x => !setOk x) (s10 x0) 0 ≥ 0) then eMaybe (etaE (s11 x0)) else false else false then sEmpty (x0.1, [], x0.2.2.1, x0.2.2.2.1, x0.2.2.2.2.1, x0.2.2.2.2.2.1, x0.2.2.2.2.2.2.1, x0.2.2.2.2.2.2.2.1, etaE (s8 x0), (s9 x0), [], ExprT.mk [] (0, 0, []) [] [], (s12 x0)) else false)) []))) (Tr.br (x0.1 == [100, 101, 108, 101, 116, 101]) (Tr.chk (bif bif sName x0.2.1 then eMaybe (etaE (s11 x0)) else false then sEmptyC (x0.1, [], x0.2.2.1, x0.2.2.2.1, x0.2.2.2.2.1, x0.2.2.2.2.2.1, x0.2.2.2.2.2.2.1,
 x0.2.2.2.2.2.2.2.1, etaE (s8 x0), (s9 x0), (s10 x0), ExprT.mk [] (0, 0, []) [] [], (s12 x0)) else true) (Tr.ok (Leaf.ret (AV.bool (bif bif sName x0.2.1 then eMaybe (etaE (s11 x0)) else false then sEmpty (x0.1, [], x0.2.2.1, x0.2.2.2.1, x0.2.2.2.2.1, x0.2.2.2.2.2.1, x0.2.2.2.2.2.2.1, x0.2.2.2.2.2.2.2.1, etaE (s8 x0), (s9 x0), (s10 x0), ExprT.mk [] (0, 0, []) [] [], (s12 x0)) else false)) []))) (Tr.br (x0.1 == [115, 101, 108, 101, 99, 116]) (Tr.chk (bif bif sName x0.2.1 then eMaybe (etaE (s11 x0)) else false then sEmptyC (x0.1, [], x0.2.2.1, x0.2.2.2.1, x0.2.2.2.2.1, x0.2.2.2.2.2.1, x0.2.2.2.2.2.2.1, x0.2.2.2.2.2.2.2.1, etaE (s8 x0), (s9 x0), (s10 x0), ExprT.mk [] (0, 0, []) [] [], (s12 x0)) else true) (Tr.ok (Leaf.ret (AV.bool (bif bif sName x0.2.1 then eMaybe (etaE (s11 x0)) else false then sEmpty (x0.1, [], x0.2.2.1, x0.2.2.2.1, x0.2.2.2.2.1, x0.2.2.2.2.2.1, x0.2.2.2.2.2.2.1, x0.2.2.2.2.2.2.2.1, etaE (s8 x0), (s9 x0), (s10 x0), ExprT.mk [] (0, 0, []) [] [], (s12 x0)) else false)) []))) (Tr.br (x0.1 == [114, 101, 97, 100]) (Tr.chk (bif bif sName x0.2.1 then sName (s12 x0) else false then sEmptyC
 (x0.1, [], x0.2.2.1, x0.2.2.2.1, x0.2.2.2.2.1, x0.2.2.2.2.2.1, x0.2.2.2.2.2.2.1, x0.2.2.2.2.2.2.2.1, etaE (s8 x0), (s9 x0), (s10 x0), etaE (s11 x0), []) else true) (Tr.ok (Leaf.ret (AV.bool (bif bif sName x0.2.1 then sName (s12 x0) else false then sEmpty (x0.1, [], x0.2.2.1, x0.2.2.2.1, x0.2.2.2.2.1, x0.2.2.2.2.2.1, x0.2.2.2.2.2.2.1, x0.2.2.2.2.2.2.2.1, etaE (s8 x0), (s9 x0), (s10 x0), etaE (s11 x0), []) else false)) []))) (Tr.br (x0.1 == [119, 114, 105, 116, 101]) (Tr.chk (bif bif sName x0.2.1 then sName (s12 x0) else false then sEmptyC (x0.1, [], x0.2.2.1, x0.2.2.2.1, x0.2.2.2.2.1, x0.2.2.2.2.2.1, x0.2.2.2.2.2.2.1, x0.2.2.2.2.2.2.2.1, etaE (s8 x0), (s9 x0), (s10 x0), etaE (s11 x0), []) else true) (Tr.ok (Leaf.ret (AV.bool (bif bif sName x0.2.1 then sName (s12 x0) else false then sEmpty (x0.1, [], x0.2.2.1, x0.2.2.2.1, x0.2.2.2.2.1, x0.2.2.2.2.2.1, x0.2.2.2.2.2.2.1, x0.2.2.2.2.2.2.2.1, etaE (s8 x0), (s9 x0), (s10 x0), etaE (s11 x0), []) else false)) []))) (Tr.br (x0.1 == [117, 110, 114, 101, 97, 100]) (Tr.chk (bif bif sName x0.2.1 then sName (s12 x0) else false then sEmptyC (x0.1, [], x0.2.2.1, x0.2.2.2.1, x0.2.2.2.2.1, x0.2.2.2.2.2.1, x0.2.2.2.2.2.2.1,
 x0.2.2.2.2.2.2.2.1, etaE (s8 x0), (s9 x0), (s10 x0), etaE (s11 x0), []) else true) (Tr.ok (Leaf.ret (AV.bool (bif bif sName x0.2.1 then sName (s12 x0) else false then sEmpty (x0.1, [], x0.2.2.1, x0.2.2.2.1, x0.2.2.2.2.1, x0.2.2.2.2.2.1, x0.2.2.2.2.2.2.1, x0.2.2.2.2.2.2.2.1, etaE (s8 x0), (s9 x0), (s10 x0), etaE (s11 x0), []) else false)) []))) (Tr.br (x0.1 == [117, 110, 119, 114, 105, 116, 101]) (Tr.chk (bif bif sName x0.2.1 then sName (s12 x0) else false then sEmptyC (x0.1, [], x0.2.2.1, x0.2.2.2.1, x0.2.2.2.2.1, x0.2.2.2.2.2.1, x0.2.2.2.2.2.2.1, x0.2.2.2.2.2.2.2.1, etaE (s8 x0), (s9 x0), (s10 x0), etaE (s11 x0), []) else true) (Tr.ok (Leaf.ret (AV.bool (bif bif sName x0.2.1 then sName (s12 x0) else false then sEmpty (x0.1, [], x0.2.2.1, x0.2.2.2.1, x0.2.2.2.2.1, x0.2.2.2.2.2.1, x0.2.2.2.2.2.2.1, x0.2.2.2.2.2.2.2.1, etaE (s8 x0), (s9 x0), (s10 x0), etaE (s11 x0), []) else false)) []))) (Tr.br (x0.1 == [99, 111, 112, 121]) (Tr.chk (bif bif sName x0.2.1 then bif sName x0.2.2.1 then bif bif decide ((↑(List.length x0.2.2.2.1) : Int) < 1) then true else decide ((↑(List.length x0.2.2.2.1) : Int) > 8) then false else bif !decide (ixFrom (fun x => !sName x) x0.2.2.2.1 0 ≥ 0) then
 eMaybe (etaE (s8 x0)) else false else false else false then sEmptyC (x0.1, [], [], [], x0.2.2.2.2.1, x0.2.2.2.2.2.1, x0.2.2.2.2.2.2.1, x0.2.2.2.2.2.2.2.1, ExprT.mk [] (0, 0, []) [] [], (s9 x0), (s10 x0), etaE (s11 x0), (s12 x0)) else true) (Tr.ok (Leaf.ret (AV.bool (bif bif sName x0.2.1 then bif sName x0.2.2.1 then bif bif decide ((↑(List.length x0.2.2.2.1) : Int) < 1) then true else decide ((↑(List.length x0.2.2.2.1) : Int) > 8) then false else bif !decide (ixFrom (fun x => !sName x) x0.2.2.2.1 0 ≥ 0) then eMaybe (etaE (s8 x0)) else false else false else false then sEmpty (x0.1, [], [], [], x0.2.2.2.2.1, x0.2.2.2.2.2.1, x0.2.2.2.2.2.2.1, x0.2.2.2.2.2.2.2.1, ExprT.mk [] (0, 0, []) [] [], (s9 x0), (s10 x0), etaE (s11 x0), (s12 x0)) else false)) []))) (Tr.br (x0.1 == [106, 111, 105, 110]) (Tr.chk (bif bif sName x0.2.1 then bif sName x0.2.2.1 then bif sName x0.2.2.2.2.2.1 then bif sName (s12 x0) then eMaybe (etaE (s8 x0)) else false else false else false else false then sEmptyC (x0.1, [], [], x0.2.2.2.1, x0.2.2.2.2.1, [], x0.2.2.2.2.2.2.1, x0.2.2.2.2.2.2.2.1, ExprT.mk [] (0, 0, []) [] [], (s9 x0), (s10 x0), etaE (s11 x0), []) else true) (Tr.ok (Leaf.ret (AV.bool (bif bif sName x0.2.1 then bif sName x0.2.2.1 then bif sName x0.2.2.2.2.2.1 then
 bif sName (s12 x0) then eMaybe (etaE (s8 x0)) else false else false else false else false then sEmpty (x0.1, [], [], x0.2.2.2.1, x0.2.2.2.2.1, [], x0.2.2.2.2.2.2.1, x0.2.2.2.2.2.2.2.1, ExprT.mk [] (0, 0, []) [] [], (s9 x0), (s10 x0), etaE (s11 x0), []) else false)) []))) (Tr.br (x0.1 == [103, 114, 111, 117, 112]) (Tr.chk (bif bif sName x0.2.1 then bif sName x0.2.2.1 then bif bif decide ((↑(List.length x0.2.2.2.1) : Int) < 2) then true else decide ((↑(List.length x0.2.2.2.1) : Int) > 2) then false else bif !decide (ixFrom (fun x => !sName x) x0.2.2.2.1 0 ≥ 0) then eMaybe (etaE (s8 x0)) else false else false else false then sEmptyC (x0.1, [], [], [], x0.2.2.2.2.1, x0.2.2.2.2.2.1, x0.2.2.2.2.2.2.1, x0.2.2.2.2.2.2.2.1, ExprT.mk [] (0, 0, []) [] [], (s9 x0), (s10 x0), etaE (s11 x0), (s12 x0)) else true) (Tr.ok (Leaf.ret (AV.bool (bif bif sName x0.2.1 then bif sName x0.2.2.1 then bif bif decide ((↑(List.length x0.2.2.2.1) : Int) < 2) then true else decide ((↑(List.length x0.2.2.2.1) : Int) > 2) then false else bif !decide (ixFrom (fun x => !sName x) x0.2.2.2.1 0 ≥ 0) then eMaybe (etaE (s8 x0)) else false else false else false then sEmpty (x0.1, [], [], [], x0.2.2.2.2.1, x0.2.2.2.2.2.1, x0.2.2.2.2.2.2.1, x0.2.2.2.2.2.2.2.1, ExprT.mk [] (0, 0, []) [] [], (s9 x0), (s10 x0),
 etaE (s11 x0), (s12 x0)) else false)) []))) (Tr.ok (Leaf.ret (AV.kb false) [])))))))))))))) := by kernel_rfl
def sParts (x0 : Sem shStmt) : Sem Sh.bool := (if (x0.1 == [99, 114, 101, 97, 116, 101]) = true then bif bif sName x0.2.1 then creates x0 else false then sEmpty (x0.1, [], x0.2.2.1, x0.2.2.2.1, [], [], [], [], ExprT.mk [] (0, 0, []) [] [], x0.2.2.2.2.2.2.2.2.2) else false else if (x0.1 == [100, 114, 111, 112]) = true then bif sName x0.2.1 then sEmpty (x0.1, [], x0.2.2) else false else if (x0.1 == [105, 110, 115, 101, 114, 116]) = true then bif bif sName x0.2.1 then bif bif decide ((↑(List.length x0.2.2.2.2.2.2.2.2.2.1) : Int) < 1) then true else decide ((↑(List.length x0.2.2.2.2.2.2.2.2.2.1) : Int) > 12) then false else !decide (ixFrom (fun x => !vMay x) x0.2.2.2.2.2.2.2.2.2.1 0 ≥ 0) else false then sEmpty (x0.1, [], x0.2.2.1, x0.2.2.2.1, x0.2.2.2.2.1, x0.2.2.2.2.2.1, x0.2.2.2.2.2.2.1, x0.2.2.2.2.2.2.2.1, x0.2.2.2.2.2.2.2.2.1, [], x0.2.2.2.2.2.2.2.2.2.2) else false else if (x0.1 == [117, 112, 100, 97, 116, 101]) = true then bif bif sName x0.2.1 then bif bif decide ((↑(List.length x0.2.2.2.2.2.2.2.2.2.2.1) : Int) < 1) then true else decide ((↑(List.length x0.2.2.2.2.2.2.2.2.2.2.1) : Int) > 8) then false else bif !decide (ixFrom (fun x => !setOk x) x0.2.2.2.2.2.2.2.2.2.2.1 0 ≥ 0) then eMaybe x0.2.2.2.2.2.2.2.2.2.2.2.1 else false else false then sEmpty (x0.1, [], x0.2.2.1, x0.2.2.2.1, x0.2.2.2.2.1, x0.2.2.2.2.2.1, x0.2.2.2.2.2.2.1, x0.2.2.2.2.2.2.2.1, x0.2.2.2.2.2.2.2.2.1, x0.2.2.2.2.2.2.2.2.2.1, [], ExprT.mk [] (0, 0, []) [] [], x0.2.2.2.2.2.2.2.2.2.2.2.2) else false else
 if (x0.1 == [100, 101, 108, 101, 116, 101]) = true then bif bif sName x0.2.1 then eMaybe x0.2.2.2.2.2.2.2.2.2.2.2.1 else false then sEmpty (x0.1, [], x0.2.2.1, x0.2.2.2.1, x0.2.2.2.2.1, x0.2.2.2.2.2.1, x0.2.2.2.2.2.2.1, x0.2.2.2.2.2.2.2.1, x0.2.2.2.2.2.2.2.2.1, x0.2.2.2.2.2.2.2.2.2.1, x0.2.2.2.2.2.2.2.2.2.2.1, ExprT.mk [] (0, 0, []) [] [], x0.2.2.2.2.2.2.2.2.2.2.2.2) else false else if (x0.1 == [115, 101, 108, 101, 99, 116]) = true then bif bif sName x0.2.1 then eMaybe x0.2.2.2.2.2.2.2.2.2.2.2.1 else false then sEmpty (x0.1, [], x0.2.2.1, x0.2.2.2.1, x0.2.2.2.2.1, x0.2.2.2.2.2.1, x0.2.2.2.2.2.2.1, x0.2.2.2.2.2.2.2.1, x0.2.2.2.2.2.2.2.2.1, x0.2.2.2.2.2.2.2.2.2.1, x0.2.2.2.2.2.2.2.2.2.2.1, ExprT.mk [] (0, 0, []) [] [], x0.2.2.2.2.2.2.2.2.2.2.2.2) else false else if (x0.1 == [114, 101, 97, 100]) = true then bif bif sName x0.2.1 then sName x0.2.2.2.2.2.2.2.2.2.2.2.2 else false then sEmpty (x0.1, [], x0.2.2.1, x0.2.2.2.1, x0.2.2.2.2.1, x0.2.2.2.2.2.1, x0.2.2.2.2.2.2.1, x0.2.2.2.2.2.2.2.1, x0.2.2.2.2.2.2.2.2.1, x0.2.2.2.2.2.2.2.2.2.1, x0.2.2.2.2.2.2.2.2.2.2.1, x0.2.2.2.2.2.2.2.2.2.2.2.1, []) else false else if (x0.1 == [119, 114, 105, 116, 101]) = true then bif bif sName x0.2.1 then sName x0.2.2.2.2.2.2.2.2.2.2.2.2 else false then sEmpty (x0.1, [], x0.2.2.1, x0.2.2.2.1, x0.2.2.2.2.1, x0.2.2.2.2.2.1, x0.2.2.2.2.2.2.1, x0.2.2.2.2.2.2.2.1, x0.2.2.2.2.2.2.2.2.1, x0.2.2.2.2.2.2.2.2.2.1, x0.2.2.2.2.2.2.2.2.2.2.1, x0.2.2.2.2.2.2.2.2.2.2.2.1, []) else false else
 if (x0.1 == [117, 110, 114, 101, 97, 100]) = true then bif bif sName x0.2.1 then sName x0.2.2.2.2.2.2.2.2.2.2.2.2 else false then sEmpty (x0.1, [], x0.2.2.1, x0.2.2.2.1, x0.2.2.2.2.1, x0.2.2.2.2.2.1, x0.2.2.2.2.2.2.1, x0.2.2.2.2.2.2.2.1, x0.2.2.2.2.2.2.2.2.1, x0.2.2.2.2.2.2.2.2.2.1, x0.2.2.2.2.2.2.2.2.2.2.1, x0.2.2.2.2.2.2.2.2.2.2.2.1, []) else false else if (x0.1 == [117, 110, 119, 114, 105, 116, 101]) = true then bif bif sName x0.2.1 then sName x0.2.2.2.2.2.2.2.2.2.2.2.2 else false then sEmpty (x0.1, [], x0.2.2.1, x0.2.2.2.1, x0.2.2.2.2.1, x0.2.2.2.2.2.1, x0.2.2.2.2.2.2.1, x0.2.2.2.2.2.2.2.1, x0.2.2.2.2.2.2.2.2.1, x0.2.2.2.2.2.2.2.2.2.1, x0.2.2.2.2.2.2.2.2.2.2.1, x0.2.2.2.2.2.2.2.2.2.2.2.1, []) else false else if (x0.1 == [99, 111, 112, 121]) = true then bif bif sName x0.2.1 then bif sName x0.2.2.1 then bif bif decide ((↑(List.length x0.2.2.2.1) : Int) < 1) then true else decide ((↑(List.length x0.2.2.2.1) : Int) > 8) then false else bif !decide (ixFrom (fun x => !sName x) x0.2.2.2.1 0 ≥ 0) then eMaybe x0.2.2.2.2.2.2.2.2.1 else false else false else false then sEmpty (x0.1, [], [], [], x0.2.2.2.2.1, x0.2.2.2.2.2.1, x0.2.2.2.2.2.2.1, x0.2.2.2.2.2.2.2.1, ExprT.mk [] (0, 0, []) [] [], x0.2.2.2.2.2.2.2.2.2) else false else if (x0.1 == [106, 111, 105, 110]) = true then bif bif sName x0.2.1 then bif sName x0.2.2.1 then bif sName x0.2.2.2.2.2.1 then bif sName x0.2.2.2.2.2.2.2.2.2.2.2.2 then eMaybe x0.2.2.2.2.2.2.2.2.1 else false else false else false else false then sEmpty
 (x0.1, [], [], x0.2.2.2.1, x0.2.2.2.2.1, [], x0.2.2.2.2.2.2.1, x0.2.2.2.2.2.2.2.1, ExprT.mk [] (0, 0, []) [] [], x0.2.2.2.2.2.2.2.2.2.1, x0.2.2.2.2.2.2.2.2.2.2.1, x0.2.2.2.2.2.2.2.2.2.2.2.1, []) else false else if (x0.1 == [103, 114, 111, 117, 112]) = true then bif bif sName x0.2.1 then bif sName x0.2.2.1 then bif bif decide ((↑(List.length x0.2.2.2.1) : Int) < 2) then true else decide ((↑(List.length x0.2.2.2.1) : Int) > 2) then false else bif !decide (ixFrom (fun x => !sName x) x0.2.2.2.1 0 ≥ 0) then eMaybe x0.2.2.2.2.2.2.2.2.1 else false else false else false then sEmpty (x0.1, [], [], [], x0.2.2.2.2.1, x0.2.2.2.2.2.1, x0.2.2.2.2.2.2.1, x0.2.2.2.2.2.2.2.1, ExprT.mk [] (0, 0, []) [] [], x0.2.2.2.2.2.2.2.2.2) else false else false)
def sPartsC (x0 : Sem shStmt) : Bool := (if (x0.1 == [99, 114, 101, 97, 116, 101]) = true then if (bif bif sName x0.2.1 then creates x0 else false then sEmptyC (x0.1, [], x0.2.2.1, x0.2.2.2.1, [], [], [], [], ExprT.mk [] (0, 0, []) [] [], x0.2.2.2.2.2.2.2.2.2) else true) = true then true else false else if (x0.1 == [100, 114, 111, 112]) = true then if (bif sName x0.2.1 then sEmptyC (x0.1, [], x0.2.2) else true) = true then true else false else if (x0.1 == [105, 110, 115, 101, 114, 116]) = true then if (bif bif sName x0.2.1 then bif bif decide ((↑(List.length x0.2.2.2.2.2.2.2.2.2.1) : Int) < 1) then true else decide ((↑(List.length x0.2.2.2.2.2.2.2.2.2.1) : Int) > 12) then false else !decide (ixFrom (fun x => !vMay x) x0.2.2.2.2.2.2.2.2.2.1 0 ≥ 0) else false then sEmptyC (x0.1, [], x0.2.2.1, x0.2.2.2.1, x0.2.2.2.2.1, x0.2.2.2.2.2.1, x0.2.2.2.2.2.2.1, x0.2.2.2.2.2.2.2.1, x0.2.2.2.2.2.2.2.2.1, [], x0.2.2.2.2.2.2.2.2.2.2) else true) = true then true else false else if (x0.1 == [117, 112, 100, 97, 116, 101]) = true then if (bif bif sName x0.2.1 then bif bif decide ((↑(List.length x0.2.2.2.2.2.2.2.2.2.2.1) : Int) < 1) then true else decide ((↑(List.length x0.2.2.2.2.2.2.2.2.2.2.1) : Int) > 8) then false else bif !decide (ixFrom (fun x => !setOk x) x0.2.2.2.2.2.2.2.2.2.2.1 0 ≥ 0) then eMaybe x0.2.2.2.2.2.2.2.2.2.2.2.1 else false else false then sEmptyC (x0.1, [], x0.2.2.1, x0.2.2.2.1, x0.2.2.2.2.1, x0.2.2.2.2.2.1, x0.2.2.2.2.2.2.1,
 x0.2.2.2.2.2.2.2.1, x0.2.2.2.2.2.2.2.2.1, x0.2.2.2.2.2.2.2.2.2.1, [], ExprT.mk [] (0, 0, []) [] [], x0.2.2.2.2.2.2.2.2.2.2.2.2) else true) = true then true else false else if (x0.1 == [100, 101, 108, 101, 116, 101]) = true then if (bif bif sName x0.2.1 then eMaybe x0.2.2.2.2.2.2.2.2.2.2.2.1 else false then sEmptyC (x0.1, [], x0.2.2.1, x0.2.2.2.1, x0.2.2.2.2.1, x0.2.2.2.2.2.1, x0.2.2.2.2.2.2.1, x0.2.2.2.2.2.2.2.1, x0.2.2.2.2.2.2.2.2.1, x0.2.2.2.2.2.2.2.2.2.1, x0.2.2.2.2.2.2.2.2.2.2.1, ExprT.mk [] (0, 0, []) [] [], x0.2.2.2.2.2.2.2.2.2.2.2.2) else true) = true then true else false else if (x0.1 == [115, 101, 108, 101, 99, 116]) = true then if (bif bif sName x0.2.1 then eMaybe x0.2.2.2.2.2.2.2.2.2.2.2.1 else false then sEmptyC (x0.1, [], x0.2.2.1, x0.2.2.2.1, x0.2.2.2.2.1, x0.2.2.2.2.2.1, x0.2.2.2.2.2.2.1, x0.2.2.2.2.2.2.2.1, x0.2.2.2.2.2.2.2.2.1, x0.2.2.2.2.2.2.2.2.2.1, x0.2.2.2.2.2.2.2.2.2.2.1, ExprT.mk [] (0, 0, []) [] [], x0.2.2.2.2.2.2.2.2.2.2.2.2) else true) = true then true else false else if (x0.1 == [114, 101, 97, 100]) = true then if (bif bif sName x0.2.1 then sName x0.2.2.2.2.2.2.2.2.2.2.2.2 else false then sEmptyC (x0.1, [], x0.2.2.1, x0.2.2.2.1, x0.2.2.2.2.1, x0.2.2.2.2.2.1, x0.2.2.2.2.2.2.1, x0.2.2.2.2.2.2.2.1, x0.2.2.2.2.2.2.2.2.1, x0.2.2.2.2.2.2.2.2.2.1, x0.2.2.2.2.2.2.2.2.2.2.1, x0.2.2.2.2.2.2.2.2.2.2.2.1, []) else true) = true then true else false else if (x0.1 == [119, 114, 105, 116, 101]) = true then if
 (bif bif sName x0.2.1 then sName x0.2.2.2.2.2.2.2.2.2.2.2.2 else false then sEmptyC (x0.1, [], x0.2.2.1, x0.2.2.2.1, x0.2.2.2.2.1, x0.2.2.2.2.2.1, x0.2.2.2.2.2.2.1, x0.2.2.2.2.2.2.2.1, x0.2.2.2.2.2.2.2.2.1, x0.2.2.2.2.2.2.2.2.2.1, x0.2.2.2.2.2.2.2.2.2.2.1, x0.2.2.2.2.2.2.2.2.2.2.2.1, []) else true) = true then true else false else if (x0.1 == [117, 110, 114, 101, 97, 100]) = true then if (bif bif sName x0.2.1 then sName x0.2.2.2.2.2.2.2.2.2.2.2.2 else false then sEmptyC (x0.1, [], x0.2.2.1, x0.2.2.2.1, x0.2.2.2.2.1, x0.2.2.2.2.2.1, x0.2.2.2.2.2.2.1, x0.2.2.2.2.2.2.2.1, x0.2.2.2.2.2.2.2.2.1, x0.2.2.2.2.2.2.2.2.2.1, x0.2.2.2.2.2.2.2.2.2.2.1, x0.2.2.2.2.2.2.2.2.2.2.2.1, []) else true) = true then true else false else if (x0.1 == [117, 110, 119, 114, 105, 116, 101]) = true then if (bif bif sName x0.2.1 then sName x0.2.2.2.2.2.2.2.2.2.2.2.2 else false then sEmptyC (x0.1, [], x0.2.2.1, x0.2.2.2.1, x0.2.2.2.2.1, x0.2.2.2.2.2.1, x0.2.2.2.2.2.2.1, x0.2.2.2.2.2.2.2.1, x0.2.2.2.2.2.2.2.2.1, x0.2.2.2.2.2.2.2.2.2.1, x0.2.2.2.2.2.2.2.2.2.2.1, x0.2.2.2.2.2.2.2.2.2.2.2.1, []) else true) = true then true else false else if (x0.1 == [99, 111, 112, 121]) = true then if (bif bif sName x0.2.1 then bif sName x0.2.2.1 then bif bif decide ((↑(List.length x0.2.2.2.1) : Int) < 1) then true else decide ((↑(List.length x0.2.2.2.1) : Int) > 8) then false else bif !decide (ixFrom (fun x => !sName x) x0.2.2.2.1 0 ≥ 0) then eMaybe x0.2.2.2.2.2.2.2.2.1 else false else false else false then sEmptyC
 (x0.1, [], [], [], x0.2.2.2.2.1, x0.2.2.2.2.2.1, x0.2.2.2.2.2.2.1, x0.2.2.2.2.2.2.2.1, ExprT.mk [] (0, 0, []) [] [], x0.2.2.2.2.2.2.2.2.2) else true) = true then true else false else if (x0.1 == [106, 111, 105, 110]) = true then if (bif bif sName x0.2.1 then bif sName x0.2.2.1 then bif sName x0.2.2.2.2.2.1 then bif sName x0.2.2.2.2.2.2.2.2.2.2.2.2 then eMaybe x0.2.2.2.2.2.2.2.2.1 else false else false else false else false then sEmptyC (x0.1, [], [], x0.2.2.2.1, x0.2.2.2.2.1, [], x0.2.2.2.2.2.2.1, x0.2.2.2.2.2.2.2.1, ExprT.mk [] (0, 0, []) [] [], x0.2.2.2.2.2.2.2.2.2.1, x0.2.2.2.2.2.2.2.2.2.2.1, x0.2.2.2.2.2.2.2.2.2.2.2.1, []) else true) = true then true else false else if (x0.1 == [103, 114, 111, 117, 112]) = true then if (bif bif sName x0.2.1 then bif sName x0.2.2.1 then bif bif decide ((↑(List.length x0.2.2.2.1) : Int) < 2) then true else decide ((↑(List.length x0.2.2.2.1) : Int) > 2) then false else bif !decide (ixFrom (fun x => !sName x) x0.2.2.2.1 0 ≥ 0) then eMaybe x0.2.2.2.2.2.2.2.2.1 else false else false else false then sEmptyC (x0.1, [], [], [], x0.2.2.2.2.1, x0.2.2.2.2.2.1, x0.2.2.2.2.2.2.1, x0.2.2.2.2.2.2.2.1, ExprT.mk [] (0, 0, []) [] [], x0.2.2.2.2.2.2.2.2.2) else true) = true then true else false else true)
def F67 : FSem := plainC [shStmt] [Sh.bool] (fun x => sPartsC x.1) fun x => (sParts x.1, ())
theorem FOk67 : FOk (env41).P (env41).gl 118 F67 := by
  refine FOk_plainC (ok67) fun x hc C hC => ?_
  unfold sPartsC at hc
  refine reach_ok env41_all env41_mix (ok67) (fun id _ => hC id) (go67 x.1) ?_
  generalize hy : sParts x.1 = y
  unfold sParts at hy
  try simp only [s8, s9, s10, s11, s12, ExprT.eta, etaS_eq]
  repeat' (first | with_reducible refine obr hy hc (fun _ hy hc => ?_) (fun _ hy hc => ?_) | with_reducible refine obr1 hy (fun _ hy => ?_) (fun _ hy => ?_) | with_reducible refine ochk hc (fun hc => ?_) | with_reducible refine OptOk_chkT ?_)
  all_goals first | (cases hc; done) | (subst hy; first | rfl)

abbrev kp68 : Nat → Keep := fun _ => { }
theorem ok68 : fnChk (env41).P 119 Tryz.f119 1 := by refine ⟨?_, ?_, ?_, ?_⟩ <;> kernel_rfl
theorem go68 (x0 : Sem shStmt) : run (env41) 0 kp68 (Func.results Tryz.f119).toList 400 (bodyOf Tryz.f119) (initSt (Func.ntmps Tryz.f119) [datum shStmt x0] []) = Tr.chk (decide (List.length x0.1 ≤ 140737488355328) && List.all x0.1 fun b => decide (b.toNat < 128)) (Tr.chk (decide ([77, 73, 71, 82, 65, 84, 69, 32].length + (Lib.toUpperA x0.1).length ≤ 1099511627776)) (Tr.chk (decide (List.length ([77, 73, 71, 82, 65, 84, 69, 32] ++ Lib.toUpperA x0.1) + [32].length ≤ 1099511627776)) (Tr.chk (decide (List.length ([77, 73, 71, 82, 65, 84, 69, 32] ++ Lib.toUpperA x0.1 ++ [32]) + List.length x0.2.1 ≤ 1099511627776)) (Tr.chk (decide (List.length ([77, 73, 71, 82, 65, 84, 69, 32] ++ Lib.toUpperA x0.1 ++ [32] ++ x0.2.1) + [32, 70, 82, 79, 77, 32].length ≤ 1099511627776)) (Tr.chk (decide (List.length ([77, 73, 71, 82, 65, 84, 69, 32] ++ Lib.toUpperA x0.1 ++ [32] ++ x0.2.1 ++ [32, 70, 82, 79, 77, 32]) + List.length x0.2.2.1 ≤ 1099511627776)) (Tr.br (x0.1 == [99, 114, 101, 97, 116, 101]) (Tr.chk (createdC (etaS x0)) (Tr.ok (Leaf.ret (AV.str (created (etaS x0))) []))) (Tr.br (x0.1 == [100, 114, 111, 112]) (Tr.chk (decide ([68, 82, 79, 80, 32, 84, 65, 66, 76, 69, 32].length + List.length x0.2.1 ≤ 1099511627776)) (Tr.ok (Leaf.ret (AV.str ([68, 82, 79, 80, 32, 84, 65, 66, 76, 69, 32] ++ x0.2.1)) []))) (Tr.br (x0.1 == [105, 110, 115, 101, 114, 116]) (Tr.chk (decide ([73, 78, 83, 69, 82, 84, 32, 73, 78, 84, 79, 32].length + List.length x0.2.1 ≤ 1099511627776)) (Tr.chk (decide (List.length ([73, 78, 83, 69, 82, 84, 32, 73, 78, 84, 79, 32] ++ x0.2.1) + [32, 86, 65, 76, 85, 69, 83, 32, 40, 32].length ≤ 1099511627776)) (Tr.chk (valTextsC (s9 x0)) (Tr.chk (decide (List.length ([73, 78, 83, 69, 82, 84, 32, 73, 78, 84, 79, 32] ++ x0.2.1 ++ [32, 86, 65, 76, 85, 69, 83, 32, 40, 32]) + List.length (valTexts (s9 x0)) ≤ 1099511627776)) (Tr.chk (decide (List.length ([73, 78, 83, 69, 82, 84, 32, 73, 78, 84, 79, 32] ++ x0.2.1 ++ [32, 86, 65, 76, 85, 69, 83, 32, 40, 32] ++ valTexts (s9 x0)) + [32, 41].length ≤ 1099511627776)) (Tr.ok (Leaf.ret (AV.str ([73, 78, 83, 69, 82, 84, 32, 73, 78, 84, 79, 32] ++ x0.2.1 ++ [32, 86, 65, 76, 85, 69, 83, 32, 40, 32] ++ valTexts (s9 x0) ++ [32, 41])) []))))))) (Tr.br (x0.1 == [117, 112, 100, 97, 116, 101]) (Tr.chk (decide ([85, 80, 68, 65, 84, 69, 32].length + List.length x0.2.1 ≤ 1099511627776)) (Tr.chk (decide (List.length ([85, 80, 68, 65, 84, 69, 32] ++ x0.2.1) + [32, 83, 69, 84, 32].length ≤ 1099511627776))
 (Tr.chk (setTextsC (s10 x0)) (Tr.chk (decide (List.length ([85, 80, 68, 65, 84, 69, 32] ++ x0.2.1 ++ [32, 83, 69, 84, 32]) + List.length (setTexts (s10 x0)) ≤ 1099511627776)) (Tr.chk (wTextC (etaE (s11 x0))) (Tr.chk (decide (List.length ([85, 80, 68, 65, 84, 69, 32] ++ x0.2.1 ++ [32, 83, 69, 84, 32] ++ setTexts (s10 x0)) + List.length (wText (etaE (s11 x0))) ≤ 1099511627776)) (Tr.ok (Leaf.ret (AV.str ([85, 80, 68, 65, 84, 69, 32] ++ x0.2.1 ++ [32, 83, 69, 84, 32] ++ setTexts (s10 x0) ++ wText (etaE (s11 x0)))) [])))))))) (Tr.br (x0.1 == [100, 101, 108, 101, 116, 101]) (Tr.chk (decide ([68, 69, 76, 69, 84, 69, 32, 70, 82, 79, 77, 32].length + List.length x0.2.1 ≤ 1099511627776)) (Tr.chk (wTextC (etaE (s11 x0))) (Tr.chk (decide (List.length ([68, 69, 76, 69, 84, 69, 32, 70, 82, 79, 77, 32] ++ x0.2.1) + List.length (wText (etaE (s11 x0))) ≤ 1099511627776)) (Tr.ok (Leaf.ret (AV.str ([68, 69, 76, 69, 84, 69, 32, 70, 82, 79, 77, 32] ++ x0.2.1 ++ wText (etaE (s11 x0)))) []))))) (Tr.br (x0.1 == [115, 101, 108, 101, 99, 116]) (Tr.chk (decide ([83, 69, 76, 69, 67, 84, 32, 42, 32, 70, 82, 79, 77, 32].length + List.length x0.2.1 ≤ 1099511627776)) (Tr.chk (wTextC (etaE (s11 x0))) (Tr.chk (decide (List.length ([83, 69, 76, 69, 67, 84, 32, 42, 32, 70, 82, 79, 77, 32] ++ x0.2.1) + List.length (wText
 (etaE (s11 x0))) ≤ 1099511627776)) (Tr.ok (Leaf.ret (AV.str ([83, 69, 76, 69, 67, 84, 32, 42, 32, 70, 82, 79, 77, 32] ++ x0.2.1 ++ wText (etaE (s11 x0)))) []))))) (Tr.br (x0.1 == [114, 101, 97, 100]) (Tr.chk (decide (List.length x0.1 ≤ 140737488355328) && List.all x0.1 fun b => decide (b.toNat < 128)) (Tr.chk (decide ([71, 82, 65, 78, 84, 32].length + (Lib.toUpperA x0.1).length ≤ 1099511627776)) (Tr.chk (decide (List.length ([71, 82, 65, 78, 84, 32] ++ Lib.toUpperA x0.1) + [32, 79, 78, 32].length ≤ 1099511627776)) (Tr.chk (decide (List.length ([71, 82, 65, 78, 84, 32] ++ Lib.toUpperA x0.1 ++ [32, 79, 78, 32]) + List.length x0.2.1 ≤ 1099511627776)) (Tr.chk (decide (List.length ([71, 82, 65, 78, 84, 32] ++ Lib.toUpperA x0.1 ++ [32, 79, 78, 32] ++ x0.2.1) + [32, 84, 79, 32].length ≤ 1099511627776)) (Tr.chk (decide (List.length ([71, 82, 65, 78, 84, 32] ++ Lib.toUpperA x0.1 ++ [32, 79, 78, 32] ++ x0.2.1 ++ [32, 84, 79, 32]) + List.length (s12 x0) ≤ 1099511627776)) (Tr.ok (Leaf.ret (AV.str ([71, 82, 65, 78, 84, 32] ++ Lib.toUpperA x0.1 ++ [32, 79, 78, 32] ++ x0.2.1 ++ [32, 84, 79, 32] ++ (s12 x0))) [])))))))) (Tr.br (x0.1 == [119, 114, 105, 116, 101]) (Tr.chk (decide (List.length x0.1 ≤ 140737488355328) && List.all x0.1 fun b => decide (b.toNat < 128)) (Tr.chk (decide ([71, 82, 65, 78, 84, 32].length + (Lib.toUpperA x0.1).length ≤ 1099511627776))
 (Tr.chk (decide (List.length ([71, 82, 65, 78, 84, 32] ++ Lib.toUpperA x0.1) + [32, 79, 78, 32].length ≤ 1099511627776)) (Tr.chk (decide (List.length ([71, 82, 65, 78, 84, 32] ++ Lib.toUpperA x0.1 ++ [32, 79, 78, 32]) + List.length x0.2.1 ≤ 1099511627776)) (Tr.chk (decide (List.length ([71, 82, 65, 78, 84, 32] ++ Lib.toUpperA x0.1 ++ [32, 79, 78, 32] ++ x0.2.1) + [32, 84, 79, 32].length ≤ 1099511627776)) (Tr.chk (decide (List.length ([71, 82, 65, 78, 84, 32] ++ Lib.toUpperA x0.1 ++ [32, 79, 78, 32] ++ x0.2.1 ++ [32, 84, 79, 32]) + List.length (s12 x0) ≤ 1099511627776)) (Tr.ok (Leaf.ret (AV.str ([71, 82, 65, 78, 84, 32] ++ Lib.toUpperA x0.1 ++ [32, 79, 78, 32] ++ x0.2.1 ++ [32, 84, 79, 32] ++ (s12 x0))) [])))))))) (Tr.br (x0.1 == [117, 110, 114, 101, 97, 100]) (Tr.chk (decide (0 ≤ 2) && decide (2 ≤ (↑(List.length x0.1) : Int)) && decide ((↑(List.length x0.1) : Int) ≤ (↑(List.length x0.1) : Int))) (Tr.chk (decide ((List.take ((↑(List.length x0.1) : Int).toNat - Int.toNat 2) (List.drop (Int.toNat 2) x0.1)).length ≤ 140737488355328) && (List.take ((↑(List.length x0.1) : Int).toNat - Int.toNat 2) (List.drop (Int.toNat 2) x0.1)).all fun b => decide (b.toNat < 128)) (Tr.chk (decide ([82, 69, 86, 79, 75, 69, 32].length + (Lib.toUpperA (List.take ((↑(List.length x0.1) : Int).toNat - Int.toNat 2) (List.drop (Int.toNat 2) x0.1))).length ≤ 1099511627776)) (Tr.chk (decide (List.length ([82, 69, 86, 79, 75, 69, 32] ++
 Lib.toUpperA (List.take ((↑(List.length x0.1) : Int).toNat - Int.toNat 2) (List.drop (Int.toNat 2) x0.1))) + [32, 79, 78, 32].length ≤ 1099511627776)) (Tr.chk (decide (List.length ([82, 69, 86, 79, 75, 69, 32] ++ Lib.toUpperA (List.take ((↑(List.length x0.1) : Int).toNat - Int.toNat 2) (List.drop (Int.toNat 2) x0.1)) ++ [32, 79, 78, 32]) + List.length x0.2.1 ≤ 1099511627776)) (Tr.chk (decide (List.length ([82, 69, 86, 79, 75, 69, 32] ++ Lib.toUpperA (List.take ((↑(List.length x0.1) : Int).toNat - Int.toNat 2) (List.drop (Int.toNat 2) x0.1)) ++ [32, 79, 78, 32] ++ x0.2.1) + [32, 70, 82, 79, 77, 32].length ≤ 1099511627776)) (Tr.chk (decide (List.length ([82, 69, 86, 79, 75, 69, 32] ++ Lib.toUpperA (List.take ((↑(List.length x0.1) : Int).toNat - Int.toNat 2) (List.drop (Int.toNat 2) x0.1)) ++ [32, 79, 78, 32] ++ x0.2.1 ++ [32, 70, 82, 79, 77, 32]) + List.length (s12 x0) ≤ 1099511627776)) (Tr.ok (Leaf.ret (AV.str ([82, 69, 86, 79, 75, 69, 32] ++ Lib.toUpperA (List.take ((↑(List.length x0.1) : Int).toNat - Int.toNat 2) (List.drop (Int.toNat 2) x0.1)) ++ [32, 79, 78, 32] ++ x0.2.1 ++ [32, 70, 82, 79, 77, 32] ++ (s12 x0))) []))))))))) (Tr.br (x0.1 == [117, 110, 119, 114, 105, 116, 101]) (Tr.chk (decide (0 ≤ 2) && decide (2 ≤ (↑(List.length x0.1) : Int)) && decide ((↑(List.length x0.1) : Int) ≤ (↑(List.length x0.1) : Int))) (Tr.chk (decide ((List.take ((↑(List.length x0.1) : Int).toNat - Int.toNat 2) (List.drop (Int.toNat 2) x0.1)).length ≤
 140737488355328) && (List.take ((↑(List.length x0.1) : Int).toNat - Int.toNat 2) (List.drop (Int.toNat 2) x0.1)).all fun b => decide (b.toNat < 128)) (Tr.chk (decide ([82, 69, 86, 79, 75, 69, 32].length + (Lib.toUpperA (List.take ((↑(List.length x0.1) : Int).toNat - Int.toNat 2) (List.drop (Int.toNat 2) x0.1))).length ≤ 1099511627776)) (Tr.chk (decide (List.length ([82, 69, 86, 79, 75, 69, 32] ++ Lib.toUpperA (List.take ((↑(List.length x0.1) : Int).toNat - Int.toNat 2) (List.drop (Int.toNat 2) x0.1))) + [32, 79, 78, 32].length ≤ 1099511627776)) (Tr.chk (decide (List.length ([82, 69, 86, 79, 75, 69, 32] ++ Lib.toUpperA (List.take ((↑(List.length x0.1) : Int).toNat - Int.toNat 2) (List.drop (Int.toNat 2) x0.1)) ++ [32, 79, 78, 32]) + List.length x0.2.1 ≤ 1099511627776)) (Tr.chk (decide (List.length ([82, 69, 86, 79, 75, 69, 32] ++ Lib.toUpperA (List.take ((↑(List.length x0.1) : Int).toNat - Int.toNat 2) (List.drop (Int.toNat 2) x0.1)) ++ [32, 79, 78, 32] ++ x0.2.1) + [32, 70, 82, 79, 77, 32].length ≤ 1099511627776)) (Tr.chk (decide (List.length ([82, 69, 86, 79, 75, 69, 32] ++ Lib.toUpperA (List.take ((↑(List.length x0.1) : Int).toNat - Int.toNat 2) (List.drop (Int.toNat 2) x0.1)) ++ [32, 79, 78, 32] ++ x0.2.1 ++ [32, 70, 82, 79, 77, 32]) + List.length (s12 x0) ≤ 1099511627776)) (Tr.ok (Leaf.ret (AV.str ([82, 69, 86, 79, 75, 69, 32] ++ Lib.toUpperA (List.take ((↑(List.length x0.1) : Int).toNat - Int.toNat 2) (List.drop (Int.toNat 2) x0.1)) ++
 [32, 79, 78, 32] ++ x0.2.1 ++ [32, 70, 82, 79, 77, 32] ++ (s12 x0))) []))))))))) (Tr.br (x0.1 == [99, 111, 112, 121]) (Tr.chk (decide (List.length ([77, 73, 71, 82, 65, 84, 69, 32] ++ Lib.toUpperA x0.1 ++ [32] ++ x0.2.1 ++ [32, 70, 82, 79, 77, 32] ++ x0.2.2.1) + [32, 40, 32].length ≤ 1099511627776)) (Tr.chk (strTextsC x0.2.2.2.1) (Tr.chk (decide (List.length ([77, 73, 71, 82, 65, 84, 69, 32] ++ Lib.toUpperA x0.1 ++ [32] ++ x0.2.1 ++ [32, 70, 82, 79, 77, 32] ++ x0.2.2.1 ++ [32, 40, 32]) + List.length (strTexts x0.2.2.2.1) ≤ 1099511627776)) (Tr.chk (decide (List.length ([77, 73, 71, 82, 65, 84, 69, 32] ++ Lib.toUpperA x0.1 ++ [32] ++ x0.2.1 ++ [32, 70, 82, 79, 77, 32] ++ x0.2.2.1 ++ [32, 40, 32] ++ strTexts x0.2.2.2.1) + [32, 41].length ≤ 1099511627776)) (Tr.chk (chTextC [32] (etaE (s8 x0))) (Tr.chk (decide (List.length ([77, 73, 71, 82, 65, 84, 69, 32] ++ Lib.toUpperA x0.1 ++ [32] ++ x0.2.1 ++ [32, 70, 82, 79, 77, 32] ++ x0.2.2.1 ++ [32, 40, 32] ++ strTexts x0.2.2.2.1 ++ [32, 41]) + List.length (chText [32] (etaE (s8 x0))) ≤ 1099511627776)) (Tr.ok (Leaf.ret (AV.str ([77, 73, 71, 82, 65, 84, 69, 32] ++ Lib.toUpperA x0.1 ++ [32] ++ x0.2.1 ++ [32, 70, 82, 79, 77, 32] ++ x0.2.2.1 ++ [32, 40, 32] ++ strTexts x0.2.2.2.1 ++ [32, 41] ++ chText [32] (etaE (s8 x0)))) [])))))))) (Tr.br (x0.1 == [106, 111, 105, 110]) (Tr.chk (decide (List.length
 ([77, 73, 71, 82, 65, 84, 69, 32] ++ Lib.toUpperA x0.1 ++ [32] ++ x0.2.1 ++ [32, 70, 82, 79, 77, 32] ++ x0.2.2.1) + [32, 44, 32].length ≤ 1099511627776)) (Tr.chk (decide (List.length ([77, 73, 71, 82, 65, 84, 69, 32] ++ Lib.toUpperA x0.1 ++ [32] ++ x0.2.1 ++ [32, 70, 82, 79, 77, 32] ++ x0.2.2.1 ++ [32, 44, 32]) + List.length (s12 x0) ≤ 1099511627776)) (Tr.chk (decide (List.length ([77, 73, 71, 82, 65, 84, 69, 32] ++ Lib.toUpperA x0.1 ++ [32] ++ x0.2.1 ++ [32, 70, 82, 79, 77, 32] ++ x0.2.2.1 ++ [32, 44, 32] ++ (s12 x0)) + [32, 79, 78, 32].length ≤ 1099511627776)) (Tr.chk (decide (List.length ([77, 73, 71, 82, 65, 84, 69, 32] ++ Lib.toUpperA x0.1 ++ [32] ++ x0.2.1 ++ [32, 70, 82, 79, 77, 32] ++ x0.2.2.1 ++ [32, 44, 32] ++ (s12 x0) ++ [32, 79, 78, 32]) + List.length x0.2.2.2.2.2.1 ≤ 1099511627776)) (Tr.chk (chTextC [32] (etaE (s8 x0))) (Tr.chk (decide (List.length ([77, 73, 71, 82, 65, 84, 69, 32] ++ Lib.toUpperA x0.1 ++ [32] ++ x0.2.1 ++ [32, 70, 82, 79, 77, 32] ++ x0.2.2.1 ++ [32, 44, 32] ++ (s12 x0) ++ [32, 79, 78, 32] ++ x0.2.2.2.2.2.1) + List.length (chText [32] (etaE (s8 x0))) ≤ 1099511627776)) (Tr.ok (Leaf.ret (AV.str ([77, 73, 71, 82, 65, 84, 69, 32] ++ Lib.toUpperA x0.1 ++ [32] ++ x0.2.1 ++ [32, 70, 82, 79, 77, 32] ++ x0.2.2.1 ++ [32, 44, 32] ++ (s12 x0) ++ [32, 79, 78, 32] ++ x0.2.2.2.2.2.1 ++ chText [32] (etaE (s8 x0)))) [])))))))) (Tr.chk
 (decide (List.length ([77, 73, 71, 82, 65, 84, 69, 32] ++ Lib.toUpperA x0.1 ++ [32] ++ x0.2.1 ++ [32, 70, 82, 79, 77, 32] ++ x0.2.2.1) + [32, 66, 89, 32].length ≤ 1099511627776)) (Tr.chk (inB 0 (List.length x0.2.2.2.1)) (Tr.chk (decide (List.length ([77, 73, 71, 82, 65, 84, 69, 32] ++ Lib.toUpperA x0.1 ++ [32] ++ x0.2.1 ++ [32, 70, 82, 79, 77, 32] ++ x0.2.2.1 ++ [32, 66, 89, 32]) + List.length (List.getD x0.2.2.2.1 (Int.toNat 0) (dflt Sh.str)) ≤ 1099511627776)) (Tr.chk (decide (List.length ([77, 73, 71, 82, 65, 84, 69, 32] ++ Lib.toUpperA x0.1 ++ [32] ++ x0.2.1 ++ [32, 70, 82, 79, 77, 32] ++ x0.2.2.1 ++ [32, 66, 89, 32] ++ List.getD x0.2.2.2.1 (Int.toNat 0) (dflt Sh.str)) + [32, 83, 85, 77, 32].length ≤ 1099511627776)) (Tr.chk (inB 1 (List.length x0.2.2.2.1)) (Tr.chk (decide (List.length ([77, 73, 71, 82, 65, 84, 69, 32] ++ Lib.toUpperA x0.1 ++ [32] ++ x0.2.1 ++ [32, 70, 82, 79, 77, 32] ++ x0.2.2.1 ++ [32, 66, 89, 32] ++ List.getD x0.2.2.2.1 (Int.toNat 0) (dflt Sh.str) ++ [32, 83, 85, 77, 32]) + List.length (List.getD x0.2.2.2.1 (Int.toNat 1) (dflt Sh.str)) ≤ 1099511627776)) (Tr.chk (chTextC [32] (etaE (s8 x0))) (Tr.chk (decide (List.length ([77, 73, 71, 82, 65, 84, 69, 32] ++ Lib.toUpperA x0.1 ++ [32] ++ x0.2.1 ++ [32, 70, 82, 79, 77, 32] ++ x0.2.2.1 ++ [32, 66, 89, 32] ++ List.getD x0.2.2.2.1 (Int.toNat 0) (dflt Sh.str) ++ [32, 83, 85, 77, 32] ++ List.getD x0.2.2.2.1 (Int.toNat 1) (dflt Sh.str)) + List.length (chText [32] (etaE (s8 x0))) ≤
 1099511627776)) (Tr.ok (Leaf.ret (AV.str ([77, 73, 71, 82, 65, 84, 69, 32] ++ Lib.toUpperA x0.1 ++ [32] ++ x0.2.1 ++ [32, 70, 82, 79, 77, 32] ++ x0.2.2.1 ++ [32, 66, 89, 32] ++ List.getD x0.2.2.2.1 (Int.toNat 0) (dflt Sh.str) ++ [32, 83, 85, 77, 32] ++ List.getD x0.2.2.2.1 (Int.toNat 1) (dflt Sh.str) ++ chText [32] (etaE (s8 x0)))) []))))))))))))))))))))))))))) := by kernel_rfl
def sText (x0 : Sem shStmt) : Sem Sh.str := (if (x0.1 == [99, 114, 101, 97, 116, 101]) = true then created x0 else if (x0.1 == [100, 114, 111, 112]) = true then [68, 82, 79, 80, 32, 84, 65, 66, 76, 69, 32] ++ x0.2.1 else if (x0.1 == [105, 110, 115, 101, 114, 116]) = true then [73, 78, 83, 69, 82, 84, 32, 73, 78, 84, 79, 32] ++ x0.2.1 ++ [32, 86, 65, 76, 85, 69, 83, 32, 40, 32] ++ valTexts x0.2.2.2.2.2.2.2.2.2.1 ++ [32, 41] else if (x0.1 == [117, 112, 100, 97, 116, 101]) = true then [85, 80, 68, 65, 84, 69, 32] ++ x0.2.1 ++ [32, 83, 69, 84, 32] ++ setTexts x0.2.2.2.2.2.2.2.2.2.2.1 ++ wText x0.2.2.2.2.2.2.2.2.2.2.2.1 else if (x0.1 == [100, 101, 108, 101, 116, 101]) = true then [68, 69, 76, 69, 84, 69, 32, 70, 82, 79, 77, 32] ++ x0.2.1 ++ wText x0.2.2.2.2.2.2.2.2.2.2.2.1 else if (x0.1 == [115, 101, 108, 101, 99, 116]) = true then [83, 69, 76, 69, 67, 84, 32, 42, 32, 70, 82, 79, 77, 32] ++ x0.2.1 ++ wText x0.2.2.2.2.2.2.2.2.2.2.2.1 else if (x0.1 == [114, 101, 97, 100]) = true then [71, 82, 65, 78, 84, 32] ++ Lib.toUpperA x0.1 ++ [32, 79, 78, 32] ++ x0.2.1 ++ [32, 84, 79, 32] ++ x0.2.2.2.2.2.2.2.2.2.2.2.2 else if (x0.1 == [119, 114, 105, 116, 101]) = true then [71, 82, 65, 78, 84, 32] ++ Lib.toUpperA x0.1 ++ [32, 79, 78, 32] ++ x0.2.1 ++ [32, 84, 79, 32] ++ x0.2.2.2.2.2.2.2.2.2.2.2.2 else if (x0.1 == [117, 110, 114, 101, 97, 100]) = true then [82, 69, 86, 79, 75, 69, 32] ++ Lib.toUpperA (List.take ((↑(List.length x0.1) : Int).toNat - Int.toNat 2) (List.drop (Int.toNat 2) x0.1)) ++
 [32, 79, 78, 32] ++ x0.2.1 ++ [32, 70, 82, 79, 77, 32] ++ x0.2.2.2.2.2.2.2.2.2.2.2.2 else if (x0.1 == [117, 110, 119, 114, 105, 116, 101]) = true then [82, 69, 86, 79, 75, 69, 32] ++ Lib.toUpperA (List.take ((↑(List.length x0.1) : Int).toNat - Int.toNat 2) (List.drop (Int.toNat 2) x0.1)) ++ [32, 79, 78, 32] ++ x0.2.1 ++ [32, 70, 82, 79, 77, 32] ++ x0.2.2.2.2.2.2.2.2.2.2.2.2 else if (x0.1 == [99, 111, 112, 121]) = true then [77, 73, 71, 82, 65, 84, 69, 32] ++ Lib.toUpperA x0.1 ++ [32] ++ x0.2.1 ++ [32, 70, 82, 79, 77, 32] ++ x0.2.2.1 ++ [32, 40, 32] ++ strTexts x0.2.2.2.1 ++ [32, 41] ++ chText [32] x0.2.2.2.2.2.2.2.2.1 else if (x0.1 == [106, 111, 105, 110]) = true then [77, 73, 71, 82, 65, 84, 69, 32] ++ Lib.toUpperA x0.1 ++ [32] ++ x0.2.1 ++ [32, 70, 82, 79, 77, 32] ++ x0.2.2.1 ++ [32, 44, 32] ++ x0.2.2.2.2.2.2.2.2.2.2.2.2 ++ [32, 79, 78, 32] ++ x0.2.2.2.2.2.1 ++ chText [32] x0.2.2.2.2.2.2.2.2.1 else [77, 73, 71, 82, 65, 84, 69, 32] ++ Lib.toUpperA x0.1 ++ [32] ++ x0.2.1 ++ [32, 70, 82, 79, 77, 32] ++ x0.2.2.1 ++ [32, 66, 89, 32] ++ List.getD x0.2.2.2.1 (Int.toNat 0) (dflt Sh.str) ++ [32, 83, 85, 77, 32] ++ List.getD x0.2.2.2.1 (Int.toNat 1) (dflt Sh.str) ++ chText [32] x0.2.2.2.2.2.2.2.2.1)
def sTextC (x0 : Sem shStmt) : Bool := (if (decide (List.length x0.1 ≤ 140737488355328) && List.all x0.1 fun b => decide (b.toNat < 128)) = true then if decide ([77, 73, 71, 82, 65, 84, 69, 32].length + (Lib.toUpperA x0.1).length ≤ 1099511627776) = true then if decide (List.length ([77, 73, 71, 82, 65, 84, 69, 32] ++ Lib.toUpperA x0.1) + [32].length ≤ 1099511627776) = true then if decide (List.length ([77, 73, 71, 82, 65, 84, 69, 32] ++ Lib.toUpperA x0.1 ++ [32]) + List.length x0.2.1 ≤ 1099511627776) = true then if decide (List.length ([77, 73, 71, 82, 65, 84, 69, 32] ++ Lib.toUpperA x0.1 ++ [32] ++ x0.2.1) + [32, 70, 82, 79, 77, 32].length ≤ 1099511627776) = true then if decide (List.length ([77, 73, 71, 82, 65, 84, 69, 32] ++ Lib.toUpperA x0.1 ++ [32] ++ x0.2.1 ++ [32, 70, 82, 79, 77, 32]) + List.length x0.2.2.1 ≤ 1099511627776) = true then if (x0.1 == [99, 114, 101, 97, 116, 101]) = true then if createdC x0 = true then true else false else if (x0.1 == [100, 114, 111, 112]) = true then if decide ([68, 82, 79, 80, 32, 84, 65, 66, 76, 69, 32].length + List.length x0.2.1 ≤ 1099511627776) = true then true else false else if (x0.1 == [105, 110, 115, 101, 114, 116]) = true then if decide ([73, 78, 83, 69, 82, 84, 32, 73, 78, 84, 79, 32].length + List.length x0.2.1 ≤ 1099511627776) = true then if decide (List.length ([73, 78, 83, 69, 82, 84, 32, 73, 78, 84, 79, 32] ++ x0.2.1) + [32, 86, 65, 76, 85, 69, 83, 32, 40, 32].length ≤ 1099511627776) = true then
 if valTextsC x0.2.2.2.2.2.2.2.2.2.1 = true then if decide (List.length ([73, 78, 83, 69, 82, 84, 32, 73, 78, 84, 79, 32] ++ x0.2.1 ++ [32, 86, 65, 76, 85, 69, 83, 32, 40, 32]) + List.length (valTexts x0.2.2.2.2.2.2.2.2.2.1) ≤ 1099511627776) = true then if decide (List.length ([73, 78, 83, 69, 82, 84, 32, 73, 78, 84, 79, 32] ++ x0.2.1 ++ [32, 86, 65, 76, 85, 69, 83, 32, 40, 32] ++ valTexts x0.2.2.2.2.2.2.2.2.2.1) + [32, 41].length ≤ 1099511627776) = true then true else false else false else false else false else false else if (x0.1 == [117, 112, 100, 97, 116, 101]) = true then if decide ([85, 80, 68, 65, 84, 69, 32].length + List.length x0.2.1 ≤ 1099511627776) = true then if decide (List.length ([85, 80, 68, 65, 84, 69, 32] ++ x0.2.1) + [32, 83, 69, 84, 32].length ≤ 1099511627776) = true then if setTextsC x0.2.2.2.2.2.2.2.2.2.2.1 = true then if decide (List.length ([85, 80, 68, 65, 84, 69, 32] ++ x0.2.1 ++ [32, 83, 69, 84, 32]) + List.length (setTexts x0.2.2.2.2.2.2.2.2.2.2.1) ≤ 1099511627776) = true then if wTextC x0.2.2.2.2.2.2.2.2.2.2.2.1 = true then if decide (List.length ([85, 80, 68, 65, 84, 69, 32] ++ x0.2.1 ++ [32, 83, 69, 84, 32] ++ setTexts x0.2.2.2.2.2.2.2.2.2.2.1) + List.length (wText x0.2.2.2.2.2.2.2.2.2.2.2.1) ≤ 1099511627776) = true then true else false else false else false else false else false else false else if (x0.1 == [100, 101, 108, 101, 116, 101]) = true then
 if decide ([68, 69, 76, 69, 84, 69, 32, 70, 82, 79, 77, 32].length + List.length x0.2.1 ≤ 1099511627776) = true then if wTextC x0.2.2.2.2.2.2.2.2.2.2.2.1 = true then if decide (List.length ([68, 69, 76, 69, 84, 69, 32, 70, 82, 79, 77, 32] ++ x0.2.1) + List.length (wText x0.2.2.2.2.2.2.2.2.2.2.2.1) ≤ 1099511627776) = true then true else false else false else false else if (x0.1 == [115, 101, 108, 101, 99, 116]) = true then if decide ([83, 69, 76, 69, 67, 84, 32, 42, 32, 70, 82, 79, 77, 32].length + List.length x0.2.1 ≤ 1099511627776) = true then if wTextC x0.2.2.2.2.2.2.2.2.2.2.2.1 = true then if decide (List.length ([83, 69, 76, 69, 67, 84, 32, 42, 32, 70, 82, 79, 77, 32] ++ x0.2.1) + List.length (wText x0.2.2.2.2.2.2.2.2.2.2.2.1) ≤ 1099511627776) = true then true else false else false else false else if (x0.1 == [114, 101, 97, 100]) = true then if (decide (List.length x0.1 ≤ 140737488355328) && List.all x0.1 fun b => decide (b.toNat < 128)) = true then if decide ([71, 82, 65, 78, 84, 32].length + (Lib.toUpperA x0.1).length ≤ 1099511627776) = true then if decide (List.length ([71, 82, 65, 78, 84, 32] ++ Lib.toUpperA x0.1) + [32, 79, 78, 32].length ≤ 1099511627776) = true then if decide (List.length ([71, 82, 65, 78, 84, 32] ++ Lib.toUpperA x0.1 ++ [32, 79, 78, 32]) + List.length x0.2.1 ≤ 1099511627776) = true then if decide (List.length ([71, 82, 65, 78, 84, 32] ++ Lib.toUpperA x0.1 ++ [32, 79, 78, 32] ++ x0.2.1) + [32, 84, 79, 32].length ≤ 1099511627776) = true then if
 decide (List.length ([71, 82, 65, 78, 84, 32] ++ Lib.toUpperA x0.1 ++ [32, 79, 78, 32] ++ x0.2.1 ++ [32, 84, 79, 32]) + List.length x0.2.2.2.2.2.2.2.2.2.2.2.2 ≤ 1099511627776) = true then true else false else false else false else false else false else false else if (x0.1 == [119, 114, 105, 116, 101]) = true then if (decide (List.length x0.1 ≤ 140737488355328) && List.all x0.1 fun b => decide (b.toNat < 128)) = true then if decide ([71, 82, 65, 78, 84, 32].length + (Lib.toUpperA x0.1).length ≤ 1099511627776) = true then if decide (List.length ([71, 82, 65, 78, 84, 32] ++ Lib.toUpperA x0.1) + [32, 79, 78, 32].length ≤ 1099511627776) = true then if decide (List.length ([71, 82, 65, 78, 84, 32] ++ Lib.toUpperA x0.1 ++ [32, 79, 78, 32]) + List.length x0.2.1 ≤ 1099511627776) = true then if decide (List.length ([71, 82, 65, 78, 84, 32] ++ Lib.toUpperA x0.1 ++ [32, 79, 78, 32] ++ x0.2.1) + [32, 84, 79, 32].length ≤ 1099511627776) = true then if decide (List.length ([71, 82, 65, 78, 84, 32] ++ Lib.toUpperA x0.1 ++ [32, 79, 78, 32] ++ x0.2.1 ++ [32, 84, 79, 32]) + List.length x0.2.2.2.2.2.2.2.2.2.2.2.2 ≤ 1099511627776) = true then true else false else false else false else false else false else false else if (x0.1 == [117, 110, 114, 101, 97, 100]) = true then if (decide (0 ≤ 2) && decide (2 ≤ (↑(List.length x0.1) : Int)) && decide ((↑(List.length x0.1) : Int) ≤ (↑(List.length x0.1) : Int))) = true then if (decide
 ((List.take ((↑(List.length x0.1) : Int).toNat - Int.toNat 2) (List.drop (Int.toNat 2) x0.1)).length ≤ 140737488355328) && (List.take ((↑(List.length x0.1) : Int).toNat - Int.toNat 2) (List.drop (Int.toNat 2) x0.1)).all fun b => decide (b.toNat < 128)) = true then if decide ([82, 69, 86, 79, 75, 69, 32].length + (Lib.toUpperA (List.take ((↑(List.length x0.1) : Int).toNat - Int.toNat 2) (List.drop (Int.toNat 2) x0.1))).length ≤ 1099511627776) = true then if decide (List.length ([82, 69, 86, 79, 75, 69, 32] ++ Lib.toUpperA (List.take ((↑(List.length x0.1) : Int).toNat - Int.toNat 2) (List.drop (Int.toNat 2) x0.1))) + [32, 79, 78, 32].length ≤ 1099511627776) = true then if decide (List.length ([82, 69, 86, 79, 75, 69, 32] ++ Lib.toUpperA (List.take ((↑(List.length x0.1) : Int).toNat - Int.toNat 2) (List.drop (Int.toNat 2) x0.1)) ++ [32, 79, 78, 32]) + List.length x0.2.1 ≤ 1099511627776) = true then if decide (List.length ([82, 69, 86, 79, 75, 69, 32] ++ Lib.toUpperA (List.take ((↑(List.length x0.1) : Int).toNat - Int.toNat 2) (List.drop (Int.toNat 2) x0.1)) ++ [32, 79, 78, 32] ++ x0.2.1) + [32, 70, 82, 79, 77, 32].length ≤ 1099511627776) = true then if decide (List.length ([82, 69, 86, 79, 75, 69, 32] ++ Lib.toUpperA (List.take ((↑(List.length x0.1) : Int).toNat - Int.toNat 2) (List.drop (Int.toNat 2) x0.1)) ++ [32, 79, 78, 32] ++ x0.2.1 ++ [32, 70, 82, 79, 77, 32]) + List.length x0.2.2.2.2.2.2.2.2.2.2.2.2 ≤ 1099511627776) = true then true else false else false else false
 else false else false else false else false else if (x0.1 == [117, 110, 119, 114, 105, 116, 101]) = true then if (decide (0 ≤ 2) && decide (2 ≤ (↑(List.length x0.1) : Int)) && decide ((↑(List.length x0.1) : Int) ≤ (↑(List.length x0.1) : Int))) = true then if (decide ((List.take ((↑(List.length x0.1) : Int).toNat - Int.toNat 2) (List.drop (Int.toNat 2) x0.1)).length ≤ 140737488355328) && (List.take ((↑(List.length x0.1) : Int).toNat - Int.toNat 2) (List.drop (Int.toNat 2) x0.1)).all fun b => decide (b.toNat < 128)) = true then if decide ([82, 69, 86, 79, 75, 69, 32].length + (Lib.toUpperA (List.take ((↑(List.length x0.1) : Int).toNat - Int.toNat 2) (List.drop (Int.toNat 2) x0.1))).length ≤ 1099511627776) = true then if decide (List.length ([82, 69, 86, 79, 75, 69, 32] ++ Lib.toUpperA (List.take ((↑(List.length x0.1) : Int).toNat - Int.toNat 2) (List.drop (Int.toNat 2) x0.1))) + [32, 79, 78, 32].length ≤ 1099511627776) = true then if decide (List.length ([82, 69, 86, 79, 75, 69, 32] ++ Lib.toUpperA (List.take ((↑(List.length x0.1) : Int).toNat - Int.toNat 2) (List.drop (Int.toNat 2) x0.1)) ++ [32, 79, 78, 32]) + List.length x0.2.1 ≤ 1099511627776) = true then if decide (List.length ([82, 69, 86, 79, 75, 69, 32] ++ Lib.toUpperA (List.take ((↑(List.length x0.1) : Int).toNat - Int.toNat 2) (List.drop (Int.toNat 2) x0.1)) ++ [32, 79, 78, 32] ++ x0.2.1) + [32, 70, 82, 79, 77, 32].length ≤ 1099511627776) = true then if decide (List.length ([82, 69, 86, 79, 75, 69, 32] ++
 Lib.toUpperA (List.take ((↑(List.length x0.1) : Int).toNat - Int.toNat 2) (List.drop (Int.toNat 2) x0.1)) ++ [32, 79, 78, 32] ++ x0.2.1 ++ [32, 70, 82, 79, 77, 32]) + List.length x0.2.2.2.2.2.2.2.2.2.2.2.2 ≤ 1099511627776) = true then true else false else false else false else false else false else false else false else if (x0.1 == [99, 111, 112, 121]) = true then if decide (List.length ([77, 73, 71, 82, 65, 84, 69, 32] ++ Lib.toUpperA x0.1 ++ [32] ++ x0.2.1 ++ [32, 70, 82, 79, 77, 32] ++ x0.2.2.1) + [32, 40, 32].length ≤ 1099511627776) = true then if strTextsC x0.2.2.2.1 = true then if decide (List.length ([77, 73, 71, 82, 65, 84, 69, 32] ++ Lib.toUpperA x0.1 ++ [32] ++ x0.2.1 ++ [32, 70, 82, 79, 77, 32] ++ x0.2.2.1 ++ [32, 40, 32]) + List.length (strTexts x0.2.2.2.1) ≤ 1099511627776) = true then if decide (List.length ([77, 73, 71, 82, 65, 84, 69, 32] ++ Lib.toUpperA x0.1 ++ [32] ++ x0.2.1 ++ [32, 70, 82, 79, 77, 32] ++ x0.2.2.1 ++ [32, 40, 32] ++ strTexts x0.2.2.2.1) + [32, 41].length ≤ 1099511627776) = true then if chTextC [32] x0.2.2.2.2.2.2.2.2.1 = true then if decide (List.length ([77, 73, 71, 82, 65, 84, 69, 32] ++ Lib.toUpperA x0.1 ++ [32] ++ x0.2.1 ++ [32, 70, 82, 79, 77, 32] ++ x0.2.2.1 ++ [32, 40, 32] ++ strTexts x0.2.2.2.1 ++ [32, 41]) + List.length (chText [32] x0.2.2.2.2.2.2.2.2.1) ≤ 1099511627776) = true then true else false else false else false else false else false else false else if (x0.1 == [106, 111, 105, 110]) = true then if decide (List.length
 ([77, 73, 71, 82, 65, 84, 69, 32] ++ Lib.toUpperA x0.1 ++ [32] ++ x0.2.1 ++ [32, 70, 82, 79, 77, 32] ++ x0.2.2.1) + [32, 44, 32].length ≤ 1099511627776) = true then if decide (List.length ([77, 73, 71, 82, 65, 84, 69, 32] ++ Lib.toUpperA x0.1 ++ [32] ++ x0.2.1 ++ [32, 70, 82, 79, 77, 32] ++ x0.2.2.1 ++ [32, 44, 32]) + List.length x0.2.2.2.2.2.2.2.2.2.2.2.2 ≤ 1099511627776) = true then if decide (List.length ([77, 73, 71, 82, 65, 84, 69, 32] ++ Lib.toUpperA x0.1 ++ [32] ++ x0.2.1 ++ [32, 70, 82, 79, 77, 32] ++ x0.2.2.1 ++ [32, 44, 32] ++ x0.2.2.2.2.2.2.2.2.2.2.2.2) + [32, 79, 78, 32].length ≤ 1099511627776) = true then if decide (List.length ([77, 73, 71, 82, 65, 84, 69, 32] ++ Lib.toUpperA x0.1 ++ [32] ++ x0.2.1 ++ [32, 70, 82, 79, 77, 32] ++ x0.2.2.1 ++ [32, 44, 32] ++ x0.2.2.2.2.2.2.2.2.2.2.2.2 ++ [32, 79, 78, 32]) + List.length x0.2.2.2.2.2.1 ≤ 1099511627776) = true then if chTextC [32] x0.2.2.2.2.2.2.2.2.1 = true then if decide (List.length ([77, 73, 71, 82, 65, 84, 69, 32] ++ Lib.toUpperA x0.1 ++ [32] ++ x0.2.1 ++ [32, 70, 82, 79, 77, 32] ++ x0.2.2.1 ++ [32, 44, 32] ++ x0.2.2.2.2.2.2.2.2.2.2.2.2 ++ [32, 79, 78, 32] ++ x0.2.2.2.2.2.1) + List.length (chText [32] x0.2.2.2.2.2.2.2.2.1) ≤ 1099511627776) = true then true else false else false else false else false else false else false else if decide (List.length ([77, 73, 71, 82, 65, 84, 69, 32] ++ Lib.toUpperA x0.1 ++ [32] ++ x0.2.1 ++ [32, 70, 82, 79, 77, 32] ++ x0.2.2.1) + [32, 66, 89, 32].length ≤ 1099511627776) =
 true then if inB 0 (List.length x0.2.2.2.1) = true then if decide (List.length ([77, 73, 71, 82, 65, 84, 69, 32] ++ Lib.toUpperA x0.1 ++ [32] ++ x0.2.1 ++ [32, 70, 82, 79, 77, 32] ++ x0.2.2.1 ++ [32, 66, 89, 32]) + List.length (List.getD x0.2.2.2.1 (Int.toNat 0) (dflt Sh.str)) ≤ 1099511627776) = true then if decide (List.length ([77, 73, 71, 82, 65, 84, 69, 32] ++ Lib.toUpperA x0.1 ++ [32] ++ x0.2.1 ++ [32, 70, 82, 79, 77, 32] ++ x0.2.2.1 ++ [32, 66, 89, 32] ++ List.getD x0.2.2.2.1 (Int.toNat 0) (dflt Sh.str)) + [32, 83, 85, 77, 32].length ≤ 1099511627776) = true then if inB 1 (List.length x0.2.2.2.1) = true then if decide (List.length ([77, 73, 71, 82, 65, 84, 69, 32] ++ Lib.toUpperA x0.1 ++ [32] ++ x0.2.1 ++ [32, 70, 82, 79, 77, 32] ++ x0.2.2.1 ++ [32, 66, 89, 32] ++ List.getD x0.2.2.2.1 (Int.toNat 0) (dflt Sh.str) ++ [32, 83, 85, 77, 32]) + List.length (List.getD x0.2.2.2.1 (Int.toNat 1) (dflt Sh.str)) ≤ 1099511627776) = true then if chTextC [32] x0.2.2.2.2.2.2.2.2.1 = true then if decide (List.length ([77, 73, 71, 82, 65, 84, 69, 32] ++ Lib.toUpperA x0.1 ++ [32] ++ x0.2.1 ++ [32, 70, 82, 79, 77, 32] ++ x0.2.2.1 ++ [32, 66, 89, 32] ++ List.getD x0.2.2.2.1 (Int.toNat 0) (dflt Sh.str) ++ [32, 83, 85, 77, 32] ++ List.getD x0.2.2.2.1 (Int.toNat 1) (dflt Sh.str)) + List.length (chText [32] x0.2.2.2.2.2.2.2.2.1) ≤ 1099511627776) = true then true else false else false else false else false else false else false else false else false else false else false else false else false
 else false else false)
def F68 : FSem := plainC [shStmt] [Sh.str] (fun x => sTextC x.1) fun x => (sText x.1, ())
theorem FOk68 : FOk (env41).P (env41).gl 119 F68 := by
  refine FOk_plainC (ok68) fun x hc C hC => ?_
  unfold sTextC at hc
  refine reach_ok env41_all env41_mix (ok68) (fun id _ => hC id) (go68 x.1) ?_
  generalize hy : sText x.1 = y
  unfold sText at hy
  try simp only [s8, s9, s10, s11, s12, ExprT.eta, etaS_eq]
  repeat' (first | with_reducible refine obr hy hc (fun _ hy hc => ?_) (fun _ hy hc => ?_) | with_reducible refine obr1 hy (fun _ hy => ?_) (fun _ hy => ?_) | with_reducible refine ochk hc (fun hc => ?_) | with_reducible refine OptOk_chkT ?_)
  all_goals first | (cases hc; done) | (subst hy; first | rfl)

noncomputable def env42 : Env := ((env41.add 118 F67).add 119 F68)
theorem env42_all : EnvAll env42 := (EnvAll.addS (EnvAll.addS env41_all (SameE.refl env41) FOk67) ((SameE.refl env41).add _ _) FOk68)
theorem env42_mix : env42.P.follows .mixedOrders = true := (mix_add (mix_add env41_mix _ _) _ _)
open Go Go.Proofs
set_option maxHeartbeats 4000000

abbrev kp52 : Nat → Keep := fun _ => { }
theorem ok52 : fnChk (env42).P 70 Tryz.f70 1 := by refine ⟨?_, ?_, ?_, ?_⟩ <;> kernel_rfl
theorem go52 (x0 : Sem shStmt) : run (env42) 0 kp52 (Func.results Tryz.f70).toList 400 (bodyOf Tryz.f70) (initSt (Func.ntmps Tryz.f70) [datum shStmt x0] []) = Tr.chk (sPartsC (etaS x0)) (Tr.br (!sParts (etaS x0)) (Tr.ok (Leaf.ret (AV.tup [AV.str [], ai 1]) [])) (Tr.chk (sTextC (etaS x0)) (Tr.chk (cutC (sText (etaS x0))) (Tr.br ((cut (sText (etaS x0))).2 != 0) (Tr.ok (Leaf.ret (AV.tup [AV.str [], ai 1]) [])) (Tr.ok (Leaf.ret (AV.tup [AV.str (sText (etaS x0)), ai 0]) [])))))) := by kernel_rfl
def stText (x0 : Sem shStmt) : Sem Sh.str × Sem shInt := (if (!sParts x0) = true then ([], 1) else if ((cut (sText x0)).2 != 0) = true then ([], 1) else (sText x0, 0))
def stTextC (x0 : Sem shStmt) : Bool := (if sPartsC x0 = true then if (!sParts x0) = true then true else if sTextC x0 = true then if cutC (sText x0) = true then true else false else false else false)
def F52 : FSem := plainC [shStmt] [Sh.str, shInt] (fun x => stTextC x.1) fun x => ((stText x.1).1, (stText x.1).2, ())
theorem FOk52 : FOk (env42).P (env42).gl 70 F52 := by
  refine FOk_plainC (ok52) fun x hc C hC => ?_
  unfold stTextC at hc
  refine reach_ok env42_all env42_mix (ok52) (fun id _ => hC id) (go52 x.1) ?_
  generalize hy : stText x.1 = y
  unfold stText at hy
  try simp only [etaS_eq]
  repeat' (first | with_reducible refine obr hy hc (fun _ hy hc => ?_) (fun _ hy hc => ?_) | with_reducible refine obr1 hy (fun _ hy => ?_) (fun _ hy => ?_) | with_reducible refine ochk hc (fun hc => ?_) | with_reducible refine OptOk_chkT ?_)
  all_goals first | (cases hc; done) | (subst hy; first | rfl)

noncomputable def env43 : Env := (env42.add 70 F52)
theorem env43_all : EnvAll env43 := (EnvAll.addS env42_all (SameE.refl env42) FOk52)
theorem env43_mix : env43.P.follows .mixedOrders = true := (mix_add env42_mix _ _)
open Go Go.Proofs
set_option maxHeartbeats 4000000

abbrev kp31 : Nat → Keep := fun _ => { }
theorem ok31 : fnChk (env43).P 33 Tryz.f33 1 := by refine ⟨?_, ?_, ?_, ?_⟩ <;> kernel_rfl
theorem go31 (x0 : Sem shStmt) : run (env43) 0 kp31 (Func.results Tryz.f33).toList 400 (bodyOf Tryz.f33) (initSt (Func.ntmps Tryz.f33) [datum shStmt x0] []) = Tr.chk (stTextC (etaS x0)) (Tr.ok (Leaf.ret (AV.bool ((stText (etaS x0)).2 == 0)) [])) := by kernel_rfl
def stMay (x0 : Sem shStmt) : Sem Sh.bool := ((stText x0).2 == 0)
def stMayC (x0 : Sem shStmt) : Bool := (if stTextC x0 = true then true else false)
def F31 : FSem := plainC [shStmt] [Sh.bool] (fun x => stMayC x.1) fun x => (stMay x.1, ())
theorem FOk31 : FOk (env43).P (env43).gl 33 F31 := by
  refine FOk_plainC (ok31) fun x hc C hC => ?_
  unfold stMayC at hc
  refine reach_ok env43_all env43_mix (ok31) (fun id _ => hC id) (go31 x.1) ?_
  generalize hy : stMay x.1 = y
  unfold stMay at hy
  try simp only [etaS_eq]
  repeat' (first | with_reducible refine obr hy hc (fun _ hy hc => ?_) (fun _ hy hc => ?_) | with_reducible refine obr1 hy (fun _ hy => ?_) (fun _ hy => ?_) | with_reducible refine ochk hc (fun hc => ?_) | with_reducible refine OptOk_chkT ?_)
  all_goals first | (cases hc; done) | (subst hy; first | rfl)

noncomputable def env44 : Env := (env43.add 33 F31)
theorem env44_all : EnvAll env44 := (EnvAll.addS env43_all (SameE.refl env43) FOk31)
theorem env44_mix : env44.P.follows .mixedOrders = true := (mix_add env43_mix _ _)
open Go

inductive CP where
  | d (s : Sh)
  | nil
  | vec (e : Sh)

@[reducible] def CSem : List CP → Type
  | [] => Unit
  | .d s :: r => Sem s × CSem r
  | .nil :: r => CSem r
  | .vec e :: r => List (Sem e) × CSem r

def cpCells : (n : Nat) → (ps : List CP) → CSem ps → List AV
  | _, [], _ => []
  | n, .d s :: r, y => explode s y.1 ++ cpCells n r y.2
  | n, .nil :: r, y => .nils :: cpCells n r y
  | n, .vec _ :: r, y => .vec n :: cpCells (n + 1) r y.2

def cpObjs : (ps : List CP) → CSem ps → List AO
  | [], _ => []
  | .d _ :: r, y => cpObjs r y.2
  | .nil :: r, y => cpObjs r y
  | .vec e :: r, y => .vec e y.1 :: cpObjs r y.2

def cpHeap (ps : List CP) (y : CSem ps) : List AO := .box (cpCells 1 ps y) :: cpObjs ps y

def cpCount : List CP → Nat
  | [] => 0
  | .vec _ :: r => cpCount r + 1
  | _ :: r => cpCount r

theorem cpObjs_length : ∀ (ps : List CP) (y : CSem ps), (cpObjs ps y).length = cpCount ps
  | [], _ => rfl
  | .d _ :: r, y => cpObjs_length r y.2
  | .nil :: r, y => cpObjs_length r y
  | .vec _ :: r, y => congrArg (· + 1) (cpObjs_length r y.2)

def cpMatch (hp : Nat → AO) : (n : Nat) → (ps : List CP) → List AV → Option (CSem ps)
  | _, [], [] => some ()
  | n, .d s :: r, cs => match implode (fun _ => .dead) s cs with
    | some (x, cs') => match cpMatch hp n r cs' with
      | some y => some (x, y)
      | none => none
    | none => none
  | n, .nil :: r, .nils :: cs => cpMatch hp n r cs
  | n, .vec e :: r, .vec id :: cs => if id = n then match hp id with
      | .vec e' l => if h : e' = e then match cpMatch hp (n + 1) r cs with
          | some y => some (h ▸ l, y)
          | none => none
        else none
      | _ => none
    else none
  | _, _, _ => none

section
variable {w : World} {U : Nat → Prop} {ρ : Nat → Option Value}

theorem RvL.app {a b : List AV} {va vb : List Value} (h1 : RvL w U ρ a va) (h2 : RvL w U ρ b vb) : RvL w U ρ (a ++ b) (va ++ vb) where
  len := by simp [h1.len, h2.len]
  rv := by
    intro j c v hc hv
    by_cases hj : j < a.length
    · rw [List.getElem?_append_left hj] at hc
      rw [List.getElem?_append_left (by rw [← h1.len]; exact hj)] at hv
      exact h1.rv j c v hc hv
    · rw [List.getElem?_append_right (by omega)] at hc
      rw [List.getElem?_append_right (by rw [← h1.len]; omega), ← h1.len] at hv
      exact h2.rv _ c v hc hv

theorem RvL.tail {a : AV} {l : List AV} {v : Value} {vs : List Value} (h : RvL w U ρ (a :: l) (v :: vs)) : RvL w U ρ l vs :=
  ⟨by have := h.len; simpa using this, fun j c x hc hx => h.rv (j + 1) c x (by simpa using hc) (by simpa using hx)⟩

theorem RvL.consH {a : AV} {l : List AV} {v : Value} {vs : List Value} (h1 : Rv w U ρ a v) (h2 : RvL w U ρ l vs) : RvL w U ρ (a :: l) (v :: vs) where
  len := by simp [h2.len]
  rv := by
    intro j c x hc hx
    cases j with
    | zero => simp at hc hx; subst hc; subst hx; exact h1
    | succ j => exact h2.rv j c x (by simpa using hc) (by simpa using hx)

theorem cpMatch_ok {hp : Nat → AO} : ∀ (ps : List CP) (n : Nat) (cs : List AV) (y : CSem ps) (vals : List Value), cpMatch hp n ps cs = some y → RvL w U ρ cs vals →
    RvL w U ρ (cpCells n ps y) vals ∧ ∀ (j : Nat) o, (cpObjs ps y)[j]? = some o → hp (n + j) = o
  | [], n, [], y, vals, h, hr => ⟨hr, by simp [cpObjs]⟩
  | [], n, _ :: _, y, vals, h, hr => by simp [cpMatch] at h
  | .d s :: r, n, cs, y, vals, h, hr => by
    unfold cpMatch at h
    split at h
    · rename_i x cs' hi
      split at h
      · rename_i y' hy
        cases h
        have hk := implode_ok (w := w) (U := U) (U' := U) (ρ := ρ) (hp := fun _ => .dead) (fun _ h => h) s cs x cs' (fun j => vals.getD j undef) hi
          (fun j c hc => by
            have hlt : j < vals.length := by rw [← hr.len]; exact (List.getElem?_eq_some_iff.1 hc).1
            have := hr.rv j c vals[j] hc (List.getElem?_eq_getElem hlt)
            simpa [List.getD, List.getElem?_eq_getElem hlt] using this)
          (fun id _ => ⟨trivial, fun b hb => by simp [ownsB, AO.owns] at hb⟩)
        obtain ⟨k1, k2, k3⟩ := hk
        have hdrop : RvL w U ρ cs' (vals.drop s.size) := by
          refine ⟨by rw [k2]; simp [hr.len], fun j c v hc hv => ?_⟩
          rw [k2, List.getElem?_drop] at hc
          rw [List.getElem?_drop] at hv
          exact hr.rv _ c v hc hv
        obtain ⟨i1, i2⟩ := cpMatch_ok r n cs' y' (vals.drop s.size) hy hdrop
        refine ⟨?_, i2⟩
        have htake : RvL w U ρ (explode s x) (vals.take s.size) := by
          refine ⟨by rw [explode_length]; have := hr.len; simp; omega, fun j c v hc hv => ?_⟩
          have hj : j < s.size := by rw [← explode_length s x]; exact (List.getElem?_eq_some_iff.1 hc).1
          rw [List.getElem?_take, if_pos hj] at hv
          have := k3 j c hc
          simpa [List.getD, hv] using this
        have := htake.app i1
        rw [List.take_append_drop] at this
        exact this
      · cases h
    · cases h
  | .nil :: r, n, .nils :: cs, y, vals, h, hr => by
    match vals, hr with
    | [], hr => have := hr.len; simp at this
    | v :: vs, hr =>
      have hv := hr.rv 0 _ v rfl rfl
      obtain ⟨i1, i2⟩ := cpMatch_ok r n cs y vs h hr.tail
      exact ⟨RvL.consH hv i1, i2⟩
  | .vec e :: r, n, .vec id :: cs, y, vals, h, hr => by
    match vals, hr with
    | [], hr => have := hr.len; simp at this
    | v :: vs, hr =>
      have hv := hr.rv 0 _ v rfl rfl
      unfold cpMatch at h
      split at h
      · rename_i hid
        subst hid
        split at h
        · rename_i e' l ho
          split at h
          · rename_i he
            subst he
            split at h
            · rename_i y' hy
              cases h
              obtain ⟨i1, i2⟩ := cpMatch_ok r (id + 1) cs y' vs hy hr.tail
              refine ⟨RvL.consH hv i1, fun j o hj => ?_⟩
              cases j with
              | zero => simp [cpObjs] at hj; subst hj; exact ho
              | succ j =>
                have := i2 j o (by simpa [cpObjs] using hj)
                rw [← this]
                congr 1
                omega
            · cases h
          · cases h
        · cases h
      · cases h
  | .nil :: _, _, [], _, _, h, _ => by simp [cpMatch] at h
  | .vec _ :: _, _, [], _, _, h, _ => by simp [cpMatch] at h
  | .nil :: _, _, .any :: _, _, _, h, _ | .nil :: _, _, .kb _ :: _, _, _, h, _ | .nil :: _, _, .bool _ :: _, _, _, h, _ | .nil :: _, _, .int _ _ :: _, _, _, h, _ | .nil :: _, _, .str _ :: _, _, _, h, _
  | .nil :: _, _, .sl _ _ :: _, _, _, h, _ | .nil :: _, _, .vec _ :: _, _, _, h, _ | .nil :: _, _, .ptr _ _ :: _, _, _, h, _ | .nil :: _, _, .vptr _ _ _ _ :: _, _, _, h, _ | .nil :: _, _, .eptr _ _ :: _, _, _, h, _
  | .nil :: _, _, .nilp :: _, _, _, h, _ | .nil :: _, _, .agg _ :: _, _, _, h, _ | .nil :: _, _, .tup _ :: _, _, _, h, _ | .nil :: _, _, .clo _ _ _ :: _, _, _, h, _ | .nil :: _, _, .nilf :: _, _, _, h, _
  | .nil :: _, _, .mp _ :: _, _, _, h, _ | .nil :: _, _, .ifc _ :: _, _, _, h, _ | .nil :: _, _, .tab _ _ :: _, _, _, h, _ | .nil :: _, _, .gint :: _, _, _, h, _ => by simp [cpMatch] at h
  | .vec _ :: _, _, .any :: _, _, _, h, _ | .vec _ :: _, _, .kb _ :: _, _, _, h, _ | .vec _ :: _, _, .bool _ :: _, _, _, h, _ | .vec _ :: _, _, .int _ _ :: _, _, _, h, _ | .vec _ :: _, _, .str _ :: _, _, _, h, _
  | .vec _ :: _, _, .sl _ _ :: _, _, _, h, _ | .vec _ :: _, _, .nils :: _, _, _, h, _ | .vec _ :: _, _, .ptr _ _ :: _, _, _, h, _ | .vec _ :: _, _, .vptr _ _ _ _ :: _, _, _, h, _ | .vec _ :: _, _, .eptr _ _ :: _, _, _, h, _
  | .vec _ :: _, _, .nilp :: _, _, _, h, _ | .vec _ :: _, _, .agg _ :: _, _, _, h, _ | .vec _ :: _, _, .tup _ :: _, _, _, h, _ | .vec _ :: _, _, .clo _ _ _ :: _, _, _, h, _ | .vec _ :: _, _, .nilf :: _, _, _, h, _
  | .vec _ :: _, _, .mp _ :: _, _, _, h, _ | .vec _ :: _, _, .ifc _ :: _, _, _, h, _ | .vec _ :: _, _, .tab _ _ :: _, _, _, h, _ | .vec _ :: _, _, .gint :: _, _, _, h, _ => by simp [cpMatch] at h
end

theorem HpOk.box {C : Ctx} {w : World} {U : Nat → Prop} {ρ : Nat → Option Value} {cs : List AV} {os : List AO} {ps : List CP} {y : CSem ps} (hH : HpOk C w U ρ (fun j => ((AO.box cs :: os).getD j .dead))) (hl : os.length = cpCount ps)
    (hm : cpMatch (hpOf (.box cs :: os)) 1 ps cs = some y) : HpOk C w U ρ (fun j => (cpHeap ps y).getD j .dead) := by
  have h0 : objOk w U ρ 0 (.box cs) := hH.ob 0
  obtain ⟨b, T, vals, h1, h2, h3, h4, h5⟩ := h0
  obtain ⟨k1, k2⟩ := cpMatch_ok ps 1 cs y vals.toList hm h4
  have hobj : ∀ id, id ≠ 0 → (cpHeap ps y).getD id .dead = (AO.box cs :: os).getD id .dead := by
    intro id hid
    obtain ⟨j, rfl⟩ : ∃ j, id = j + 1 := ⟨id - 1, by omega⟩
    by_cases hj : j < (cpObjs ps y).length
    · have := k2 j _ (List.getElem?_eq_getElem hj)
      unfold cpHeap
      simp only [List.getD_cons_succ]
      rw [List.getD_eq_getElem?_getD, List.getElem?_eq_getElem hj]
      simp only [hpOf, Nat.add_comm 1 j, List.getD_cons_succ] at this
      simpa using this.symm
    · have h7 : os.length ≤ j := by rw [cpObjs_length] at hj; omega
      unfold cpHeap
      simp only [List.getD_cons_succ]
      rw [List.getD_eq_getElem?_getD, List.getD_eq_getElem?_getD, List.getElem?_eq_none (by omega), List.getElem?_eq_none h7]
  have hown : ∀ id b, ownsB ρ id ((cpHeap ps y).getD id .dead) b → ownsB ρ id ((AO.box cs :: os).getD id .dead) b := by
    intro id b' ho
    by_cases hid : id = 0
    · subst hid
      obtain ⟨_, v, hv, hb⟩ := ho
      exact ⟨rfl, v, hv, hb⟩
    · rw [hobj id hid] at ho; exact ho
  refine ⟨fun id => ?_, fun id1 id2 b' o1 o2 => hH.inj id1 id2 b' (hown _ _ o1) (hown _ _ o2), fun id b' o => hH.blk id b' (hown _ _ o)⟩
  by_cases hid : id = 0
  · subst hid
    exact ⟨b, T, vals, h1, h2, h3, k1, h5⟩
  · show objOk w U ρ id ((cpHeap ps y).getD id .dead)
    rw [hobj id hid]
    exact hH.ob id

def boxRes (ps : List CP) (outs : List Sh) (r : AV) (h : List AO) : Option (HArgs (outs.map some) × CSem ps) := match h with
  | .box cs :: os => if os.length = cpCount ps then match resOf [] outs r, cpMatch (hpOf (.box cs :: os)) 1 ps cs with
      | some a, some y => some (a, y)
      | _, _ => none
    else none
  | _ => none

def boxG (ps : List CP) (ks outs : List Sh) (ps' : List CP) (c : CSem ps → HArgs (ks.map some) → Bool) (g : CSem ps → HArgs (ks.map some) → HArgs (outs.map some) × CSem ps') : GSem (none :: ks.map some) := fun x h => match x.1, h with
  | .ptr 0 0, .box cs :: os => if os.length = cpCount ps then match cpMatch (hpOf (.box cs :: os)) 1 ps cs with
      | some y => .chk (c y x.2) (.ok (resAV outs (g y x.2).1, cpHeap ps' (g y x.2).2))
      | none => .err
    else .err
  | _, _ => .err

def boxF (ps : List CP) (ks outs : List Sh) (ps' : List CP) (c : CSem ps → HArgs (ks.map some) → Bool) (g : CSem ps → HArgs (ks.map some) → HArgs (outs.map some) × CSem ps') : FSem := liftF (none :: ks.map some) (boxG ps ks outs ps' c g)

theorem cpHeap_length (ps : List CP) (y : CSem ps) : (cpHeap ps y).length = cpCount ps + 1 := by
  simp [cpHeap, cpObjs_length]

theorem resOf_nil {w : World} {U : Nat → Prop} {ρ : Nat → Option Value} {outs : List Sh} {r : AV} {y : HArgs (outs.map some)} {v : Value} (h : resOf [] outs r = some y) (hr : Rv w U ρ r v) : Rv w U ρ (resAV outs y) v := by
  have hob : ∀ id, objOk w U ρ id (hpOf [] id) ∧ ∀ b, ownsB ρ id (hpOf [] id) b → ¬ U b := fun id => ⟨by simp [hpOf, objOk], fun b hb => by simp [hpOf, ownsB, AO.owns] at hb⟩
  have htup : ∀ (outs : List Sh) (y : HArgs (outs.map some)) (rs : List AV), packT (hpOf []) (fun i => i) (outs.map some) rs = some y → Rv w U ρ (.tup rs) v → Rv w U ρ (.tup (avs (outs.map some) y)) v := by
    intro outs y rs hy hrv
    cases hrv with
    | tup _ vs hl hr2 =>
    have := (packArgs_ok (w := w) (U := U) (ρ := ρ) (U' := U) (ρ' := ρ) (hp := hpOf []) (f := fun i => i) (fun b hb => hb) (outs.map some) rs vs _ (packArgs_of outs rs y hy) ⟨hl, hr2⟩ (fun id _ => hob id)
      (fun id _ => rfl)).1
    simp only [List.map_map, Function.comp_def, Bool.false_eq_true, if_false, List.map_id'] at this
    exact .tup _ vs this.len this.rv
  match outs, y, h with
  | [s], y, h =>
    simp only [resOf] at h
    split at h
    · rename_i x hx
      cases h
      exact datum_rv hx hr (fun b hb => hb) (fun id _ => hob id)
    · cases h
  | [], y, h =>
    simp only [resOf] at h
    cases r with
    | tup rs => exact htup [] y _ h hr
    | _ => cases h
  | s1 :: s2 :: ss, y, h =>
    simp only [resOf] at h
    cases r with
    | tup rs => exact htup _ y _ h hr
    | _ => cases h

theorem FOk_box {E : Env} {k : FuncId} {f : Func} {ps : List CP} {ks outs : List Sh} {ps' : List CP} {c : CSem ps → HArgs (ks.map some) → Bool} {g : CSem ps → HArgs (ks.map some) → HArgs (outs.map some) × CSem ps'} (hf : fnChk E.P k f (ks.length + 1))
    (h : ∀ y x, c y x = true → ∀ C : Ctx, (∀ id, cpCount ps + 1 ≤ id → C.ρ0 id = none) → Reach E C k (bodyOf f) (initSt f.ntmps (.ptr 0 0 :: avs (ks.map some) x) (cpHeap ps y)) (fun r h => boxRes ps' outs r h = some (g y x))) :
    FOk E.P E.gl k (boxF ps ks outs ps' c g) := by
  refine FOk_of (by simpa using hf) fun x h0 res hx C hC => ?_
  obtain ⟨x0, x⟩ := x
  unfold boxG at hx
  simp only at hx
  split at hx
  · rename_i cs os
    split at hx
    · rename_i hos
      split at hx
      · rename_i y hy
        simp only [Tr.val] at hx
        split at hx
        · rename_i hc
          simp only [Option.some.injEq] at hx
          subst hx
          have hR := h y x hc C (fun id hid => hC id (by simpa [hos] using hid))
          intro b cs' a w U ρ h1 h2 hcn hW
          have hH : HpOk C w U ρ (fun j => ((AO.box cs :: os).getD j .dead)) := hcn.hp
          have hcn' : Cn C (initSt f.ntmps (.ptr 0 0 :: avs (ks.map some) x) (cpHeap ps y)) a w U ρ :=
            ⟨hcn.tm, hH.box hos hy, fun id hid => hcn.new id (by have hid : (cpHeap ps y).length ≤ id := hid; rw [cpHeap_length] at hid; simpa [initSt, hos] using hid), hcn.df, hcn.r0⟩
          obtain ⟨e, w', fr, ⟨v, r, h', U', ρ', he, hq, hrv, hH', hnew, hr0, hWd⟩, hcm, hf', hl⟩ := hR b cs' a w U ρ h1 h2 hcn' hW
          unfold boxRes at hq
          split at hq
          · rename_i cs2 os2
            split at hq
            · rename_i hos2
              split at hq
              · rename_i a' y' ha' hy'
                simp only [Option.some.injEq] at hq
                refine ⟨e, w', fr, ⟨v, _, _, U', ρ', he, by rw [← hq], resOf_nil ha' hrv, hH'.box hos2 hy', fun id hid => hnew id (by rw [cpHeap_length] at hid; simpa [hos2] using hid), hr0, hWd⟩, hcm, hf', hl⟩
              · cases hq
            · cases hq
          · cases hq
        · simp at hx
      · simp at hx
    · simp at hx
  · simp at hx

open Go Go.Proofs
set_option maxHeartbeats 4000000

noncomputable def F92p : FSem := liftF (List.replicate 2 none) (autoG env44 Tryz.f92 (List.replicate 2 none))
theorem FOk92p : FOk env44.P env44.gl 92 F92p := FOk_auto _ env44_all env44_mix (by refine ⟨?_, ?_, ?_, ?_⟩ <;> kernel_rfl)

abbrev kp22p : Nat → Keep := fun _ => { }
theorem ok22p : fnChk (env44).P 22 Tryz.f22 1 := by refine ⟨?_, ?_, ?_, ?_⟩ <;> kernel_rfl
theorem go22p (x0 : TS) : run (env44) 0 kp22p (Func.results Tryz.f22).toList 400 (bodyOf Tryz.f22) (initSt (Func.ntmps Tryz.f22) [datum Sh.str x0] []) = Tr.br (decide ((↑(List.length x0) : Int) > 20)) (Tr.chk (decide (0 ≤ 0) && decide (0 ≤ 20) && decide (20 ≤ (↑(List.length x0) : Int))) (Tr.ok (Leaf.ret (AV.str (List.take (Int.toNat 20 - Int.toNat 0) (List.drop (Int.toNat 0) x0))) []))) (Tr.ok (Leaf.ret (AV.str x0) [])) := by kernel_rfl
def l5Text (x0 : TS) : Sem Sh.str := (if decide ((↑(List.length x0) : Int) > 20) = true then List.take (Int.toNat 20 - Int.toNat 0) (List.drop (Int.toNat 0) x0) else x0)
def l5TextC (x0 : TS) : Bool := (if decide ((↑(List.length x0) : Int) > 20) = true then if (decide (0 ≤ 0) && decide (0 ≤ 20) && decide (20 ≤ (↑(List.length x0) : Int))) = true then true else false else true)
def F22p : FSem := plainC [Sh.str] [Sh.str] (fun x => l5TextC x.1) fun x => (l5Text x.1, ())
theorem FOk22p : FOk (env44).P (env44).gl 22 F22p := by
  refine FOk_plainC (ok22p) fun x hc C hC => ?_
  unfold l5TextC at hc
  refine reach_ok env44_all env44_mix (ok22p) (fun id _ => hC id) (go22p x.1) ?_
  generalize hy : l5Text x.1 = y
  unfold l5Text at hy
  try simp only [ExprT.eta]
  repeat' (first | with_reducible refine obr hy hc (fun _ hy hc => ?_) (fun _ hy hc => ?_) | with_reducible refine obr1 hy (fun _ hy => ?_) (fun _ hy => ?_) | with_reducible refine ochk hc (fun hc => ?_) | with_reducible refine OptOk_chkT ?_)
  all_goals first | (cases hc; done) | (subst hy; first | rfl)

abbrev kp180p : Nat → Keep := fun _ => { }
theorem ok180p : fnChk (env44).P 180 Tryz.f180 3 := by refine ⟨?_, ?_, ?_, ?_⟩ <;> kernel_rfl
theorem go180p (x0 : Sem shVal.sl) (x1 : Sem shInt) (x2 : Sem shVal) : run (env44) 0 kp180p (Func.results Tryz.f180).toList 400 (bodyOf Tryz.f180) (initSt (Func.ntmps Tryz.f180) [datum shVal.sl x0, datum shInt x1, datum shVal x2] []) = Tr.chk (bif decide (x1 ≥ 0) then bif decide (x1 < (↑(List.length x0) : Int)) then inB x1 (List.length x0) else true else true) (Tr.ok (Leaf.ret (AV.bool (bif decide (x1 ≥ 0) then bif decide (x1 < (↑(List.length x0) : Int)) then (List.getD x0 (Int.toNat x1) (dflt shVal)).1 == x2.1 && ((List.getD x0 (Int.toNat x1) (dflt shVal)).2.1 == x2.2.1 && ((List.getD x0 (Int.toNat x1) (dflt shVal)).2.2 == x2.2.2 && true)) else false else false)) [])) := by kernel_rfl
def rHolds (x0 : Sem shVal.sl) (x1 : Sem shInt) (x2 : Sem shVal) : Sem Sh.bool := (bif decide (x1 ≥ 0) then bif decide (x1 < (↑(List.length x0) : Int)) then (List.getD x0 (Int.toNat x1) (dflt shVal)).1 == x2.1 && ((List.getD x0 (Int.toNat x1) (dflt shVal)).2.1 == x2.2.1 && ((List.getD x0 (Int.toNat x1) (dflt shVal)).2.2 == x2.2.2 && true)) else false else false)
def rHoldsC (x0 : Sem shVal.sl) (x1 : Sem shInt) (_ : Sem shVal) : Bool := (if (bif decide (x1 ≥ 0) then bif decide (x1 < (↑(List.length x0) : Int)) then inB x1 (List.length x0) else true else true) = true then true else false)
def F180p : FSem := plainC [shVal.sl, shInt, shVal] [Sh.bool] (fun x => rHoldsC x.1 x.2.1 x.2.2.1) fun x => (rHolds x.1 x.2.1 x.2.2.1, ())
theorem FOk180p : FOk (env44).P (env44).gl 180 F180p := by
  refine FOk_plainC (ok180p) fun x hc C hC => ?_
  unfold rHoldsC at hc
  refine reach_ok env44_all env44_mix (ok180p) (fun id _ => hC id) (go180p x.1 x.2.1 x.2.2.1) ?_
  generalize hy : rHolds x.1 x.2.1 x.2.2.1 = y
  unfold rHolds at hy
  try simp only [ExprT.eta]
  repeat' (first | with_reducible refine obr hy hc (fun _ hy hc => ?_) (fun _ hy hc => ?_) | with_reducible refine obr1 hy (fun _ hy => ?_) (fun _ hy => ?_) | with_reducible refine ochk hc (fun hc => ?_) | with_reducible refine OptOk_chkT ?_)
  all_goals first | (cases hc; done) | (subst hy; first | rfl)

abbrev kp122p : Nat → Keep := fun j => if j = 3 then { slots := [1, 5, 11, 12, 13] } else { }
abbrev s122p_3 (i1 : Sem shInt) (l11 : List (Sem shVal.sl)) (i12 : Int) (i13 : Int) (mh_0 : List ((Int × Int × Str) × Int)) : St := { tmps := [ny, ai i1, ny, ny, ny, AV.mp 0, ny, ny, ny, ny, ny, AV.sl shVal.sl l11, ai i12, ai i13, ny, ny, ny, ny, ny, ny, ny, ny, ny, ny, ny, ny, ny, ny, ny, ny, ny, ny, ny, ny, ny, ny, ny], heap := [AO.vmap false mh_0] }
theorem ok122p : fnChk (env44).P 122 Tryz.f122 2 := by refine ⟨?_, ?_, ?_, ?_⟩ <;> kernel_rfl
theorem go122p (x0 : Sem shRel) (x1 : Sem shInt) : run (env44) 0 kp122p (Func.results Tryz.f122).toList 400 (bodyOf Tryz.f122) (initSt (Func.ntmps Tryz.f122) [datum shRel x0, datum shInt x1] []) = Tr.ok (Leaf.head 3 (headK Tryz.f122 3) (s122p_3 x1 x0.2 (↑(List.length x0.2) : Int) 0 [])) := by kernel_rfl
theorem on122p_3 (i1 : Sem shInt) (l11 : List (Sem shVal.sl)) (i12 : Int) (i13 : Int) (mh_0 : List ((Int × Int × Str) × Int)) : run (env44) 0 kp122p (Func.results Tryz.f122).toList 400 (headK Tryz.f122 3) (s122p_3 i1 l11 i12 i13 mh_0) = Tr.br (decide (i13 < i12)) (Tr.chk (inB i13 l11.length) (Tr.chk (inB i1 (List.length (l11.getD i13.toNat (dflt shVal.sl)))) (Tr.chk (decide (mh_0.length ≤ 1073741824)) (Tr.chk (inB (↑(vidx mh_0 (List.getD (l11.getD i13.toNat (dflt shVal.sl)) (Int.toNat i1) (dflt shVal))) : Int) (vent mh_0 (List.getD (l11.getD i13.toNat (dflt shVal.sl)) (Int.toNat i1) (dflt shVal))).length) (Tr.br (bif (List.getD (l11.getD i13.toNat (dflt shVal.sl)) (Int.toNat i1) (dflt shVal)).1 != 0 then decide (vget (vsetAt (vent mh_0 (List.getD (l11.getD i13.toNat (dflt shVal.sl)) (Int.toNat i1) (dflt shVal))) (↑(vidx mh_0 (List.getD (l11.getD i13.toNat (dflt shVal.sl)) (Int.toNat i1) (dflt shVal))) : Int).toNat (IntKind.i64.wrap (vget mh_0 (List.getD (l11.getD i13.toNat (dflt shVal.sl)) (Int.toNat i1) (dflt shVal)) + 1))) (List.getD (l11.getD i13.toNat (dflt shVal.sl)) (Int.toNat i1) (dflt shVal)) > 1) else false) (Tr.ok (Leaf.ret (AV.kb true) [])) (Tr.ok (Leaf.head 3 (headK Tryz.f122 3) (s122p_3 i1 l11 i12 (IntKind.i64.wrap (i13 + 1)) (vsetAt (vent mh_0 (List.getD (l11.getD i13.toNat (dflt shVal.sl)) (Int.toNat i1) (dflt shVal))) (↑(vidx mh_0 (List.getD (l11.getD i13.toNat (dflt shVal.sl)) (Int.toNat i1) (dflt shVal))) : Int).toNat (IntKind.i64.wrap (vget mh_0
 (List.getD (l11.getD i13.toNat (dflt shVal.sl)) (Int.toNat i1) (dflt shVal)) + 1))))))))))) (Tr.ok (Leaf.ret (AV.kb false) [])) := by kernel_rfl
def rTwice_3 : Nat → (Sem shInt) → (List (Sem shVal.sl)) → Int → Int → (List ((Int × Int × Str) × Int)) → Sem Sh.bool
  | 0, _, _, _, _, _ => default
  | n + 1, i1, l11, i12, i13, mh_0 => (if decide (i13 < i12) = true then
  if
      (bif
            (List.getD (l11.getD i13.toNat (dflt shVal.sl)) (Int.toNat i1)
                  (dflt shVal)).1 !=
              0 then
          decide
            (vget
                (vsetAt
                  (vent mh_0
                    (List.getD (l11.getD i13.toNat (dflt shVal.sl)) (Int.toNat i1)
                      (dflt shVal)))
                  (↑(vidx mh_0
                          (List.getD (l11.getD i13.toNat (dflt shVal.sl)) (Int.toNat i1)
                            (dflt shVal))) :
                      Int).toNat
                  (IntKind.i64.wrap
                    (vget mh_0
                        (List.getD (l11.getD i13.toNat (dflt shVal.sl)) (Int.toNat i1)
                          (dflt shVal)) +
                      1)))
                (List.getD (l11.getD i13.toNat (dflt shVal.sl)) (Int.toNat i1)
                  (dflt shVal)) >
              1)
        else false) =
        true then
    true
  else
    rTwice_3 n i1 l11 i12 (IntKind.i64.wrap (i13 + 1))
      (vsetAt
        (vent mh_0
          (List.getD (l11.getD i13.toNat (dflt shVal.sl)) (Int.toNat i1)
            (dflt shVal)))
        (↑(vidx mh_0
                (List.getD (l11.getD i13.toNat (dflt shVal.sl)) (Int.toNat i1)
                  (dflt shVal))) :
            Int).toNat
        (IntKind.i64.wrap
          (vget mh_0
              (List.getD (l11.getD i13.toNat (dflt shVal.sl)) (Int.toNat i1)
                (dflt shVal)) +
            1)))
else false)
def rTwiceC_3 : Nat → (Sem shInt) → (List (Sem shVal.sl)) → Int → Int → (List ((Int × Int × Str) × Int)) → Bool
  | 0, _, _, _, _, _ => false
  | n + 1, i1, l11, i12, i13, mh_0 => (if decide (i13 < i12) = true then
  if inB i13 l11.length = true then
    if inB i1 (List.length (l11.getD i13.toNat (dflt shVal.sl))) = true then
      if decide (mh_0.length ≤ 1073741824) = true then
        if
            inB
                (↑(vidx mh_0
                      (List.getD (l11.getD i13.toNat (dflt shVal.sl)) (Int.toNat i1)
                        (dflt shVal))) :
                  Int)
                (vent mh_0
                    (List.getD (l11.getD i13.toNat (dflt shVal.sl)) (Int.toNat i1)
                      (dflt shVal))).length =
              true then
          if
              (bif
                    (List.getD (l11.getD i13.toNat (dflt shVal.sl)) (Int.toNat i1)
                          (dflt shVal)).1 !=
                      0 then
                  decide
                    (vget
                        (vsetAt
                          (vent mh_0
                            (List.getD (l11.getD i13.toNat (dflt shVal.sl)) (Int.toNat i1)
                              (dflt shVal)))
                          (↑(vidx mh_0
                                  (List.getD (l11.getD i13.toNat (dflt shVal.sl)) (Int.toNat i1)
                                    (dflt shVal))) :
                              Int).toNat
                          (IntKind.i64.wrap
                            (vget mh_0
                                (List.getD (l11.getD i13.toNat (dflt shVal.sl)) (Int.toNat i1)
                                  (dflt shVal)) +
                              1)))
                        (List.getD (l11.getD i13.toNat (dflt shVal.sl)) (Int.toNat i1)
                          (dflt shVal)) >
                      1)
                else false) =
                true then
            true
          else
            rTwiceC_3 n i1 l11 i12 (IntKind.i64.wrap (i13 + 1))
              (vsetAt
                (vent mh_0
                  (List.getD (l11.getD i13.toNat (dflt shVal.sl)) (Int.toNat i1)
                    (dflt shVal)))
                (↑(vidx mh_0
                        (List.getD (l11.getD i13.toNat (dflt shVal.sl)) (Int.toNat i1)
                          (dflt shVal))) :
                    Int).toNat
                (IntKind.i64.wrap
                  (vget mh_0
                      (List.getD (l11.getD i13.toNat (dflt shVal.sl)) (Int.toNat i1)
                        (dflt shVal)) +
                    1)))
        else false
      else false
    else false
  else false
else true)
theorem at122p_3 {C : Ctx} (hC : ∀ id, C.ρ0 id = none) : ∀ (n : Nat) (i1 : Sem shInt) (l11 : List (Sem shVal.sl)) (i12 : Int) (i13 : Int) (mh_0 : List ((Int × Int × Str) × Int)), rTwiceC_3 n i1 l11 i12 i13 mh_0 = true →
    Reach (env44) C 122 (headK Tryz.f122 3) (s122p_3 i1 l11 i12 i13 mh_0) (fun r h => resOf h [Sh.bool] r = some (rTwice_3 n i1 l11 i12 i13 mh_0, ()))
  | 0, i1, l11, i12, i13, mh_0, hc => by cases hc
  | n + 1, i1, l11, i12, i13, mh_0, hc => by
    refine reach_ok env44_all env44_mix (ok122p) (fun id _ => hC id) (on122p_3 _ _ _ _ _) ?_
    rw [rTwiceC_3] at hc
    generalize hy : rTwice_3 (n + 1) i1 l11 i12 i13 mh_0 = y
    rw [rTwice_3] at hy
    try simp only [ExprT.eta]
    repeat' (first | with_reducible refine obr hy hc (fun _ hy hc => ?_) (fun _ hy hc => ?_) | with_reducible refine obr1 hy (fun _ hy => ?_) (fun _ hy => ?_) | with_reducible refine ochk hc (fun hc => ?_) | with_reducible refine OptOk_chkT ?_)
    all_goals first | (cases hc; done) | (subst hy; first | (change Reach _ _ _ _ _ _; refine at122p_3 hC n _ _ _ _ _ ?_ <;> exact hc) | rfl)
def rTwice (x0 : Sem shRel) (x1 : Sem shInt) : Sem Sh.bool := (rTwice_3 100000000 x1 x0.2 (↑(List.length x0.2) : Int) 0 [])
def rTwiceC (x0 : Sem shRel) (x1 : Sem shInt) : Bool := (rTwiceC_3 100000000 x1 x0.2 (↑(List.length x0.2) : Int) 0 [])
def F122p : FSem := plainC [shRel, shInt] [Sh.bool] (fun x => rTwiceC x.1 x.2.1) fun x => (rTwice x.1 x.2.1, ())
theorem FOk122p : FOk (env44).P (env44).gl 122 F122p := by
  refine FOk_plainC (ok122p) fun x hc C hC => ?_
  unfold rTwiceC at hc
  refine reach_ok env44_all env44_mix (ok122p) (fun id _ => hC id) (go122p x.1 x.2.1) ?_
  generalize hy : rTwice x.1 x.2.1 = y
  unfold rTwice at hy
  try simp only [ExprT.eta]
  repeat' (first | with_reducible refine obr hy hc (fun _ hy hc => ?_) (fun _ hy hc => ?_) | with_reducible refine obr1 hy (fun _ hy => ?_) (fun _ hy => ?_) | with_reducible refine ochk hc (fun hc => ?_) | with_reducible refine OptOk_chkT ?_)
  all_goals first | (cases hc; done) | (subst hy; first | (change Reach _ _ _ _ _ _; refine at122p_3 hC _ _ _ _ _ _ ?_ <;> exact hc) | rfl)

abbrev kp13p : Nat → Keep := fun j => if j = 2 then { slots := [0, 1, 5] } else { }
abbrev s13p_2 (l0 : List (Sem shRel)) (s1 : TS) (i5 : Int) : St := { tmps := [AV.sl shRel l0, AV.str s1, ny, ny, ny, ai i5, ny, ny, ny, ny, ny, ny, ny, ny, ny, ny, ny, ny, ny, ny, ny], heap := [] }
theorem ok13p : fnChk (env44).P 13 Tryz.f13 2 := by refine ⟨?_, ?_, ?_, ?_⟩ <;> kernel_rfl
theorem go13p (x0 : Sem shRel.sl) (x1 : TS) : run (env44) 0 kp13p (Func.results Tryz.f13).toList 400 (bodyOf Tryz.f13) (initSt (Func.ntmps Tryz.f13) [datum shRel.sl x0, datum Sh.str x1] []) = Tr.ok (Leaf.head 2 (headK Tryz.f13 2) (s13p_2 x0 x1 0)) := by kernel_rfl
theorem on13p_2 (l0 : List (Sem shRel)) (s1 : TS) (i5 : Int) : run (env44) 0 kp13p (Func.results Tryz.f13).toList 400 (headK Tryz.f13 2) (s13p_2 l0 s1 i5) = Tr.br (decide (i5 < (↑l0.length : Int))) (Tr.chk (inB i5 l0.length) (Tr.br ((l0.getD i5.toNat (dflt shRel)).1.1 == s1) (Tr.ok (Leaf.ret (ai i5) [])) (Tr.ok (Leaf.head 2 (headK Tryz.f13 2) (s13p_2 l0 s1 (IntKind.i64.wrap (i5 + 1))))))) (Tr.ok (Leaf.ret (ai (-1)) [])) := by kernel_rfl
def r8Find_2 (s1 : TS) : List
  (Sem shRel) → Int → Sem shInt
  | [], _ => (-1)
  | x :: r, i5 => (if (x.1.1 == s1) = true then i5 else r8Find_2 s1 r (i5 + 1))
theorem at13p_2 {C : Ctx} (hC : ∀ id, C.ρ0 id = none) (s1 : TS) (l0 : List
  (Sem shRel)) (hl : l0.length ≤ maxStr) : ∀ (m i : Nat), l0.length - i = m → i ≤ l0.length →
    Reach (env44) C 13 (headK Tryz.f13 2) (s13p_2 l0 s1 (i : Int)) (fun r h => resOf h [shInt] r = some (r8Find_2 s1 (l0.drop i) i, ())) := by
  intro m
  induction m with
  | zero =>
    intro i hm hi
    obtain rfl : i = l0.length := by omega
    rw [List.drop_length]
    refine reach_ok env44_all env44_mix (ok13p) (fun id _ => hC id) (on13p_2 _ _ _) ?_
    generalize hy : r8Find_2 s1 [] _ = y
    rw [r8Find_2] at hy
    simp only [lt_dec', Tr.val_brF]
    repeat' (first | with_reducible refine obr1 hy (fun _ hy => ?_) (fun _ hy => ?_) | with_reducible refine OptOk_chkT ?_)
    all_goals first | (cases hc; done) | (subst hy; first | rfl)
  | succ m IH =>
    intro i hm hi
    have hlt : i < l0.length := by omega
    have IH := IH (i + 1)
    have hcast : ((i : Int) + 1) = ((i + 1 : Nat) : Int) := by omega
    have hwr := wrap_add i (by omega)
    rw [List.drop_eq_getElem_cons hlt]
    refine reach_ok env44_all env44_mix (ok13p) (fun id _ => hC id) (on13p_2 _ _ _) ?_
    generalize hy : r8Find_2 s1 (l0[i] :: l0.drop (i + 1)) (i : Int) = y
    rw [r8Find_2] at hy
    simp only [lt_dec hlt, inB_of hlt, getD_at l0 _ hlt, hwr, Tr.val_brT, Tr.val_chkT]
    clear hwr
    try simp only [inB_of hlt] at hy
    simp only [hcast] at hy
    repeat' (first | with_reducible refine obr1 hy (fun _ hy => ?_) (fun _ hy => ?_) | with_reducible refine OptOk_chkT ?_)
    all_goals first | (cases hc; done) | (subst hy; first | (change Reach _ _ _ _ _ _; apply IH <;> first | omega | assumption) | rfl)
theorem at13p_2s {C : Ctx} (hC : ∀ id, C.ρ0 id = none) (s1 : TS) (l0 : List
  (Sem shRel)) :
    Reach (env44) C 13 (headK Tryz.f13 2) (s13p_2 l0 s1 0) (fun r h => resOf h [shInt] r = some (r8Find_2 s1 l0 0, ())) :=
  Reach.len 0 shRel l0 rfl fun hl => at13p_2 hC s1 l0 hl _ 0 rfl (Nat.zero_le _)
def r8Find (x0 : Sem shRel.sl) (x1 : TS) : Sem shInt := (r8Find_2 x1 x0 0)
def F13p : FSem := plainT [shRel.sl, Sh.str] [shInt] fun x => (r8Find x.1 x.2.1, ())
theorem FOk13p : FOk (env44).P (env44).gl 13 F13p := by
  refine FOk_plainT (ok13p) fun x C hC => ?_
  refine reach_ok env44_all env44_mix (ok13p) (fun id _ => hC id) (go13p x.1 x.2.1) ?_
  generalize hy : r8Find x.1 x.2.1 = y
  unfold r8Find at hy
  try simp only [ExprT.eta]
  repeat' (first | with_reducible refine obr1 hy (fun _ hy => ?_) (fun _ hy => ?_) | with_reducible refine OptOk_chkT ?_)
  all_goals first | (cases hc; done) | (subst hy; first | (change Reach _ _ _ _ _ _; apply at13p_2s hC <;> first | assumption | exact hc) | rfl)

noncomputable def env45 : Env := (((((env44.add 92 F92p).add 22 F22p).add 180 F180p).add 122 F122p).add 13 F13p)
theorem env45_all : EnvAll env45 := (EnvAll.addS (EnvAll.addS (EnvAll.addS (EnvAll.addS (EnvAll.addS env44_all (SameE.refl env44) FOk92p) ((SameE.refl env44).add _ _) FOk22p) (((SameE.refl env44).add _ _).add _ _) FOk180p) ((((SameE.refl env44).add _ _).add _ _).add _ _) FOk122p) (((((SameE.refl env44).add _ _).add _ _).add _ _).add _ _) FOk13p)
theorem env45_mix : env45.P.follows .mixedOrders = true := (mix_add (mix_add (mix_add (mix_add (mix_add env44_mix _ _) _ _) _ _) _ _) _ _)
open Go Go.Proofs
set_option maxHeartbeats 4000000

theorem rHoldsC_true (x : Sem (Sh.sl shVal)) (c : Int) (v : Sem shVal) : rHoldsC x c v = true := by
  unfold rHoldsC
  by_cases h1 : (c : Int) ≥ 0
  · by_cases h2 : c < (List.length x : Int)
    · have h3 : inB c (List.length x) = true := by simp [inB]; exact ⟨h1, h2⟩
      simp [decide_eq_true h1, decide_eq_true h2, h3]
    · simp [decide_eq_true h1, decide_eq_false h2]
  · simp [decide_eq_false h1]
def F180t : FSem := plainT [Sh.sl shVal, shInt, shVal] [Sh.bool] fun x => (rHolds x.1 x.2.1 x.2.2.1, ())
theorem FOk180t : FOk env45.P env45.gl 180 F180t := FOk_tot FOk180p fun x => rHoldsC_true x.1 x.2.1 x.2.2.1

abbrev kp23p : Nat → Keep := fun j => if j = 3 then { slots := [0, 3, 4], prom := [(3, none, .str)] } else { }
abbrev s23p_3 (l0 : LS) (i4 : Int) (lh_0 : LS) : St := { tmps := [AV.sl Sh.str l0, ny, ny, AV.vec 0, ai i4, ny, ny, ny, ny, ny, ny, ny, ny, ny, ny, ny, ny, ny, ny, ny, ny, ny, ny, ny], heap := [AO.vec Sh.str lh_0] }
theorem ok23p : fnChk (env45).P 23 Tryz.f23 1 := by refine ⟨?_, ?_, ?_, ?_⟩ <;> kernel_rfl
theorem go23p (x0 : Sem Sh.str.sl) : run (env45) 0 kp23p (Func.results Tryz.f23).toList 400 (bodyOf Tryz.f23) (initSt (Func.ntmps Tryz.f23) [datum Sh.str.sl x0] []) = Tr.ok (Leaf.head 3 (headK Tryz.f23 3) (s23p_3 x0 0 [])) := by kernel_rfl
theorem on23p_3 (l0 : LS) (i4 : Int) (lh_0 : LS) : run (env45) 0 kp23p (Func.results Tryz.f23).toList 400 (headK Tryz.f23 3) (s23p_3 l0 i4 lh_0) = Tr.br (bif decide (i4 < (↑l0.length : Int)) then decide (i4 < 10) else false) (Tr.chk (inB i4 l0.length) (Tr.chk (l5TextC (l0.getD i4.toNat (dflt Sh.str))) (Tr.chk (decide (lh_0.length + [l5Text (l0.getD i4.toNat (dflt Sh.str))].length ≤ 1073741824)) (Tr.ok (Leaf.head 3 (headK Tryz.f23 3) (s23p_3 l0 (IntKind.i64.wrap (i4 + 1)) (lh_0 ++ [l5Text (l0.getD i4.toNat (dflt Sh.str))]))))))) (Tr.ok (Leaf.ret (AV.vec 0) [AO.vec Sh.str lh_0])) := by kernel_rfl
def l5Names_3 : List (Sem Sh.str) → Int → List (Sem Sh.str) → Sem Sh.str.sl
  | [], _, lh_0 => (lh_0)
  | x :: r, i4, lh_0 => (if decide (i4 < 10) = true then l5Names_3 r (i4 + 1) (lh_0 ++ [l5Text x]) else lh_0)
def l5NamesC_3 : List (Sem Sh.str) → Int → List (Sem Sh.str) → Bool
  | [], _, _ => (true)
  | x :: r, i4, lh_0 => (if decide (i4 < 10) = true then
  if l5TextC x = true then if decide (lh_0.length + [l5Text x].length ≤ 1073741824) = true then l5NamesC_3 r (i4 + 1) (lh_0 ++ [l5Text x]) else false else false
else true)
theorem at23p_3 {C : Ctx} (hC : ∀ id, C.ρ0 id = none) (l0 : LS) (hl : l0.length ≤ maxStr) : ∀ (m i : Nat) (lh_0 : LS), l0.length - i = m → i ≤ l0.length → l5NamesC_3 (l0.drop i) i lh_0 = true →
    Reach (env45) C 23 (headK Tryz.f23 3) (s23p_3 l0 (i : Int) lh_0) (fun r h => resOf h [Sh.str.sl] r = some (l5Names_3 (l0.drop i) i lh_0, ())) := by
  intro m
  induction m with
  | zero =>
    intro i lh_0 hm hi hc
    obtain rfl : i = l0.length := by omega
    rw [List.drop_length] at hc ⊢
    refine reach_ok env45_all env45_mix (ok23p) (fun id _ => hC id) (on23p_3 _ _ _) ?_
    rw [l5NamesC_3] at hc
    generalize hy : l5Names_3 [] _ lh_0 = y
    rw [l5Names_3] at hy
    simp only [lt_dec', cond_false, Tr.val_brF]
    repeat' (first | with_reducible refine obr hy hc (fun _ hy hc => ?_) (fun _ hy hc => ?_) | with_reducible refine obr1 hy (fun _ hy => ?_) (fun _ hy => ?_) | with_reducible refine ochk hc (fun hc => ?_) | with_reducible refine OptOk_chkT ?_)
    all_goals first | (cases hc; done) | (subst hy; first | rfl)
  | succ m IH =>
    intro i lh_0 hm hi hc
    have hlt : i < l0.length := by omega
    have IH := IH (i + 1)
    have hcast : ((i : Int) + 1) = ((i + 1 : Nat) : Int) := by omega
    have hwr := wrap_add i (by omega)
    rw [List.drop_eq_getElem_cons hlt] at hc ⊢
    refine reach_ok env45_all env45_mix (ok23p) (fun id _ => hC id) (on23p_3 _ _ _) ?_
    rw [l5NamesC_3] at hc
    generalize hy : l5Names_3 (l0[i] :: l0.drop (i + 1)) (i : Int) lh_0 = y
    rw [l5Names_3] at hy
    simp only [lt_dec hlt, inB_of hlt, getD_at l0 _ hlt, hwr, cond_true]
    clear hwr
    try simp only [inB_of hlt] at hy
    simp only [hcast] at hy
    try simp only [inB_of hlt] at hc
    try simp only [hcast] at hc
    repeat' (first | with_reducible refine obr hy hc (fun _ hy hc => ?_) (fun _ hy hc => ?_) | with_reducible refine obr1 hy (fun _ hy => ?_) (fun _ hy => ?_) | with_reducible refine ochk hc (fun hc => ?_) | with_reducible refine OptOk_chkT ?_)
    all_goals first | (cases hc; done) | (subst hy; first | (change Reach _ _ _ _ _ _; apply IH <;> first | omega | assumption) | rfl)
theorem at23p_3s {C : Ctx} (hC : ∀ id, C.ρ0 id = none) (l0 : LS) (lh_0 : LS) (hc : l5NamesC_3 l0 0 lh_0 = true) :
    Reach (env45) C 23 (headK Tryz.f23 3) (s23p_3 l0 0 lh_0) (fun r h => resOf h [Sh.str.sl] r = some (l5Names_3 l0 0 lh_0, ())) :=
  Reach.len 0 (Sh.str) l0 rfl fun hl => at23p_3 hC l0 hl _ 0 lh_0 rfl (Nat.zero_le _) hc
def l5Names (x0 : Sem Sh.str.sl) : Sem Sh.str.sl := (l5Names_3 x0 0 [])
def l5NamesC (x0 : Sem Sh.str.sl) : Bool := (l5NamesC_3 x0 0 [])
def F23p : FSem := plainC [Sh.str.sl] [Sh.str.sl] (fun x => l5NamesC x.1) fun x => (l5Names x.1, ())
theorem FOk23p : FOk (env45).P (env45).gl 23 F23p := by
  refine FOk_plainC (ok23p) fun x hc C hC => ?_
  unfold l5NamesC at hc
  refine reach_ok env45_all env45_mix (ok23p) (fun id _ => hC id) (go23p x.1) ?_
  generalize hy : l5Names x.1 = y
  unfold l5Names at hy
  try simp only [ExprT.eta]
  repeat' (first | with_reducible refine obr hy hc (fun _ hy hc => ?_) (fun _ hy hc => ?_) | with_reducible refine obr1 hy (fun _ hy => ?_) (fun _ hy => ?_) | with_reducible refine ochk hc (fun hc => ?_) | with_reducible refine OptOk_chkT ?_)
  all_goals first | (cases hc; done) | (subst hy; first | (change Reach _ _ _ _ _ _; apply at23p_3s hC <;> first | assumption | exact hc) | rfl)

abbrev s91p_92 (s : Str) (l : List (Sem shRel)) (i : Int) : St := { tmps := [.sl shRel l, .clo (.func 92) [] [.ptr 0 0], .any, .any, .any, .any, .any, .int .i64 l.length, .int .i64 i, .any, .any, .any, .any, .any, .any, .any, .any, .any, .any], heap := [.box [.str s]] }
theorem go91p_92 (s : Str) (l : List (Sem shRel)) : run env45 1 kpIx Tryz.f91.results.toList 300 (bodyOf Tryz.f91) (initSt Tryz.f91.ntmps [.sl shRel l, .clo (.func 92) [] [.ptr 0 0]] [.box [.str s]]) = .ok (.head 2 (headK Tryz.f91 2) (s91p_92 s l 0)) := by kernel_rfl
theorem on91p_92 (s : Str) (l : List (Sem shRel)) (i : Int) : run env45 1 kpIx Tryz.f91.results.toList 300 (headK Tryz.f91 2) (s91p_92 s l i) = ixTree (K := headK Tryz.f91 2) (e := shRel) l (fun x => x.1.1 == s) (s91p_92 s l) [.box [.str s]] i := by kernel_rfl

theorem ok91p : fnChk env45.P 91 Tryz.f91 2 := by refine ⟨?_, ?_, ?_, ?_⟩ <;> kernel_rfl
def G91p : GSem [some (.sl shRel), none] := fun x h => match x, h with
  | (l, .clo (.func 92) [] [.ptr 0 0], _), [.box [.str s]] => .ok (.int .i64 (ixFrom (fun x => x.1.1 == s) l 0), [.box [.str s]])
  | _, _ => .err
def F91p : FSem := liftF [some (.sl shRel), none] G91p
theorem FOk91p : FOk env45.P env45.gl 91 F91p := by
  refine FOk_of ok91p fun x h0 res hx C hC => ?_
  unfold G91p at hx
  split at hx
  · rename_i l u s
    simp only [Tr.val_ok, Option.some.injEq] at hx
    subst hx
    refine Reach.len 0 shRel l rfl fun hl => ?_
    refine reach_ok (n0 := 1) env45_all env45_mix ok91p hC (go91p_92 s l) ?_
    exact reach_ixf l (fun x => x.1.1 == s) (s91p_92 s l) env45_all env45_mix ok91p hC (on91p_92 s l) hl _ 0 rfl (Nat.zero_le _)
  · simp at hx

noncomputable def env46 : Env := (((env45.add 180 F180t).add 23 F23p).add 91 F91p)
theorem env46_all : EnvAll env46 := (EnvAll.addS (EnvAll.addS (EnvAll.addS env45_all (SameE.refl env45) FOk180t) ((SameE.refl env45).add _ _) FOk23p) (((SameE.refl env45).add _ _).add _ _) FOk91p)
theorem env46_mix : env46.P.follows .mixedOrders = true := (mix_add (mix_add (mix_add env45_mix _ _) _ _) _ _)
open Go Go.Proofs
set_option maxHeartbeats 4000000

noncomputable def F179p : FSem := liftF (List.replicate 3 none) (autoG env46 Tryz.f179 (List.replicate 3 none))
theorem FOk179p : FOk env46.P env46.gl 179 F179p := FOk_auto _ env46_all env46_mix (by refine ⟨?_, ?_, ?_, ?_⟩ <;> kernel_rfl)

abbrev kp51p : Nat → Keep := fun _ => { }
theorem ok51p : fnChk (env46).P 51 Tryz.f51 2 := by refine ⟨?_, ?_, ?_, ?_⟩ <;> kernel_rfl
theorem go51p (x0 : Sem shRel.sl) (x1 : TS) : run (env46) 0 kp51p (Func.results Tryz.f51).toList 400 (bodyOf Tryz.f51) (initSt (Func.ntmps Tryz.f51) [datum shRel.sl x0, datum Sh.str x1] []) = Tr.ok (Leaf.ret (ai (ixFrom (fun x => x.1.1 == x1) x0 0)) []) := by kernel_rfl
def bFind (x0 : Sem shRel.sl) (x1 : TS) : Sem shInt := (ixFrom (fun x => x.1.1 == x1) x0 0)
def F51p : FSem := plainT [shRel.sl, Sh.str] [shInt] fun x => (bFind x.1 x.2.1, ())
theorem FOk51p : FOk (env46).P (env46).gl 51 F51p := by
  refine FOk_plainT (ok51p) fun x C hC => ?_
  refine reach_ok env46_all env46_mix (ok51p) (fun id _ => hC id) (go51p x.1 x.2.1) ?_
  generalize hy : bFind x.1 x.2.1 = y
  unfold bFind at hy
  try simp only [ExprT.eta]
  repeat' (first | with_reducible refine obr1 hy (fun _ hy => ?_) (fun _ hy => ?_) | with_reducible refine OptOk_chkT ?_)
  all_goals first | (cases hc; done) | (subst hy; first | rfl)

noncomputable def env47 : Env := ((env46.add 179 F179p).add 51 F51p)
theorem env47_all : EnvAll env47 := (EnvAll.addS (EnvAll.addS env46_all (SameE.refl env46) FOk179p) ((SameE.refl env46).add _ _) FOk51p)
theorem env47_mix : env47.P.follows .mixedOrders = true := (mix_add (mix_add env46_mix _ _) _ _)
open Go Go.Proofs
set_option maxHeartbeats 4000000

abbrev s223p_179 (c a b : Int) (s : Str) (l : List (Sem (Sh.sl shVal))) (i : Int) : St := { tmps := [.sl (Sh.sl shVal) l, .clo (.func 179) [] [.ptr 0 0, .ptr 1 0], .any, .any, .any, .any, .any, .int .i64 l.length, .int .i64 i, .any, .any, .any, .any, .any, .any, .any, .any, .any, .any], heap := [.box [.int .i64 c], .box [.int .i64 a, .int .i64 b, .str s]] }
theorem go223p_179 (c a b : Int) (s : Str) (l : List (Sem (Sh.sl shVal))) : run env47 2 kpIx Tryz.f223.results.toList 300 (bodyOf Tryz.f223) (initSt Tryz.f223.ntmps [.sl (Sh.sl shVal) l, .clo (.func 179) [] [.ptr 0 0, .ptr 1 0]] [.box [.int .i64 c], .box [.int .i64 a, .int .i64 b, .str s]]) = .ok (.head 2 (headK Tryz.f223 2) (s223p_179 c a b s l 0)) := by kernel_rfl
theorem on223p_179 (c a b : Int) (s : Str) (l : List (Sem (Sh.sl shVal))) (i : Int) : run env47 2 kpIx Tryz.f223.results.toList 300 (headK Tryz.f223 2) (s223p_179 c a b s l i) = ixTree (K := headK Tryz.f223 2) (e := (Sh.sl shVal)) l (fun x => rHolds x c (a, b, s)) (s223p_179 c a b s l) [.box [.int .i64 c], .box [.int .i64 a, .int .i64 b, .str s]] i := by kernel_rfl

theorem ok223p : fnChk env47.P 223 Tryz.f223 2 := by refine ⟨?_, ?_, ?_, ?_⟩ <;> kernel_rfl
def G223p : GSem [some (.sl (Sh.sl shVal)), none] := fun x h => match x, h with
  | (l, .clo (.func 179) [] [.ptr 0 0, .ptr 1 0], _), [.box [.int .i64 c], .box [.int .i64 a, .int .i64 b, .str s]] => .ok (.int .i64 (ixFrom (fun x => rHolds x c (a, b, s)) l 0), [.box [.int .i64 c], .box [.int .i64 a, .int .i64 b, .str s]])
  | _, _ => .err
def F223p : FSem := liftF [some (.sl (Sh.sl shVal)), none] G223p
theorem FOk223p : FOk env47.P env47.gl 223 F223p := by
  refine FOk_of ok223p fun x h0 res hx C hC => ?_
  unfold G223p at hx
  split at hx
  · rename_i l u c a b s
    simp only [Tr.val_ok, Option.some.injEq] at hx
    subst hx
    refine Reach.len 0 (Sh.sl shVal) l rfl fun hl => ?_
    refine reach_ok (n0 := 2) env47_all env47_mix ok223p hC (go223p_179 c a b s l) ?_
    exact reach_ixf l (fun x => rHolds x c (a, b, s)) (s223p_179 c a b s l) env47_all env47_mix ok223p hC (on223p_179 c a b s l) hl _ 0 rfl (Nat.zero_le _)
  · simp at hx

noncomputable def env48 : Env := (env47.add 223 F223p)
theorem env48_all : EnvAll env48 := (EnvAll.addS env47_all (SameE.refl env47) FOk223p)
theorem env48_mix : env48.P.follows .mixedOrders = true := (mix_add env47_mix _ _)
open Go Go.Proofs
set_option maxHeartbeats 4000000

noncomputable def F178p : FSem := liftF (List.replicate 2 none) (autoG env48 Tryz.f178 (List.replicate 2 none))
theorem FOk178p : FOk env48.P env48.gl 178 F178p := FOk_auto _ env48_all env48_mix (by refine ⟨?_, ?_, ?_, ?_⟩ <;> kernel_rfl)

noncomputable def env49 : Env := (env48.add 178 F178p)
theorem env49_all : EnvAll env49 := (EnvAll.addS env48_all (SameE.refl env48) FOk178p)
theorem env49_mix : env49.P.follows .mixedOrders = true := (mix_add env48_mix _ _)
end Cad
