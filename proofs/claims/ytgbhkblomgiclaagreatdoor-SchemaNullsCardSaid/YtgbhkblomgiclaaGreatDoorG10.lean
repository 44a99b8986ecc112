/- Expressions: bounded ones; the same ones. Expressions: which may be. Expressions: their values. -/
import Derived.Test.YtgbhkblomgiclaaGreatDoorG09
namespace Cad
open Go Go.Proofs

noncomputable def en15 (g : Sem Sh.expr → Sem shInt → Sem shInt → Sem Sh.expr × Sem shInt) (c : Sem Sh.expr → Sem shInt → Sem shInt → Bool) : Env := env20.add 15 (plainC [Sh.expr, shInt, shInt] [Sh.expr, shInt] (fun x => c x.1 x.2.1 x.2.2.1) fun x => ((g x.1 x.2.1 x.2.2.1).1, (g x.1 x.2.1 x.2.2.1).2, ()))
theorem en15_all {g : Sem Sh.expr → Sem shInt → Sem shInt → Sem Sh.expr × Sem shInt} {c : Sem Sh.expr → Sem shInt → Sem shInt → Bool} (hg : FOk env20.P env20.gl 15 (plainC [Sh.expr, shInt, shInt] [Sh.expr, shInt] (fun x => c x.1 x.2.1 x.2.2.1) fun x => ((g x.1 x.2.1 x.2.2.1).1, (g x.1 x.2.1 x.2.2.1).2, ()))) : EnvAll (en15 g c) := env20_all.add hg
theorem en15_mix {g : Sem Sh.expr → Sem shInt → Sem shInt → Sem Sh.expr × Sem shInt} {c : Sem Sh.expr → Sem shInt → Sem shInt → Bool} : (en15 g c).P.follows .mixedOrders = true := mix_add env20_mix _ _
abbrev kp15r : Nat → Keep := fun j => if j = 10 then { slots := [1, 2, 3, 6, 8, 9], prom := [(8, some 5, Sh.expr)] } else { }
abbrev s15r_10 (i1 : Sem shInt) (i2 : Int) (i9 : Int) (sh_0_0 : Str) (ih_0_1 : Int) (ih_0_2 : Int) (sh_0_3 : Str) (sh_0_4 : Str) (lh_0_5 : List (Sem Sh.expr)) (sh_1_0 : List UInt8) (ih_1_1 : Int) (ih_1_2 : Int) (sh_1_3 : List UInt8) (sh_1_4 : List UInt8) (sh_2_0 : List UInt8) (ih_2_1 : Int) (ih_2_2 : Int) (sh_2_3 : List UInt8) (sh_2_4 : List UInt8) (lh_3 : List (Sem Sh.expr)) : St := {
  tmps :=
    [AV.any, AV.int IntKind.i64 i1, AV.int IntKind.i64 i2, AV.ptr 0 0, AV.any, AV.any, AV.ptr 1 0, AV.any, AV.ptr 2 0, AV.int IntKind.i64 i9, AV.any, AV.any,
      AV.any, AV.any, AV.any, AV.any, AV.any, AV.any, AV.any, AV.any, AV.any, AV.any, AV.any, AV.any, AV.any, AV.any, AV.any, AV.any, AV.any, AV.any, AV.any,
      AV.any, AV.any, AV.any, AV.any, AV.any, AV.any, AV.any, AV.any, AV.any, AV.any, AV.any, AV.any, AV.any, AV.any, AV.any, AV.any, AV.any, AV.any, AV.any,
      AV.any, AV.any, AV.any, AV.any, AV.any, AV.any, AV.any, AV.any, AV.any, AV.any, AV.any, AV.any, AV.any, AV.any, AV.any, AV.any, AV.any, AV.any, AV.any,
      AV.any, AV.any, AV.any, AV.any, AV.any, AV.any, AV.any, AV.any, AV.any, AV.any, AV.any, AV.any, AV.any, AV.any, AV.any, AV.any, AV.any, AV.any, AV.any],
  heap :=
    [AO.box [AV.str sh_0_0, AV.int IntKind.i64 ih_0_1, AV.int IntKind.i64 ih_0_2, AV.str sh_0_3, AV.str sh_0_4, AV.sl Sh.expr lh_0_5],
      AO.box [AV.str sh_1_0, AV.int IntKind.i64 ih_1_1, AV.int IntKind.i64 ih_1_2, AV.str sh_1_3, AV.str sh_1_4, AV.nils],
      AO.box [AV.str sh_2_0, AV.int IntKind.i64 ih_2_1, AV.int IntKind.i64 ih_2_2, AV.str sh_2_3, AV.str sh_2_4, AV.vec 3], AO.vec Sh.expr lh_3] }
theorem ok15r (g : Sem Sh.expr → Sem shInt → Sem shInt → Sem Sh.expr × Sem shInt) (c : Sem Sh.expr → Sem shInt → Sem shInt → Bool) : fnChk (en15 g c).P 15 Tryz.f15 3 := by refine ⟨?_, ?_, ?_, ?_⟩ <;> kernel_rfl
theorem go15r (g : Sem Sh.expr → Sem shInt → Sem shInt → Sem Sh.expr × Sem shInt) (c : Sem Sh.expr → Sem shInt → Sem shInt → Bool) (x0 : Sem Sh.expr) (x1 : Sem shInt) (x2 : Sem shInt) : run (en15 g c) 0 kp15r (Func.results Tryz.f15).toList 400 (bodyOf Tryz.f15) (initSt (Func.ntmps Tryz.f15) [datum Sh.expr x0, datum shInt x1, datum shInt x2] []) =
  Tr.br (decide ((↑(List.length (ExprT.op x0)) : Int) > 8))
  (Tr.chk (decide (0 ≤ 0) && decide (0 ≤ 8) && decide (8 ≤ (↑(List.length (ExprT.op x0)) : Int)))
    (Tr.br (decide ((↑(List.length (ExprT.s x0)) : Int) > 20))
      (Tr.chk (decide (0 ≤ 0) && decide (0 ≤ 20) && decide (20 ≤ (↑(List.length (ExprT.s x0)) : Int)))
        (Tr.br (decide ((↑(List.length (ExprT.v x0).snd.snd) : Int) > 45))
          (Tr.chk (decide (0 ≤ 0) && decide (0 ≤ 45) && decide (45 ≤ (↑(List.length (ExprT.v x0).snd.snd) : Int)))
            (Tr.ok
              (Leaf.head 10 (headK Tryz.f15 10)
                (s15r_10 x1 (IntKind.i64.wrap (x2 - 1)) 0 (ExprT.op x0) (ExprT.v x0).fst (ExprT.v x0).snd.fst (ExprT.v x0).snd.snd (ExprT.s x0) (ExprT.l x0) []
                  0 0 [] [] (List.take (Int.toNat 8 - Int.toNat 0) (List.drop (Int.toNat 0) (ExprT.op x0))) (ExprT.v x0).fst (ExprT.v x0).snd.fst
                  (List.take (Int.toNat 45 - Int.toNat 0) (List.drop (Int.toNat 0) (ExprT.v x0).snd.snd))
                  (List.take (Int.toNat 20 - Int.toNat 0) (List.drop (Int.toNat 0) (ExprT.s x0))) []))))
          (Tr.ok
            (Leaf.head 10 (headK Tryz.f15 10)
              (s15r_10 x1 (IntKind.i64.wrap (x2 - 1)) 0 (ExprT.op x0) (ExprT.v x0).fst (ExprT.v x0).snd.fst (ExprT.v x0).snd.snd (ExprT.s x0) (ExprT.l x0) [] 0
                0 [] [] (List.take (Int.toNat 8 - Int.toNat 0) (List.drop (Int.toNat 0) (ExprT.op x0))) (ExprT.v x0).fst (ExprT.v x0).snd.fst
                (ExprT.v x0).snd.snd (List.take (Int.toNat 20 - Int.toNat 0) (List.drop (Int.toNat 0) (ExprT.s x0))) [])))))
      (Tr.br (decide ((↑(List.length (ExprT.v x0).snd.snd) : Int) > 45))
        (Tr.chk (decide (0 ≤ 0) && decide (0 ≤ 45) && decide (45 ≤ (↑(List.length (ExprT.v x0).snd.snd) : Int)))
          (Tr.ok
            (Leaf.head 10 (headK Tryz.f15 10)
              (s15r_10 x1 (IntKind.i64.wrap (x2 - 1)) 0 (ExprT.op x0) (ExprT.v x0).fst (ExprT.v x0).snd.fst (ExprT.v x0).snd.snd (ExprT.s x0) (ExprT.l x0) [] 0
                0 [] [] (List.take (Int.toNat 8 - Int.toNat 0) (List.drop (Int.toNat 0) (ExprT.op x0))) (ExprT.v x0).fst (ExprT.v x0).snd.fst
                (List.take (Int.toNat 45 - Int.toNat 0) (List.drop (Int.toNat 0) (ExprT.v x0).snd.snd)) (ExprT.s x0) []))))
        (Tr.ok
          (Leaf.head 10 (headK Tryz.f15 10)
            (s15r_10 x1 (IntKind.i64.wrap (x2 - 1)) 0 (ExprT.op x0) (ExprT.v x0).fst (ExprT.v x0).snd.fst (ExprT.v x0).snd.snd (ExprT.s x0) (ExprT.l x0) [] 0 0
              [] [] (List.take (Int.toNat 8 - Int.toNat 0) (List.drop (Int.toNat 0) (ExprT.op x0))) (ExprT.v x0).fst (ExprT.v x0).snd.fst (ExprT.v x0).snd.snd
              (ExprT.s x0) []))))))
  (Tr.br (decide ((↑(List.length (ExprT.s x0)) : Int) > 20))
    (Tr.chk (decide (0 ≤ 0) && decide (0 ≤ 20) && decide (20 ≤ (↑(List.length (ExprT.s x0)) : Int)))
      (Tr.br (decide ((↑(List.length (ExprT.v x0).snd.snd) : Int) > 45))
        (Tr.chk (decide (0 ≤ 0) && decide (0 ≤ 45) && decide (45 ≤ (↑(List.length (ExprT.v x0).snd.snd) : Int)))
          (Tr.ok
            (Leaf.head 10 (headK Tryz.f15 10)
              (s15r_10 x1 (IntKind.i64.wrap (x2 - 1)) 0 (ExprT.op x0) (ExprT.v x0).fst (ExprT.v x0).snd.fst (ExprT.v x0).snd.snd (ExprT.s x0) (ExprT.l x0) [] 0
                0 [] [] (ExprT.op x0) (ExprT.v x0).fst (ExprT.v x0).snd.fst
                (List.take (Int.toNat 45 - Int.toNat 0) (List.drop (Int.toNat 0) (ExprT.v x0).snd.snd))
                (List.take (Int.toNat 20 - Int.toNat 0) (List.drop (Int.toNat 0) (ExprT.s x0))) []))))
        (Tr.ok
          (Leaf.head 10 (headK Tryz.f15 10)
            (s15r_10 x1 (IntKind.i64.wrap (x2 - 1)) 0 (ExprT.op x0) (ExprT.v x0).fst (ExprT.v x0).snd.fst (ExprT.v x0).snd.snd (ExprT.s x0) (ExprT.l x0) [] 0 0
              [] [] (ExprT.op x0) (ExprT.v x0).fst (ExprT.v x0).snd.fst (ExprT.v x0).snd.snd
              (List.take (Int.toNat 20 - Int.toNat 0) (List.drop (Int.toNat 0) (ExprT.s x0))) [])))))
    (Tr.br (decide ((↑(List.length (ExprT.v x0).snd.snd) : Int) > 45))
      (Tr.chk (decide (0 ≤ 0) && decide (0 ≤ 45) && decide (45 ≤ (↑(List.length (ExprT.v x0).snd.snd) : Int)))
        (Tr.ok
          (Leaf.head 10 (headK Tryz.f15 10)
            (s15r_10 x1 (IntKind.i64.wrap (x2 - 1)) 0 (ExprT.op x0) (ExprT.v x0).fst (ExprT.v x0).snd.fst (ExprT.v x0).snd.snd (ExprT.s x0) (ExprT.l x0) [] 0 0
              [] [] (ExprT.op x0) (ExprT.v x0).fst (ExprT.v x0).snd.fst (List.take (Int.toNat 45 - Int.toNat 0) (List.drop (Int.toNat 0) (ExprT.v x0).snd.snd))
              (ExprT.s x0) []))))
      (Tr.ok
        (Leaf.head 10 (headK Tryz.f15 10)
          (s15r_10 x1 (IntKind.i64.wrap (x2 - 1)) 0 (ExprT.op x0) (ExprT.v x0).fst (ExprT.v x0).snd.fst (ExprT.v x0).snd.snd (ExprT.s x0) (ExprT.l x0) [] 0 0 []
            [] (ExprT.op x0) (ExprT.v x0).fst (ExprT.v x0).snd.fst (ExprT.v x0).snd.snd (ExprT.s x0) []))))) := by kernel_rfl
theorem on15r_10 (g : Sem Sh.expr → Sem shInt → Sem shInt → Sem Sh.expr × Sem shInt) (c : Sem Sh.expr → Sem shInt → Sem shInt → Bool) (i1 : Sem shInt) (i2 : Int) (i9 : Int) (sh_0_0 : Str) (ih_0_1 : Int) (ih_0_2 : Int) (sh_0_3 : Str) (sh_0_4 : Str) (lh_0_5 : List (Sem Sh.expr)) (sh_1_0 : List UInt8) (ih_1_1 : Int) (ih_1_2 : Int) (sh_1_3 : List UInt8) (sh_1_4 : List UInt8) (sh_2_0 : List UInt8) (ih_2_1 : Int) (ih_2_2 : Int) (sh_2_3 : List UInt8) (sh_2_4 : List UInt8) (lh_3 : List (Sem Sh.expr)) : run (en15 g c) 0 kp15r (Func.results Tryz.f15).toList 400 (headK Tryz.f15 10) (s15r_10 i1 i2 i9 sh_0_0 ih_0_1 ih_0_2 sh_0_3 sh_0_4 lh_0_5 sh_1_0 ih_1_1 ih_1_2 sh_1_3 sh_1_4 sh_2_0 ih_2_1 ih_2_2 sh_2_3 sh_2_4 lh_3) =
  Tr.br (bif decide (i9 < (↑lh_0_5.length : Int)) then bif decide (i9 < 3) then bif decide (i1 > 0) then decide (i2 > 0) else false else false else false)
  (Tr.chk (inB i9 lh_0_5.length)
    (Tr.chk
      (c
        (ExprT.mk (ExprT.op (lh_0_5.getD i9.toNat (dflt Sh.expr))) (ExprT.v (lh_0_5.getD i9.toNat (dflt Sh.expr)))
          (ExprT.s (lh_0_5.getD i9.toNat (dflt Sh.expr))) (ExprT.l (lh_0_5.getD i9.toNat (dflt Sh.expr))))
        (IntKind.i64.wrap (i1 - 1)) i2)
      (Tr.chk
        (decide
          (lh_3.length +
              [ExprT.mk
                    (ExprT.op
                      (g
                          (ExprT.mk (ExprT.op (lh_0_5.getD i9.toNat (dflt Sh.expr))) (ExprT.v (lh_0_5.getD i9.toNat (dflt Sh.expr)))
                            (ExprT.s (lh_0_5.getD i9.toNat (dflt Sh.expr))) (ExprT.l (lh_0_5.getD i9.toNat (dflt Sh.expr))))
                          (IntKind.i64.wrap (i1 - 1)) i2).fst)
                    (ExprT.v
                      (g
                          (ExprT.mk (ExprT.op (lh_0_5.getD i9.toNat (dflt Sh.expr))) (ExprT.v (lh_0_5.getD i9.toNat (dflt Sh.expr)))
                            (ExprT.s (lh_0_5.getD i9.toNat (dflt Sh.expr))) (ExprT.l (lh_0_5.getD i9.toNat (dflt Sh.expr))))
                          (IntKind.i64.wrap (i1 - 1)) i2).fst)
                    (ExprT.s
                      (g
                          (ExprT.mk (ExprT.op (lh_0_5.getD i9.toNat (dflt Sh.expr))) (ExprT.v (lh_0_5.getD i9.toNat (dflt Sh.expr)))
                            (ExprT.s (lh_0_5.getD i9.toNat (dflt Sh.expr))) (ExprT.l (lh_0_5.getD i9.toNat (dflt Sh.expr))))
                          (IntKind.i64.wrap (i1 - 1)) i2).fst)
                    (ExprT.l
                      (g
                          (ExprT.mk (ExprT.op (lh_0_5.getD i9.toNat (dflt Sh.expr))) (ExprT.v (lh_0_5.getD i9.toNat (dflt Sh.expr)))
                            (ExprT.s (lh_0_5.getD i9.toNat (dflt Sh.expr))) (ExprT.l (lh_0_5.getD i9.toNat (dflt Sh.expr))))
                          (IntKind.i64.wrap (i1 - 1)) i2).fst)].length ≤
            1073741824))
        (Tr.ok
          (Leaf.head 10 (headK Tryz.f15 10)
            (s15r_10 i1
              (g
                  (ExprT.mk (ExprT.op (lh_0_5.getD i9.toNat (dflt Sh.expr))) (ExprT.v (lh_0_5.getD i9.toNat (dflt Sh.expr)))
                    (ExprT.s (lh_0_5.getD i9.toNat (dflt Sh.expr))) (ExprT.l (lh_0_5.getD i9.toNat (dflt Sh.expr))))
                  (IntKind.i64.wrap (i1 - 1)) i2).snd
              (IntKind.i64.wrap (i9 + 1)) sh_0_0 ih_0_1 ih_0_2 sh_0_3 sh_0_4 lh_0_5 sh_1_0 ih_1_1 ih_1_2 sh_1_3 sh_1_4 sh_2_0 ih_2_1 ih_2_2 sh_2_3 sh_2_4
              (lh_3 ++
                [ExprT.mk
                    (ExprT.op
                      (g
                          (ExprT.mk (ExprT.op (lh_0_5.getD i9.toNat (dflt Sh.expr))) (ExprT.v (lh_0_5.getD i9.toNat (dflt Sh.expr)))
                            (ExprT.s (lh_0_5.getD i9.toNat (dflt Sh.expr))) (ExprT.l (lh_0_5.getD i9.toNat (dflt Sh.expr))))
                          (IntKind.i64.wrap (i1 - 1)) i2).fst)
                    (ExprT.v
                      (g
                          (ExprT.mk (ExprT.op (lh_0_5.getD i9.toNat (dflt Sh.expr))) (ExprT.v (lh_0_5.getD i9.toNat (dflt Sh.expr)))
                            (ExprT.s (lh_0_5.getD i9.toNat (dflt Sh.expr))) (ExprT.l (lh_0_5.getD i9.toNat (dflt Sh.expr))))
                          (IntKind.i64.wrap (i1 - 1)) i2).fst)
                    (ExprT.s
                      (g
                          (ExprT.mk (ExprT.op (lh_0_5.getD i9.toNat (dflt Sh.expr))) (ExprT.v (lh_0_5.getD i9.toNat (dflt Sh.expr)))
                            (ExprT.s (lh_0_5.getD i9.toNat (dflt Sh.expr))) (ExprT.l (lh_0_5.getD i9.toNat (dflt Sh.expr))))
                          (IntKind.i64.wrap (i1 - 1)) i2).fst)
                    (ExprT.l
                      (g
                          (ExprT.mk (ExprT.op (lh_0_5.getD i9.toNat (dflt Sh.expr))) (ExprT.v (lh_0_5.getD i9.toNat (dflt Sh.expr)))
                            (ExprT.s (lh_0_5.getD i9.toNat (dflt Sh.expr))) (ExprT.l (lh_0_5.getD i9.toNat (dflt Sh.expr))))
                          (IntKind.i64.wrap (i1 - 1)) i2).fst)])))))))
  (Tr.ok
    (Leaf.ret
      (AV.tup [AV.agg [AV.str sh_2_0, AV.int IntKind.i64 ih_2_1, AV.int IntKind.i64 ih_2_2, AV.str sh_2_3, AV.str sh_2_4, AV.vec 0], AV.int IntKind.i64 i2])
      [AO.vec Sh.expr lh_3])) := by kernel_rfl
def fewS_10 (g : Sem Sh.expr → Sem shInt → Sem shInt → Sem Sh.expr × Sem shInt) (c : Sem Sh.expr → Sem shInt → Sem shInt → Bool) (i1 : Sem shInt) (sh_0_0 : Str) (ih_0_1 : Int) (ih_0_2 : Int) (sh_0_3 : Str) (sh_0_4 : Str) (sh_1_0 : List UInt8) (ih_1_1 : Int) (ih_1_2 : Int) (sh_1_3 : List UInt8) (sh_1_4 : List UInt8) (sh_2_0 : List UInt8) (ih_2_1 : Int) (ih_2_2 : Int) (sh_2_3 : List UInt8) (sh_2_4 : List UInt8) : List (Sem Sh.expr) → Int → Int → List (Sem Sh.expr) → Sem Sh.expr × Sem shInt
  | [], i9, i2, lh_3 => (ExprT.mk sh_2_0 (ih_2_1, ih_2_2, sh_2_3) sh_2_4 lh_3, i2)
  | x :: r, i9, i2, lh_3 => if (bif decide (i9 < 3) then bif decide (i1 > 0) then decide (i2 > 0) else false else false) = true then
  fewS_10 g c i1 sh_0_0 ih_0_1 ih_0_2 sh_0_3 sh_0_4 sh_1_0 ih_1_1 ih_1_2 sh_1_3 sh_1_4 sh_2_0 ih_2_1 ih_2_2 sh_2_3 sh_2_4 r (i9 + 1)
    (g x (IntKind.i64.wrap (i1 - 1)) i2).snd (lh_3 ++ [(g x (IntKind.i64.wrap (i1 - 1)) i2).fst])
else (ExprT.mk sh_2_0 (ih_2_1, ih_2_2, sh_2_3) sh_2_4 lh_3, i2)
def fewSC_10 (g : Sem Sh.expr → Sem shInt → Sem shInt → Sem Sh.expr × Sem shInt) (c : Sem Sh.expr → Sem shInt → Sem shInt → Bool) (i1 : Sem shInt) (sh_0_0 : Str) (ih_0_1 : Int) (ih_0_2 : Int) (sh_0_3 : Str) (sh_0_4 : Str) (sh_1_0 : List UInt8) (ih_1_1 : Int) (ih_1_2 : Int) (sh_1_3 : List UInt8) (sh_1_4 : List UInt8) (sh_2_0 : List UInt8) (ih_2_1 : Int) (ih_2_2 : Int) (sh_2_3 : List UInt8) (sh_2_4 : List UInt8) : List (Sem Sh.expr) → Int → Int → List (Sem Sh.expr) → Bool
  | [], i9, i2, lh_3 => true
  | x :: r, i9, i2, lh_3 => if (bif decide (i9 < 3) then bif decide (i1 > 0) then decide (i2 > 0) else false else false) = true then
  if c x (IntKind.i64.wrap (i1 - 1)) i2 = true then
    if decide (lh_3.length + [(g x (IntKind.i64.wrap (i1 - 1)) i2).fst].length ≤ 1073741824) = true then
      fewSC_10 g c i1 sh_0_0 ih_0_1 ih_0_2 sh_0_3 sh_0_4 sh_1_0 ih_1_1 ih_1_2 sh_1_3 sh_1_4 sh_2_0 ih_2_1 ih_2_2 sh_2_3 sh_2_4 r (i9 + 1)
        (g x (IntKind.i64.wrap (i1 - 1)) i2).snd (lh_3 ++ [(g x (IntKind.i64.wrap (i1 - 1)) i2).fst])
    else false
  else false
else true
theorem at15r_10 (g : Sem Sh.expr → Sem shInt → Sem shInt → Sem Sh.expr × Sem shInt) (c : Sem Sh.expr → Sem shInt → Sem shInt → Bool) (hg : FOk env20.P env20.gl 15 (plainC [Sh.expr, shInt, shInt] [Sh.expr, shInt] (fun x => c x.1 x.2.1 x.2.2.1) fun x => ((g x.1 x.2.1 x.2.2.1).1, (g x.1 x.2.1 x.2.2.1).2, ()))) {C : Ctx} (hC : ∀ id, C.ρ0 id = none) (i1 : Sem shInt) (sh_0_0 : Str) (ih_0_1 : Int) (ih_0_2 : Int) (sh_0_3 : Str) (sh_0_4 : Str) (sh_1_0 : List UInt8) (ih_1_1 : Int) (ih_1_2 : Int) (sh_1_3 : List UInt8) (sh_1_4 : List UInt8) (sh_2_0 : List UInt8) (ih_2_1 : Int) (ih_2_2 : Int) (sh_2_3 : List UInt8) (sh_2_4 : List UInt8) (lh_0_5 : List (Sem Sh.expr)) (hl : lh_0_5.length ≤ maxStr) : ∀ (m i : Nat) (i2 : Int) (lh_3 : List (Sem Sh.expr)), lh_0_5.length - i = m → i ≤ lh_0_5.length → fewSC_10 g c i1 sh_0_0 ih_0_1 ih_0_2 sh_0_3 sh_0_4 sh_1_0 ih_1_1 ih_1_2 sh_1_3 sh_1_4 sh_2_0 ih_2_1 ih_2_2 sh_2_3 sh_2_4 (lh_0_5.drop i) i i2 lh_3 = true →
    Reach (en15 g c) C 15 (headK Tryz.f15 10) (s15r_10 i1 i2 (i : Int) sh_0_0 ih_0_1 ih_0_2 sh_0_3 sh_0_4 lh_0_5 sh_1_0 ih_1_1 ih_1_2 sh_1_3 sh_1_4 sh_2_0 ih_2_1 ih_2_2 sh_2_3 sh_2_4 lh_3) (fun r h => resOf h [Sh.expr, shInt] r = some ((fewS_10 g c i1 sh_0_0 ih_0_1 ih_0_2 sh_0_3 sh_0_4 sh_1_0 ih_1_1 ih_1_2 sh_1_3 sh_1_4 sh_2_0 ih_2_1 ih_2_2 sh_2_3 sh_2_4 (lh_0_5.drop i) i i2 lh_3).1, (fewS_10 g c i1 sh_0_0 ih_0_1 ih_0_2 sh_0_3 sh_0_4 sh_1_0 ih_1_1 ih_1_2 sh_1_3 sh_1_4 sh_2_0 ih_2_1 ih_2_2 sh_2_3 sh_2_4 (lh_0_5.drop i) i i2 lh_3).2, ())) := by
  intro m
  induction m with
  | zero =>
    intro i i2 lh_3 hm hi hc
    obtain rfl : i = lh_0_5.length := by omega
    rw [List.drop_length] at hc ⊢
    refine reach_ok (en15_all hg) en15_mix (ok15r g c) (fun id _ => hC id) (on15r_10 g c _ _ _ _ _ _ _ _ _ _ _ _ _ _ _ _ _ _ _ _) ?_
    rw [fewSC_10] at hc
    generalize hy : fewS_10 g c i1 sh_0_0 ih_0_1 ih_0_2 sh_0_3 sh_0_4 sh_1_0 ih_1_1 ih_1_2 sh_1_3 sh_1_4 sh_2_0 ih_2_1 ih_2_2 sh_2_3 sh_2_4 [] _ i2 lh_3 = y
    rw [fewS_10] at hy
    simp only [ExprT.eta, lt_dec', cond_false, Tr.val_brF]
    repeat' (first | (refine OptOk_br (fun hsp => ?_) (fun hsp => ?_) <;> first | (rw [if_pos hsp] at hy; try rw [if_pos hsp] at hc) | (rw [if_neg (ne_t hsp)] at hy; try rw [if_neg (ne_t hsp)] at hc)) | refine OptOk_chkT ?_ | (have hgi := guard_ite hc; refine OptOk_chk hgi.1 ?_; replace hc := hgi.2; clear hgi))
    all_goals (subst hy; first | rfl)
  | succ m IH =>
    intro i i2 lh_3 hm hi hc
    have hlt : i < lh_0_5.length := by omega
    have IH := IH (i + 1)
    have hcast : ((i : Int) + 1) = ((i + 1 : Nat) : Int) := by omega
    have hwr := wrap_add i (by omega)
    rw [List.drop_eq_getElem_cons hlt] at hc ⊢
    refine reach_ok (en15_all hg) en15_mix (ok15r g c) (fun id _ => hC id) (on15r_10 g c _ _ _ _ _ _ _ _ _ _ _ _ _ _ _ _ _ _ _ _) ?_
    rw [fewSC_10] at hc
    generalize hy : fewS_10 g c i1 sh_0_0 ih_0_1 ih_0_2 sh_0_3 sh_0_4 sh_1_0 ih_1_1 ih_1_2 sh_1_3 sh_1_4 sh_2_0 ih_2_1 ih_2_2 sh_2_3 sh_2_4 (lh_0_5[i] :: lh_0_5.drop (i + 1)) (i : Int) i2 lh_3 = y
    rw [fewS_10] at hy
    simp only [ExprT.eta, lt_dec hlt, inB_of hlt, getD_at lh_0_5 _ hlt, hwr, cond_true, Tr.val_brT, Tr.val_chkT]
    clear hwr
    simp only [hcast] at hy
    try simp only [hcast] at hc
    repeat' (first | (refine OptOk_br (fun hsp => ?_) (fun hsp => ?_) <;> first | (rw [if_pos hsp] at hy; try rw [if_pos hsp] at hc) | (rw [if_neg (ne_t hsp)] at hy; try rw [if_neg (ne_t hsp)] at hc)) | refine OptOk_chkT ?_ | (have hgi := guard_ite hc; refine OptOk_chk hgi.1 ?_; replace hc := hgi.2; clear hgi))
    all_goals (subst hy; first | (change Reach _ _ _ _ _ _; apply IH <;> first | omega | assumption) | rfl)
theorem at15r_10s (g : Sem Sh.expr → Sem shInt → Sem shInt → Sem Sh.expr × Sem shInt) (c : Sem Sh.expr → Sem shInt → Sem shInt → Bool) (hg : FOk env20.P env20.gl 15 (plainC [Sh.expr, shInt, shInt] [Sh.expr, shInt] (fun x => c x.1 x.2.1 x.2.2.1) fun x => ((g x.1 x.2.1 x.2.2.1).1, (g x.1 x.2.1 x.2.2.1).2, ()))) {C : Ctx} (hC : ∀ id, C.ρ0 id = none) (i1 : Sem shInt) (sh_0_0 : Str) (ih_0_1 : Int) (ih_0_2 : Int) (sh_0_3 : Str) (sh_0_4 : Str) (sh_1_0 : List UInt8) (ih_1_1 : Int) (ih_1_2 : Int) (sh_1_3 : List UInt8) (sh_1_4 : List UInt8) (sh_2_0 : List UInt8) (ih_2_1 : Int) (ih_2_2 : Int) (sh_2_3 : List UInt8) (sh_2_4 : List UInt8) (lh_0_5 : List (Sem Sh.expr)) (i2 : Int) (lh_3 : List (Sem Sh.expr)) (hc : fewSC_10 g c i1 sh_0_0 ih_0_1 ih_0_2 sh_0_3 sh_0_4 sh_1_0 ih_1_1 ih_1_2 sh_1_3 sh_1_4 sh_2_0 ih_2_1 ih_2_2 sh_2_3 sh_2_4 lh_0_5 0 i2 lh_3 = true) :
    Reach (en15 g c) C 15 (headK Tryz.f15 10) (s15r_10 i1 i2 0 sh_0_0 ih_0_1 ih_0_2 sh_0_3 sh_0_4 lh_0_5 sh_1_0 ih_1_1 ih_1_2 sh_1_3 sh_1_4 sh_2_0 ih_2_1 ih_2_2 sh_2_3 sh_2_4 lh_3) (fun r h => resOf h [Sh.expr, shInt] r = some ((fewS_10 g c i1 sh_0_0 ih_0_1 ih_0_2 sh_0_3 sh_0_4 sh_1_0 ih_1_1 ih_1_2 sh_1_3 sh_1_4 sh_2_0 ih_2_1 ih_2_2 sh_2_3 sh_2_4 lh_0_5 0 i2 lh_3).1, (fewS_10 g c i1 sh_0_0 ih_0_1 ih_0_2 sh_0_3 sh_0_4 sh_1_0 ih_1_1 ih_1_2 sh_1_3 sh_1_4 sh_2_0 ih_2_1 ih_2_2 sh_2_3 sh_2_4 lh_0_5 0 i2 lh_3).2, ())) :=
  Reach.lenB 0 5 (Sh.expr) lh_0_5 rfl rfl fun hl => at15r_10 g c hg hC i1 sh_0_0 ih_0_1 ih_0_2 sh_0_3 sh_0_4 sh_1_0 ih_1_1 ih_1_2 sh_1_3 sh_1_4 sh_2_0 ih_2_1 ih_2_2 sh_2_3 sh_2_4 lh_0_5 hl _ 0 i2 lh_3 rfl (Nat.zero_le _) hc
def fewS (g : Sem Sh.expr → Sem shInt → Sem shInt → Sem Sh.expr × Sem shInt) (c : Sem Sh.expr → Sem shInt → Sem shInt → Bool) (x0 : Sem Sh.expr) (x1 : Sem shInt) (x2 : Sem shInt) : Sem Sh.expr × Sem shInt :=
  if decide ((↑(List.length (ExprT.op x0)) : Int) > 8) = true then
  if decide ((↑(List.length (ExprT.s x0)) : Int) > 20) = true then
    if decide ((↑(List.length (ExprT.v x0).snd.snd) : Int) > 45) = true then
      fewS_10 g c x1 (ExprT.op x0) (ExprT.v x0).fst (ExprT.v x0).snd.fst (ExprT.v x0).snd.snd (ExprT.s x0) [] 0 0 [] []
        (List.take (Int.toNat 8 - Int.toNat 0) (List.drop (Int.toNat 0) (ExprT.op x0))) (ExprT.v x0).fst (ExprT.v x0).snd.fst
        (List.take (Int.toNat 45 - Int.toNat 0) (List.drop (Int.toNat 0) (ExprT.v x0).snd.snd))
        (List.take (Int.toNat 20 - Int.toNat 0) (List.drop (Int.toNat 0) (ExprT.s x0))) (ExprT.l x0) 0 (IntKind.i64.wrap (x2 - 1)) []
    else
      fewS_10 g c x1 (ExprT.op x0) (ExprT.v x0).fst (ExprT.v x0).snd.fst (ExprT.v x0).snd.snd (ExprT.s x0) [] 0 0 [] []
        (List.take (Int.toNat 8 - Int.toNat 0) (List.drop (Int.toNat 0) (ExprT.op x0))) (ExprT.v x0).fst (ExprT.v x0).snd.fst (ExprT.v x0).snd.snd
        (List.take (Int.toNat 20 - Int.toNat 0) (List.drop (Int.toNat 0) (ExprT.s x0))) (ExprT.l x0) 0 (IntKind.i64.wrap (x2 - 1)) []
  else
    if decide ((↑(List.length (ExprT.v x0).snd.snd) : Int) > 45) = true then
      fewS_10 g c x1 (ExprT.op x0) (ExprT.v x0).fst (ExprT.v x0).snd.fst (ExprT.v x0).snd.snd (ExprT.s x0) [] 0 0 [] []
        (List.take (Int.toNat 8 - Int.toNat 0) (List.drop (Int.toNat 0) (ExprT.op x0))) (ExprT.v x0).fst (ExprT.v x0).snd.fst
        (List.take (Int.toNat 45 - Int.toNat 0) (List.drop (Int.toNat 0) (ExprT.v x0).snd.snd)) (ExprT.s x0) (ExprT.l x0) 0 (IntKind.i64.wrap (x2 - 1)) []
    else
      fewS_10 g c x1 (ExprT.op x0) (ExprT.v x0).fst (ExprT.v x0).snd.fst (ExprT.v x0).snd.snd (ExprT.s x0) [] 0 0 [] []
        (List.take (Int.toNat 8 - Int.toNat 0) (List.drop (Int.toNat 0) (ExprT.op x0))) (ExprT.v x0).fst (ExprT.v x0).snd.fst (ExprT.v x0).snd.snd (ExprT.s x0)
        (ExprT.l x0) 0 (IntKind.i64.wrap (x2 - 1)) []
else
  if decide ((↑(List.length (ExprT.s x0)) : Int) > 20) = true then
    if decide ((↑(List.length (ExprT.v x0).snd.snd) : Int) > 45) = true then
      fewS_10 g c x1 (ExprT.op x0) (ExprT.v x0).fst (ExprT.v x0).snd.fst (ExprT.v x0).snd.snd (ExprT.s x0) [] 0 0 [] [] (ExprT.op x0) (ExprT.v x0).fst
        (ExprT.v x0).snd.fst (List.take (Int.toNat 45 - Int.toNat 0) (List.drop (Int.toNat 0) (ExprT.v x0).snd.snd))
        (List.take (Int.toNat 20 - Int.toNat 0) (List.drop (Int.toNat 0) (ExprT.s x0))) (ExprT.l x0) 0 (IntKind.i64.wrap (x2 - 1)) []
    else
      fewS_10 g c x1 (ExprT.op x0) (ExprT.v x0).fst (ExprT.v x0).snd.fst (ExprT.v x0).snd.snd (ExprT.s x0) [] 0 0 [] [] (ExprT.op x0) (ExprT.v x0).fst
        (ExprT.v x0).snd.fst (ExprT.v x0).snd.snd (List.take (Int.toNat 20 - Int.toNat 0) (List.drop (Int.toNat 0) (ExprT.s x0))) (ExprT.l x0) 0
        (IntKind.i64.wrap (x2 - 1)) []
  else
    if decide ((↑(List.length (ExprT.v x0).snd.snd) : Int) > 45) = true then
      fewS_10 g c x1 (ExprT.op x0) (ExprT.v x0).fst (ExprT.v x0).snd.fst (ExprT.v x0).snd.snd (ExprT.s x0) [] 0 0 [] [] (ExprT.op x0) (ExprT.v x0).fst
        (ExprT.v x0).snd.fst (List.take (Int.toNat 45 - Int.toNat 0) (List.drop (Int.toNat 0) (ExprT.v x0).snd.snd)) (ExprT.s x0) (ExprT.l x0) 0
        (IntKind.i64.wrap (x2 - 1)) []
    else
      fewS_10 g c x1 (ExprT.op x0) (ExprT.v x0).fst (ExprT.v x0).snd.fst (ExprT.v x0).snd.snd (ExprT.s x0) [] 0 0 [] [] (ExprT.op x0) (ExprT.v x0).fst
        (ExprT.v x0).snd.fst (ExprT.v x0).snd.snd (ExprT.s x0) (ExprT.l x0) 0 (IntKind.i64.wrap (x2 - 1)) []
def fewSC (g : Sem Sh.expr → Sem shInt → Sem shInt → Sem Sh.expr × Sem shInt) (c : Sem Sh.expr → Sem shInt → Sem shInt → Bool) (x0 : Sem Sh.expr) (x1 : Sem shInt) (x2 : Sem shInt) : Bool :=
  if decide ((↑(List.length (ExprT.op x0)) : Int) > 8) = true then
  if (decide (0 ≤ 0) && decide (0 ≤ 8) && decide (8 ≤ (↑(List.length (ExprT.op x0)) : Int))) = true then
    if decide ((↑(List.length (ExprT.s x0)) : Int) > 20) = true then
      if (decide (0 ≤ 0) && decide (0 ≤ 20) && decide (20 ≤ (↑(List.length (ExprT.s x0)) : Int))) = true then
        if decide ((↑(List.length (ExprT.v x0).snd.snd) : Int) > 45) = true then
          if (decide (0 ≤ 0) && decide (0 ≤ 45) && decide (45 ≤ (↑(List.length (ExprT.v x0).snd.snd) : Int))) = true then
            fewSC_10 g c x1 (ExprT.op x0) (ExprT.v x0).fst (ExprT.v x0).snd.fst (ExprT.v x0).snd.snd (ExprT.s x0) [] 0 0 [] []
              (List.take (Int.toNat 8 - Int.toNat 0) (List.drop (Int.toNat 0) (ExprT.op x0))) (ExprT.v x0).fst (ExprT.v x0).snd.fst
              (List.take (Int.toNat 45 - Int.toNat 0) (List.drop (Int.toNat 0) (ExprT.v x0).snd.snd))
              (List.take (Int.toNat 20 - Int.toNat 0) (List.drop (Int.toNat 0) (ExprT.s x0))) (ExprT.l x0) 0 (IntKind.i64.wrap (x2 - 1)) []
          else false
        else
          fewSC_10 g c x1 (ExprT.op x0) (ExprT.v x0).fst (ExprT.v x0).snd.fst (ExprT.v x0).snd.snd (ExprT.s x0) [] 0 0 [] []
            (List.take (Int.toNat 8 - Int.toNat 0) (List.drop (Int.toNat 0) (ExprT.op x0))) (ExprT.v x0).fst (ExprT.v x0).snd.fst (ExprT.v x0).snd.snd
            (List.take (Int.toNat 20 - Int.toNat 0) (List.drop (Int.toNat 0) (ExprT.s x0))) (ExprT.l x0) 0 (IntKind.i64.wrap (x2 - 1)) []
      else false
    else
      if decide ((↑(List.length (ExprT.v x0).snd.snd) : Int) > 45) = true then
        if (decide (0 ≤ 0) && decide (0 ≤ 45) && decide (45 ≤ (↑(List.length (ExprT.v x0).snd.snd) : Int))) = true then
          fewSC_10 g c x1 (ExprT.op x0) (ExprT.v x0).fst (ExprT.v x0).snd.fst (ExprT.v x0).snd.snd (ExprT.s x0) [] 0 0 [] []
            (List.take (Int.toNat 8 - Int.toNat 0) (List.drop (Int.toNat 0) (ExprT.op x0))) (ExprT.v x0).fst (ExprT.v x0).snd.fst
            (List.take (Int.toNat 45 - Int.toNat 0) (List.drop (Int.toNat 0) (ExprT.v x0).snd.snd)) (ExprT.s x0) (ExprT.l x0) 0 (IntKind.i64.wrap (x2 - 1)) []
        else false
      else
        fewSC_10 g c x1 (ExprT.op x0) (ExprT.v x0).fst (ExprT.v x0).snd.fst (ExprT.v x0).snd.snd (ExprT.s x0) [] 0 0 [] []
          (List.take (Int.toNat 8 - Int.toNat 0) (List.drop (Int.toNat 0) (ExprT.op x0))) (ExprT.v x0).fst (ExprT.v x0).snd.fst (ExprT.v x0).snd.snd
          (ExprT.s x0) (ExprT.l x0) 0 (IntKind.i64.wrap (x2 - 1)) []
  else false
else
  if decide ((↑(List.length (ExprT.s x0)) : Int) > 20) = true then
    if (decide (0 ≤ 0) && decide (0 ≤ 20) && decide (20 ≤ (↑(List.length (ExprT.s x0)) : Int))) = true then
      if decide ((↑(List.length (ExprT.v x0).snd.snd) : Int) > 45) = true then
        if (decide (0 ≤ 0) && decide (0 ≤ 45) && decide (45 ≤ (↑(List.length (ExprT.v x0).snd.snd) : Int))) = true then
          fewSC_10 g c x1 (ExprT.op x0) (ExprT.v x0).fst (ExprT.v x0).snd.fst (ExprT.v x0).snd.snd (ExprT.s x0) [] 0 0 [] [] (ExprT.op x0) (ExprT.v x0).fst
            (ExprT.v x0).snd.fst (List.take (Int.toNat 45 - Int.toNat 0) (List.drop (Int.toNat 0) (ExprT.v x0).snd.snd))
            (List.take (Int.toNat 20 - Int.toNat 0) (List.drop (Int.toNat 0) (ExprT.s x0))) (ExprT.l x0) 0 (IntKind.i64.wrap (x2 - 1)) []
        else false
      else
        fewSC_10 g c x1 (ExprT.op x0) (ExprT.v x0).fst (ExprT.v x0).snd.fst (ExprT.v x0).snd.snd (ExprT.s x0) [] 0 0 [] [] (ExprT.op x0) (ExprT.v x0).fst
          (ExprT.v x0).snd.fst (ExprT.v x0).snd.snd (List.take (Int.toNat 20 - Int.toNat 0) (List.drop (Int.toNat 0) (ExprT.s x0))) (ExprT.l x0) 0
          (IntKind.i64.wrap (x2 - 1)) []
    else false
  else
    if decide ((↑(List.length (ExprT.v x0).snd.snd) : Int) > 45) = true then
      if (decide (0 ≤ 0) && decide (0 ≤ 45) && decide (45 ≤ (↑(List.length (ExprT.v x0).snd.snd) : Int))) = true then
        fewSC_10 g c x1 (ExprT.op x0) (ExprT.v x0).fst (ExprT.v x0).snd.fst (ExprT.v x0).snd.snd (ExprT.s x0) [] 0 0 [] [] (ExprT.op x0) (ExprT.v x0).fst
          (ExprT.v x0).snd.fst (List.take (Int.toNat 45 - Int.toNat 0) (List.drop (Int.toNat 0) (ExprT.v x0).snd.snd)) (ExprT.s x0) (ExprT.l x0) 0
          (IntKind.i64.wrap (x2 - 1)) []
      else false
    else
      fewSC_10 g c x1 (ExprT.op x0) (ExprT.v x0).fst (ExprT.v x0).snd.fst (ExprT.v x0).snd.snd (ExprT.s x0) [] 0 0 [] [] (ExprT.op x0) (ExprT.v x0).fst
        (ExprT.v x0).snd.fst (ExprT.v x0).snd.snd (ExprT.s x0) (ExprT.l x0) 0 (IntKind.i64.wrap (x2 - 1)) []
def F15r (g : Sem Sh.expr → Sem shInt → Sem shInt → Sem Sh.expr × Sem shInt) (c : Sem Sh.expr → Sem shInt → Sem shInt → Bool) : FSem := plainC [Sh.expr, shInt, shInt] [Sh.expr, shInt] (fun x => fewSC g c x.1 x.2.1 x.2.2.1) fun x => ((fewS g c x.1 x.2.1 x.2.2.1).1, (fewS g c x.1 x.2.1 x.2.2.1).2, ())
theorem FOk15r (g : Sem Sh.expr → Sem shInt → Sem shInt → Sem Sh.expr × Sem shInt) (c : Sem Sh.expr → Sem shInt → Sem shInt → Bool) (hg : FOk env20.P env20.gl 15 (plainC [Sh.expr, shInt, shInt] [Sh.expr, shInt] (fun x => c x.1 x.2.1 x.2.2.1) fun x => ((g x.1 x.2.1 x.2.2.1).1, (g x.1 x.2.1 x.2.2.1).2, ()))) : FOk (en15 g c).P (en15 g c).gl 15 (F15r g c) := by
  refine FOk_plainC (ok15r g c) fun x hc C hC => ?_
  unfold fewSC at hc
  refine reach_ok (en15_all hg) en15_mix (ok15r g c) (fun id _ => hC id) (go15r g c x.1 x.2.1 x.2.2.1) ?_
  generalize hy : fewS g c x.1 x.2.1 x.2.2.1 = y
  unfold fewS at hy
  try simp only [ExprT.eta]
  repeat' (first | (refine OptOk_br (fun hsp => ?_) (fun hsp => ?_) <;> first | (rw [if_pos hsp] at hy; try rw [if_pos hsp] at hc) | (rw [if_neg (ne_t hsp)] at hy; try rw [if_neg (ne_t hsp)] at hc)) | refine OptOk_chkT ?_ | (have hgi := guard_ite hc; refine OptOk_chk hgi.1 ?_; replace hc := hgi.2; clear hgi))
  all_goals (subst hy; first | (change Reach _ _ _ _ _ _; apply at15r_10s g c hg hC <;> first | assumption | exact hc) | rfl)
mutual
def fewN : Nat → Sem Sh.expr → Sem shInt → Sem shInt → Sem Sh.expr × Sem shInt
  | 0 => fun _ _ _ => default
  | n + 1 => fewS (fewN n) (fewCN n)
def fewCN : Nat → Sem Sh.expr → Sem shInt → Sem shInt → Bool
  | 0 => fun _ _ _ => false
  | n + 1 => fewSC (fewN n) (fewCN n)
end
theorem FOk15N : ∀ n, FOk env20.P env20.gl 15 (plainC [Sh.expr, shInt, shInt] [Sh.expr, shInt] (fun x => fewCN n x.1 x.2.1 x.2.2.1) fun x => ((fewN n x.1 x.2.1 x.2.2.1).1, (fewN n x.1 x.2.1 x.2.2.1).2, ()))
  | 0 => FOk_none ⟨Tryz.f15, (ok15r default default).1, (ok15r default default).2.1, (ok15r default default).2.2.1⟩ (fun _ => rfl)
  | n + 1 => FOk15r (fewN n) (fewCN n) (FOk15N n)
def F15 : FSem := plainC [Sh.expr, shInt, shInt] [Sh.expr, shInt] (fun x => fewCN 16 x.1 x.2.1 x.2.2.1) fun x => ((fewN 16 x.1 x.2.1 x.2.2.1).1, (fewN 16 x.1 x.2.1 x.2.2.1).2, ())
theorem FOk15 : FOk env20.P env20.gl 15 F15 := FOk15N 16

/-- Are two lists alike, one by one? -/
def eqL (g : ExprT → ExprT → Bool) : List ExprT → List ExprT → Bool
  | x :: r, y :: s => if (!g x y) = true then false else eqL g r s
  | _, _ => true
def eqLC (g c : ExprT → ExprT → Bool) : List ExprT → List ExprT → Bool
  | x :: r, y :: s => if c x y = true then (if (!g x y) = true then true else eqLC g c r s) else false
  | _, _ => true

noncomputable def en50 (g c : ExprT → ExprT → Bool) : Env := env20.add 29 (plainC [.expr, .expr] [.bool] (fun x => c x.1 x.2.1) (fun x => (g x.1 x.2.1, ())))
theorem en50_all {g c : ExprT → ExprT → Bool} (hg : FOk env20.P env20.gl 29 (plainC [.expr, .expr] [.bool] (fun x => c x.1 x.2.1) (fun x => (g x.1 x.2.1, ())))) : EnvAll (en50 g c) := env20_all.add hg
theorem en50_mix {g c : ExprT → ExprT → Bool} : (en50 g c).P.follows .mixedOrders = true := mix_add env20_mix _ _
abbrev kp50 : Nat → Keep := fun j => if j = 4 then { slots := [1, 2, 15, 16, 17] } else { }
abbrev s50_4 (l1 : List ExprT) (l15 : List ExprT) (i16 : Int) (i17 : Int) : St := {
  tmps :=
    [AV.any, AV.sl Sh.expr l1, AV.clo (Fn.func 29) [] [], AV.any, AV.any, AV.any, AV.any, AV.any, AV.any, AV.any, AV.any, AV.any, AV.any, AV.any, AV.any,
      AV.sl Sh.expr l15, AV.int IntKind.i64 i16, AV.int IntKind.i64 i17, AV.any, AV.any, AV.any, AV.any, AV.any, AV.any, AV.any, AV.any, AV.any, AV.any, AV.any,
      AV.any, AV.any, AV.any],
  heap := [] }
theorem ok50 (g c : ExprT → ExprT → Bool) : fnChk (en50 g c).P 50 Tryz.f50 3 := by refine ⟨?_, ?_, ?_, ?_⟩ <;> kernel_rfl
theorem go50 (g c : ExprT → ExprT → Bool) (l : List ExprT) (m : List ExprT) : run (en50 g c) 0 kp50 (Func.results Tryz.f50).toList 400 (bodyOf Tryz.f50) (initSt (Func.ntmps Tryz.f50) [AV.sl Sh.expr l, AV.sl Sh.expr m, AV.clo (Fn.func 29) [] []] []) =
  Tr.br ((↑l.length : Int) != (↑m.length : Int)) (Tr.ok (Leaf.ret (AV.kb false) [])) (Tr.ok (Leaf.head 4 (headK Tryz.f50 4) (s50_4 m l (↑l.length : Int) 0))) := by kernel_rfl
theorem on50_4 (g c : ExprT → ExprT → Bool) (l1 : List ExprT) (l15 : List ExprT) (i16 : Int) (i17 : Int) : run (en50 g c) 0 kp50 (Func.results Tryz.f50).toList 400 (headK Tryz.f50 4) (s50_4 l1 l15 i16 i17) =
  Tr.br (decide (i17 < i16))
  (Tr.chk (inB i17 l15.length)
    (Tr.chk (inB i17 l1.length)
      (Tr.chk (c (ExprT.mk (ExprT.op (l15.getD i17.toNat (dflt Sh.expr))) (ExprT.v (l15.getD i17.toNat (dflt Sh.expr))) (ExprT.s (l15.getD i17.toNat (dflt Sh.expr))) (ExprT.l (l15.getD i17.toNat (dflt Sh.expr)))) (ExprT.mk (ExprT.op (l1.getD i17.toNat (dflt Sh.expr))) (ExprT.v (l1.getD i17.toNat (dflt Sh.expr))) (ExprT.s (l1.getD i17.toNat (dflt Sh.expr))) (ExprT.l (l1.getD i17.toNat (dflt Sh.expr)))))
        (Tr.br (!g (ExprT.mk (ExprT.op (l15.getD i17.toNat (dflt Sh.expr))) (ExprT.v (l15.getD i17.toNat (dflt Sh.expr))) (ExprT.s (l15.getD i17.toNat (dflt Sh.expr))) (ExprT.l (l15.getD i17.toNat (dflt Sh.expr)))) (ExprT.mk (ExprT.op (l1.getD i17.toNat (dflt Sh.expr))) (ExprT.v (l1.getD i17.toNat (dflt Sh.expr))) (ExprT.s (l1.getD i17.toNat (dflt Sh.expr))) (ExprT.l (l1.getD i17.toNat (dflt Sh.expr)))))
          (Tr.ok (Leaf.ret (AV.kb false) [])) (Tr.ok (Leaf.head 4 (headK Tryz.f50 4) (s50_4 l1 l15 i16 (IntKind.i64.wrap (i17 + 1)))))))))
  (Tr.ok (Leaf.ret (AV.kb true) [])) := by kernel_rfl

theorem at50 {g c : ExprT → ExprT → Bool} (hg : FOk env20.P env20.gl 29 (plainC [.expr, .expr] [.bool] (fun x => c x.1 x.2.1) (fun x => (g x.1 x.2.1, ())))) {C : Ctx} (hC : ∀ id, 0 ≤ id → C.ρ0 id = none) (l m : List ExprT) (hlm : l.length = m.length) (hl : l.length ≤ maxStr) :
    ∀ (k i : Nat), l.length - i = k → i ≤ l.length → eqLC g c (l.drop i) (m.drop i) = true → Reach (en50 g c) C 50 (headK Tryz.f50 4) (s50_4 m l l.length i) (fun r h => (r, h) = (.kb (eqL g (l.drop i) (m.drop i)), [])) := by
  intro k
  induction k with
  | zero =>
    intro i hk hi hc
    obtain rfl : i = l.length := by omega
    refine reach_ok (en50_all hg) en50_mix (ok50 g c) hC (on50_4 g c _ _ _ _) ?_
    simp only [lt_dec', Tr.val_brF, List.drop_length]
    rfl
  | succ k IH =>
    intro i hk hi hc
    have hlt : i < l.length := by omega
    have hlt' : i < m.length := by omega
    refine reach_ok (en50_all hg) en50_mix (ok50 g c) hC (on50_4 g c _ _ _ _) ?_
    rw [List.drop_eq_getElem_cons hlt, List.drop_eq_getElem_cons hlt'] at hc ⊢
    rw [eqLC] at hc
    have hc1 := guard_ite hc
    simp only [lt_dec hlt, inB_of hlt, inB_of hlt', getD_at l _ hlt, getD_at m _ hlt', ExprT.eta, Tr.val_brT, Tr.val_chkT, hc1.1, wrap_add i (by omega)]
    refine OptOk_br (fun h => ?_) (fun h => ?_)
    · rw [eqL, if_pos h]; rfl
    · rw [eqL, if_neg (ne_t h)]
      have h2 := hc1.2
      rw [if_neg (ne_t h)] at h2
      exact IH (i + 1) (by omega) (by omega) h2

def eqLs (g : ExprT → ExprT → Bool) (l m : List ExprT) : Bool := if ((↑l.length : Int) != (↑m.length : Int)) = true then false else eqL g l m
def eqLsC (g c : ExprT → ExprT → Bool) (l m : List ExprT) : Bool := if ((↑l.length : Int) != (↑m.length : Int)) = true then true else eqLC g c l m
def G50 (g c : ExprT → ExprT → Bool) : GSem [some (.sl .expr), some (.sl .expr), none] := fun x h => match x, h with
  | (l, m, .clo (.func 29) [] [], _), [] => .chk (eqLsC g c l m) (.ok (.bool (eqLs g l m), []))
  | _, _ => .err
def F50 (g c : ExprT → ExprT → Bool) : FSem := liftF [some (.sl .expr), some (.sl .expr), none] (G50 g c)

theorem Reach.weaken {E : Env} {C : Ctx} {fn : FuncId} {todo : List Item} {st : St} {Q Q' : AV → List AO → Prop} (h : Reach E C fn todo st Q) (hq : ∀ r h, Q r h → ∃ r', Q' r' h ∧ ∀ w U ρ v, Rv w U ρ r v → Rv w U ρ r' v) : Reach E C fn todo st Q' := by
  intro b cs a w U ρ h1 h2 hc hW
  obtain ⟨e, w', fr, ⟨v, r, h', U', ρ', he, hq1, hrv, hrest⟩, hcm⟩ := h b cs a w U ρ h1 h2 hc hW
  obtain ⟨r', hq2, hrr⟩ := hq r h' hq1
  exact ⟨e, w', fr, ⟨v, r', h', U', ρ', he, hq2, hrr _ _ _ _ hrv, hrest⟩, hcm⟩

theorem FOk50 {g c : ExprT → ExprT → Bool} (hg : FOk env20.P env20.gl 29 (plainC [.expr, .expr] [.bool] (fun x => c x.1 x.2.1) (fun x => (g x.1 x.2.1, ())))) : FOk env20.P env20.gl 50 (F50 g c) := by
  refine FOk_of (E := en50 g c) (ok50 g c) fun x h0 res hx C hC => ?_
  unfold G50 at hx
  split at hx
  · rename_i l m u
    simp only [Tr.val] at hx
    split at hx
    · rename_i hc
      simp only [Option.some.injEq] at hx
      subst hx
      refine Reach.len 0 .expr l rfl fun hl => ?_
      refine Reach.weaken (Q := fun r h => (r, h) = (.kb (eqLs g l m), [])) ?_ ?_
      · refine reach_ok (n0 := 0) (en50_all hg) en50_mix (ok50 g c) hC (go50 g c l m) ?_
        unfold eqLsC at hc
        unfold eqLs
        refine OptOk_br (fun h => ?_) (fun h => ?_)
        · rw [if_pos h]; rfl
        · rw [if_neg (ne_t h)] at hc ⊢
          have : (l.length : Int) = m.length := by simpa using h
          have : l.length = m.length := by omega
          exact at50 hg hC l m this hl _ 0 rfl (Nat.zero_le _) hc
      · rintro r h hq
        cases hq
        refine ⟨_, rfl, fun w U ρ v hv => ?_⟩
        cases hv
        exact .bool _
    · simp at hx
  · simp at hx

noncomputable def en29 (g c : ExprT → ExprT → Bool) : Env := env20.add 50 (F50 g c)
theorem en29_all {g c : ExprT → ExprT → Bool} (hg : FOk env20.P env20.gl 29 (plainC [.expr, .expr] [.bool] (fun x => c x.1 x.2.1) (fun x => (g x.1 x.2.1, ())))) : EnvAll (en29 g c) := env20_all.add (FOk50 hg)
theorem en29_mix {g c : ExprT → ExprT → Bool} : (en29 g c).P.follows .mixedOrders = true := mix_add env20_mix _ _
def eqV (a b : V) : Bool := a.1 == b.1 && (a.2.1 == b.2.1 && (a.2.2 == b.2.2 && true))
def sameS (g : ExprT → ExprT → Bool) (a b : ExprT) : Bool := bif a.op == b.op then bif eqV a.v b.v then bif a.s == b.s then eqLs g a.l b.l else false else false else false
def sameSC (g c : ExprT → ExprT → Bool) (a b : ExprT) : Bool := bif a.op == b.op then bif eqV a.v b.v then bif a.s == b.s then eqLsC g c a.l b.l else true else true else true
theorem ok29 (g c : ExprT → ExprT → Bool) : fnChk (en29 g c).P 29 Tryz.f29 2 := by refine ⟨?_, ?_, ?_, ?_⟩ <;> kernel_rfl
theorem go29 (g c : ExprT → ExprT → Bool) (l : ExprT) (m : ExprT) : run (en29 g c) 0 (fun _ => {}) (Func.results Tryz.f29).toList 400 (bodyOf Tryz.f29) (initSt (Func.ntmps Tryz.f29) [datum Sh.expr l, datum Sh.expr m] []) =
  Tr.chk (sameSC g c l m) (Tr.ok (Leaf.ret (AV.bool (sameS g l m)) [])) := by kernel_rfl
theorem FOk29r {g c : ExprT → ExprT → Bool} (hg : FOk env20.P env20.gl 29 (plainC [.expr, .expr] [.bool] (fun x => c x.1 x.2.1) (fun x => (g x.1 x.2.1, ())))) : FOk env20.P env20.gl 29 (plainC [.expr, .expr] [.bool] (fun x => sameSC g c x.1 x.2.1) (fun x => (sameS g x.1 x.2.1, ()))) := by
  refine FOk_plainC (E := en29 g c) (ok29 g c) fun x hx C hC => ?_
  refine reach_ok (n0 := 0) (en29_all hg) en29_mix (ok29 g c) (fun id _ => hC id) (go29 g c x.1 x.2.1) ?_
  exact OptOk_chk hx rfl
mutual
def sameN : Nat → ExprT → ExprT → Bool
  | 0 => fun _ _ => false
  | n + 1 => sameS (sameN n)
def sameCN : Nat → ExprT → ExprT → Bool
  | 0 => fun _ _ => false
  | n + 1 => sameSC (sameN n) (sameCN n)
end
theorem FOk29N : ∀ n, FOk env20.P env20.gl 29 (plainC [.expr, .expr] [.bool] (fun x => sameCN n x.1 x.2.1) (fun x => (sameN n x.1 x.2.1, ())))
  | 0 => FOk_none ⟨Tryz.f29, (ok29 (fun _ _ => false) (fun _ _ => false)).1, (ok29 (fun _ _ => false) (fun _ _ => false)).2.1, (ok29 (fun _ _ => false) (fun _ _ => false)).2.2.1⟩ (fun _ => rfl)
  | n + 1 => FOk29r (FOk29N n)
def F29 : FSem := plainC [.expr, .expr] [.bool] (fun x => sameCN 16 x.1 x.2.1) (fun x => (sameN 16 x.1 x.2.1, ()))
theorem FOk29 : FOk env20.P env20.gl 29 F29 := FOk29N 16

noncomputable def env21 : Env := ((env20.add 15 F15).add 29 F29)
theorem env21_all : EnvAll env21 := (EnvAll.addS (EnvAll.addS env20_all (SameE.refl env20) FOk15) ((SameE.refl env20).add _ _) FOk29)
theorem env21_mix : env21.P.follows .mixedOrders = true := (mix_add (mix_add env20_mix _ _) _ _)
end Cad

namespace Cad
open Go Go.Proofs

def isNil (v : V) : Bool := v.1 == 0 && (v.2.1 == 0 && (v.2.2 == [] && true))
def avB : AV → Option Bool
  | .bool b => some b
  | .kb b => some b
  | _ => none

theorem Reach.toBool {E : Env} {C : Ctx} {fn : FuncId} {todo : List Item} {st : St} {b : Bool} {hp : List AO} (h : Reach E C fn todo st (fun r h => avB r = some b ∧ h = hp)) : Reach E C fn todo st (fun r h => (r, h) = (.bool b, hp)) := by
  refine h.weaken fun r h' hq => ?_
  obtain ⟨h1, rfl⟩ := hq
  refine ⟨.bool b, rfl, fun w U ρ v hv => ?_⟩
  cases r <;> simp [avB] at h1 <;> subst h1 <;> cases hv <;> exact .bool _

def G37r (g : ExprT → Int → Int → Bool × Int) (c : ExprT → Int → Int → Bool) : GSem [none, some .expr, some shInt] := fun x h => match x, h with
  | (.ptr 0 0, e, d, _), [.box [.int .i64 n]] => .chk (c e d n) (.ok (.bool (g e d n).1, [.box [.int .i64 (g e d n).2]]))
  | _, _ => .err
def F37r (g : ExprT → Int → Int → Bool × Int) (c : ExprT → Int → Int → Bool) : FSem := liftF [none, some .expr, some shInt] (G37r g c)
noncomputable def en37 (g : ExprT → Int → Int → Bool × Int) (c : ExprT → Int → Int → Bool) : Env := env21.add 37 (F37r g c)
theorem en37_all {g : ExprT → Int → Int → Bool × Int} {c : ExprT → Int → Int → Bool} (hg : FOk env21.P env21.gl 37 (F37r g c)) : EnvAll (en37 g c) := env21_all.add hg
theorem en37_mix {g : ExprT → Int → Int → Bool × Int} {c : ExprT → Int → Int → Bool} : (en37 g c).P.follows .mixedOrders = true := mix_add env21_mix _ _
abbrev kp37 : Nat → Keep := fun j => if j = 12 then { slots := [0, 2, 73, 74, 75] } else { }
abbrev s37_12 (i2 : Int) (l73 : List (Sem Sh.expr)) (i74 : Int) (i75 : Int) (ih_0_0 : Int) : St := {
  tmps :=
    [AV.ptr 0 0, AV.any, AV.int IntKind.i64 i2, AV.any, AV.any, AV.any, AV.any, AV.any, AV.any, AV.any, AV.any, AV.any, AV.any, AV.any, AV.any, AV.any, AV.any,
      AV.any, AV.any, AV.any, AV.any, AV.any, AV.any, AV.any, AV.any, AV.any, AV.any, AV.any, AV.any, AV.any, AV.any, AV.any, AV.any, AV.any, AV.any, AV.any,
      AV.any, AV.any, AV.any, AV.any, AV.any, AV.any, AV.any, AV.any, AV.any, AV.any, AV.any, AV.any, AV.any, AV.any, AV.any, AV.any, AV.any, AV.any, AV.any,
      AV.any, AV.any, AV.any, AV.any, AV.any, AV.any, AV.any, AV.any, AV.any, AV.any, AV.any, AV.any, AV.any, AV.any, AV.any, AV.any, AV.any, AV.any,
      AV.sl Sh.expr l73, AV.int IntKind.i64 i74, AV.int IntKind.i64 i75, AV.any, AV.any, AV.any, AV.any, AV.any, AV.any, AV.any, AV.any, AV.any, AV.any],
  heap := [AO.box [AV.int IntKind.i64 ih_0_0]] }
theorem ok37 (g : ExprT → Int → Int → Bool × Int) (c : ExprT → Int → Int → Bool) : fnChk (en37 g c).P 37 Tryz.f37 3 := by refine ⟨?_, ?_, ?_, ?_⟩ <;> kernel_rfl
theorem go37 (g : ExprT → Int → Int → Bool × Int) (c : ExprT → Int → Int → Bool) (e : ExprT) (d : Int) (n : Int) : run (en37 g c) 1 kp37 (Func.results Tryz.f37).toList 400 (bodyOf Tryz.f37) (initSt (Func.ntmps Tryz.f37) [AV.ptr 0 0, datum Sh.expr e, AV.int IntKind.i64 d] [AO.box [AV.int IntKind.i64 n]]) =
  Tr.br (bif decide (d > 12) then true else bif decide (IntKind.i64.wrap (n + 1) > 60) then true else (↑e.l.length : Int) != partsN e.op)
  (Tr.ok (Leaf.ret (AV.kb false) [AO.box [AV.int IntKind.i64 (IntKind.i64.wrap (n + 1))]]))
  (Tr.br (e.op == [108, 105, 116])
    (Tr.ok (Leaf.ret (AV.bool (bif e.s == [] then vMay e.v else false)) [AO.box [AV.int IntKind.i64 (IntKind.i64.wrap (n + 1))]]))
    (Tr.br (e.op == [99, 111, 108])
      (Tr.ok
        (Leaf.ret (AV.bool (bif isNil e.v then bif wName e.s then !resv e.s else false else false))
          [AO.box [AV.int IntKind.i64 (IntKind.i64.wrap (n + 1))]]))
      (Tr.br (bif !isNil e.v then true else !e.s == [])
        (Tr.ok (Leaf.ret (AV.kb false) [AO.box [AV.int IntKind.i64 (IntKind.i64.wrap (n + 1))]]))
        (Tr.ok (Leaf.head 12 (headK Tryz.f37 12) (s37_12 d e.l (↑e.l.length : Int) 0 (IntKind.i64.wrap (n + 1)))))))) := by kernel_rfl
theorem on37_12 (g : ExprT → Int → Int → Bool × Int) (c : ExprT → Int → Int → Bool) (i2 : Int) (l73 : List (Sem Sh.expr)) (i74 : Int) (i75 : Int) (ih_0_0 : Int) : run (en37 g c) 1 kp37 (Func.results Tryz.f37).toList 400 (headK Tryz.f37 12) (s37_12 i2 l73 i74 i75 ih_0_0) =
  Tr.br (decide (i75 < i74))
  (Tr.chk (inB i75 l73.length)
    (Tr.chk
      (c
        (ExprT.mk (ExprT.op (l73.getD i75.toNat (dflt Sh.expr))) (ExprT.v (l73.getD i75.toNat (dflt Sh.expr))) (ExprT.s (l73.getD i75.toNat (dflt Sh.expr)))
          (ExprT.l (l73.getD i75.toNat (dflt Sh.expr))))
        (IntKind.i64.wrap (i2 + 1)) ih_0_0)
      (Tr.br
        (!(g
              (ExprT.mk (ExprT.op (l73.getD i75.toNat (dflt Sh.expr))) (ExprT.v (l73.getD i75.toNat (dflt Sh.expr)))
                (ExprT.s (l73.getD i75.toNat (dflt Sh.expr))) (ExprT.l (l73.getD i75.toNat (dflt Sh.expr))))
              (IntKind.i64.wrap (i2 + 1)) ih_0_0).fst)
        (Tr.ok
          (Leaf.ret (AV.kb false)
            [AO.box
                [AV.int IntKind.i64
                    (g
                        (ExprT.mk (ExprT.op (l73.getD i75.toNat (dflt Sh.expr))) (ExprT.v (l73.getD i75.toNat (dflt Sh.expr)))
                          (ExprT.s (l73.getD i75.toNat (dflt Sh.expr))) (ExprT.l (l73.getD i75.toNat (dflt Sh.expr))))
                        (IntKind.i64.wrap (i2 + 1)) ih_0_0).snd]]))
        (Tr.ok
          (Leaf.head 12 (headK Tryz.f37 12)
            (s37_12 i2 l73 i74 (IntKind.i64.wrap (i75 + 1))
              (g
                  (ExprT.mk (ExprT.op (l73.getD i75.toNat (dflt Sh.expr))) (ExprT.v (l73.getD i75.toNat (dflt Sh.expr)))
                    (ExprT.s (l73.getD i75.toNat (dflt Sh.expr))) (ExprT.l (l73.getD i75.toNat (dflt Sh.expr))))
                  (IntKind.i64.wrap (i2 + 1)) ih_0_0).snd))))))
  (Tr.ok (Leaf.ret (AV.kb true) [AO.box [AV.int IntKind.i64 ih_0_0]])) := by kernel_rfl

def mayL (g : ExprT → Int → Int → Bool × Int) (d : Int) : List ExprT → Int → Bool × Int
  | [], n => (true, n)
  | x :: r, n => if (!(g x (IntKind.i64.wrap (d + 1)) n).1) = true then (false, (g x (IntKind.i64.wrap (d + 1)) n).2) else mayL g d r (g x (IntKind.i64.wrap (d + 1)) n).2
def mayLC (g : ExprT → Int → Int → Bool × Int) (c : ExprT → Int → Int → Bool) (d : Int) : List ExprT → Int → Bool
  | [], _ => true
  | x :: r, n => if c x (IntKind.i64.wrap (d + 1)) n = true then (if (!(g x (IntKind.i64.wrap (d + 1)) n).1) = true then true else mayLC g c d r (g x (IntKind.i64.wrap (d + 1)) n).2) else false

theorem at37 {g : ExprT → Int → Int → Bool × Int} {c : ExprT → Int → Int → Bool} (hg : FOk env21.P env21.gl 37 (F37r g c)) {C : Ctx} (hC : ∀ id, 1 ≤ id → C.ρ0 id = none) (d : Int) (l : List ExprT) (hl : l.length ≤ maxStr) :
    ∀ (k i : Nat) (n : Int), l.length - i = k → i ≤ l.length → mayLC g c d (l.drop i) n = true → Reach (en37 g c) C 37 (headK Tryz.f37 12) (s37_12 d l l.length i n) (fun r h => avB r = some (mayL g d (l.drop i) n).1 ∧ h = [.box [.int .i64 (mayL g d (l.drop i) n).2]]) := by
  intro k
  induction k with
  | zero =>
    intro i n hk hi hc
    obtain rfl : i = l.length := by omega
    refine reach_ok (en37_all hg) en37_mix (ok37 g c) hC (on37_12 g c _ _ _ _ _) ?_
    simp only [lt_dec', Tr.val_brF, List.drop_length]
    exact ⟨rfl, rfl⟩
  | succ k IH =>
    intro i n hk hi hc
    have hlt : i < l.length := by omega
    refine reach_ok (en37_all hg) en37_mix (ok37 g c) hC (on37_12 g c _ _ _ _ _) ?_
    rw [List.drop_eq_getElem_cons hlt] at hc ⊢
    rw [mayLC] at hc
    have hc1 := guard_ite hc
    simp only [lt_dec hlt, inB_of hlt, getD_at l _ hlt, ExprT.eta, Tr.val_brT, Tr.val_chkT, hc1.1, wrap_add i (by omega)]
    refine OptOk_br (fun h => ?_) (fun h => ?_)
    · rw [mayL, if_pos h]; exact ⟨rfl, rfl⟩
    · rw [mayL, if_neg (ne_t h)]
      have h2 := hc1.2
      rw [if_neg (ne_t h)] at h2
      exact IH (i + 1) _ (by omega) (by omega) h2

def mayS (g : ExprT → Int → Int → Bool × Int) (e : ExprT) (d n : Int) : Bool × Int :=
  if (bif decide (d > 12) then true else bif decide (IntKind.i64.wrap (n + 1) > 60) then true else (↑e.l.length : Int) != partsN e.op) = true then (false, IntKind.i64.wrap (n + 1)) else
  if (e.op == [108, 105, 116]) = true then (bif e.s == [] then vMay e.v else false, IntKind.i64.wrap (n + 1)) else
  if (e.op == [99, 111, 108]) = true then (bif isNil e.v then bif wName e.s then !resv e.s else false else false, IntKind.i64.wrap (n + 1)) else
  if (bif !isNil e.v then true else !e.s == []) = true then (false, IntKind.i64.wrap (n + 1)) else mayL g d e.l (IntKind.i64.wrap (n + 1))
def maySC (g : ExprT → Int → Int → Bool × Int) (c : ExprT → Int → Int → Bool) (e : ExprT) (d n : Int) : Bool :=
  if (bif decide (d > 12) then true else bif decide (IntKind.i64.wrap (n + 1) > 60) then true else (↑e.l.length : Int) != partsN e.op) = true then true else
  if (e.op == [108, 105, 116]) = true then true else
  if (e.op == [99, 111, 108]) = true then true else
  if (bif !isNil e.v then true else !e.s == []) = true then true else mayLC g c d e.l (IntKind.i64.wrap (n + 1))

theorem FOk37r {g : ExprT → Int → Int → Bool × Int} {c : ExprT → Int → Int → Bool} (hg : FOk env21.P env21.gl 37 (F37r g c)) : FOk env21.P env21.gl 37 (F37r (mayS g) (maySC g c)) := by
  refine FOk_of (E := en37 g c) (ok37 g c) fun x h0 res hx C hC => ?_
  unfold G37r at hx
  split at hx
  · rename_i e d u n
    simp only [Tr.val] at hx
    split at hx
    · rename_i hc
      simp only [Option.some.injEq] at hx
      subst hx
      refine Reach.toBool ?_
      refine reach_ok (n0 := 1) (en37_all hg) en37_mix (ok37 g c) hC (go37 g c e d n) ?_
      generalize hy : mayS g e d n = y
      unfold mayS at hy
      unfold maySC at hc
      repeat' (refine OptOk_br (fun hsp => ?_) (fun hsp => ?_) <;> first | (rw [if_pos hsp] at hy hc) | (rw [if_neg (ne_t hsp)] at hy hc))
      all_goals subst hy
      · exact ⟨rfl, rfl⟩
      · exact ⟨rfl, rfl⟩
      · exact ⟨rfl, rfl⟩
      · exact ⟨rfl, rfl⟩
      · exact Reach.len 73 .expr e.l rfl fun hl => at37 hg hC d e.l hl _ 0 _ rfl (Nat.zero_le _) hc
    · simp at hx
  · simp at hx

mutual
def mayN : Nat → ExprT → Int → Int → Bool × Int
  | 0 => fun _ _ _ => (false, 0)
  | n + 1 => mayS (mayN n)
def mayCN : Nat → ExprT → Int → Int → Bool
  | 0 => fun _ _ _ => false
  | n + 1 => maySC (mayN n) (mayCN n)
end
theorem FOk37N : ∀ n, FOk env21.P env21.gl 37 (F37r (mayN n) (mayCN n))
  | 0 => by
    have h : FOk env21.P env21.gl 37 (liftF [none, some .expr, some shInt] (fun _ _ => .err)) := FOk_of (ok37 (fun _ _ _ => (false, 0)) (fun _ _ _ => false)) (E := env21) fun x h0 res hx => by simp at hx
    refine FOk_any (ι := Unit) (Gs := fun _ _ _ => .err) (fun _ => h) fun x h0 res hx => ?_
    unfold G37r at hx
    split at hx
    · simp [Tr.val, mayCN] at hx
    · simp at hx
  | n + 1 => FOk37r (FOk37N n)
def F37 : FSem := F37r (mayN 16) (mayCN 16)
theorem FOk37 : FOk env21.P env21.gl 37 F37 := FOk37N 16

noncomputable def env22 : Env := (env21.add 37 F37)
theorem env22_all : EnvAll env22 := (EnvAll.addS env21_all (SameE.refl env21) FOk37)
theorem env22_mix : env22.P.follows .mixedOrders = true := (mix_add env21_mix _ _)
end Cad

namespace Cad
open Go Go.Proofs

abbrev doesM : List (Str × AV) := [([97, 110, 100], .clo (.func 38) [] []), ([111, 114], .clo (.func 39) [] []), ([110, 111, 116], .clo (.func 40) [] []), ([61], .clo (.func 42) [] []), ([60], .clo (.func 43) [] []), ([43], .clo (.func 44) [] []), ([45], .clo (.func 45) [] []), ([110, 117, 108, 108], .clo (.func 46) [] [])]
abbrev kp23 : Nat → Keep := fun _ => { }
theorem ok23 : fnChk env22.P 23 Tryz.f23 0 := by refine ⟨?_, ?_, ?_, ?_⟩ <;> kernel_rfl
theorem go23 : (run env22 0 kp23 (Func.results Tryz.f23).toList 400 (bodyOf Tryz.f23) (initSt (Func.ntmps Tryz.f23) [] [])).val = some (Leaf.ret (AV.mp 0) [AO.fmap doesM]) := by kernel_rfl
def G23 : GSem [] := fun _ h => match h with
  | [] => .ok (.mp 0, [.fmap doesM])
  | _ => .err
def F23 : FSem := liftF [] G23
theorem FOk23 : FOk env22.P env22.gl 23 F23 := by
  refine FOk_of ok23 fun x h0 res hx C hC => ?_
  unfold G23 at hx
  split at hx
  · simp only [Tr.val, Option.some.injEq] at hx
    subst hx
    exact reach_val (n0 := 0) env22_all env22_mix ok23 hC go23 rfl
  · simp at hx

def opV (op : Str) (x y : V) : V :=
  if (op == [97, 110, 100]) = true then vAnd x y else
  if (op == [111, 114]) = true then vOr x y else
  if (op == [110, 111, 116]) = true then vNot2 x y else
  if (op == [61]) = true then vEqual x y else
  if (op == [60]) = true then vLess x y else
  if (op == [43]) = true then vPlus x y else
  if (op == [45]) = true then vMinus x y else
  if (op == [110, 117, 108, 108]) = true then vNull2 x y else
  (0, 0, [])
def opC (op : Str) : Bool :=
  if (op == [97, 110, 100]) = true then true else
  if (op == [111, 114]) = true then true else
  if (op == [110, 111, 116]) = true then true else
  if (op == [61]) = true then true else
  if (op == [60]) = true then true else
  if (op == [43]) = true then true else
  if (op == [45]) = true then true else
  if (op == [110, 117, 108, 108]) = true then true else
  false
def opL (op : Str) (x y : V) (h : List AO) : Option Leaf :=
  if (op == [97, 110, 100]) = true then some (.ret (datum shVal (vAnd x y)) h) else
  if (op == [111, 114]) = true then some (.ret (datum shVal (vOr x y)) h) else
  if (op == [110, 111, 116]) = true then some (.ret (datum shVal (vNot2 x y)) h) else
  if (op == [61]) = true then some (.ret (datum shVal (vEqual x y)) h) else
  if (op == [60]) = true then some (.ret (datum shVal (vLess x y)) h) else
  if (op == [43]) = true then some (.ret (datum shVal (vPlus x y)) h) else
  if (op == [45]) = true then some (.ret (datum shVal (vMinus x y)) h) else
  if (op == [110, 117, 108, 108]) = true then some (.ret (datum shVal (vNull2 x y)) h) else
  none

def G24r (g : List (Sem shCol) → List (Sem shVal) → ExprT → V) (c : List (Sem shCol) → List (Sem shVal) → ExprT → Bool) : GSem [none, some .expr] := fun x h => match x, h with
  | (.agg [.sl (.pr .str (.pr (.int .i64) .bool)) cols, .sl (.pr (.int .i64) (.pr (.int .i64) .str)) row, .mp 0], e, _), [.fmap [(k1, .clo (.func 38) [] []), (k2, .clo (.func 39) [] []), (k3, .clo (.func 40) [] []), (k4, .clo (.func 42) [] []), (k5, .clo (.func 43) [] []), (k6, .clo (.func 44) [] []), (k7, .clo (.func 45) [] []), (k8, .clo (.func 46) [] [])]] =>
    .chk (k1 == [97, 110, 100] && (k2 == [111, 114] && (k3 == [110, 111, 116] && (k4 == [61] && (k5 == [60] && (k6 == [43] && (k7 == [45] && (k8 == [110, 117, 108, 108])))))))) (.chk (c cols row e) (.ok (datum shVal (g cols row e), [.fmap doesM])))
  | _, _ => .err
def F24r (g : List (Sem shCol) → List (Sem shVal) → ExprT → V) (c : List (Sem shCol) → List (Sem shVal) → ExprT → Bool) : FSem := liftF [none, some .expr] (G24r g c)
noncomputable def en24 (g : List (Sem shCol) → List (Sem shVal) → ExprT → V) (c : List (Sem shCol) → List (Sem shVal) → ExprT → Bool) : Env := env22.add 24 (F24r g c)
theorem en24_all {g : List (Sem shCol) → List (Sem shVal) → ExprT → V} {c : List (Sem shCol) → List (Sem shVal) → ExprT → Bool} (hg : FOk env22.P env22.gl 24 (F24r g c)) : EnvAll (en24 g c) := env22_all.add hg
theorem en24_mix {g : List (Sem shCol) → List (Sem shVal) → ExprT → V} {c : List (Sem shCol) → List (Sem shVal) → ExprT → Bool} : (en24 g c).P.follows .mixedOrders = true := mix_add env22_mix _ _
theorem ok24 (g : List (Sem shCol) → List (Sem shVal) → ExprT → V) (c : List (Sem shCol) → List (Sem shVal) → ExprT → Bool) : fnChk (en24 g c).P 24 Tryz.f24 2 := by refine ⟨?_, ?_, ?_, ?_⟩ <;> kernel_rfl
theorem go24_0 (g : List (Sem shCol) → List (Sem shVal) → ExprT → V) (c : List (Sem shCol) → List (Sem shVal) → ExprT → Bool) (cols : List (Sem shCol)) (row : List (Sem shVal)) (op : Str) (v : V) (s : Str) : (run (en24 g c) 1 unr (Func.results Tryz.f24).toList 600 (bodyOf Tryz.f24) (initSt (Func.ntmps Tryz.f24) [AV.agg [AV.sl shCol cols, AV.sl shVal row, AV.mp 0], datum Sh.expr (.mk op v s [])] [AO.fmap doesM])).val =
  if (op == [108, 105, 116]) = true then some (.ret (datum shVal v) [.fmap doesM]) else
  if (op == [99, 111, 108]) = true then (if (bif decide (cPlace cols s < 0) then true else decide (cPlace cols s ≥ (↑row.length : Int))) = true then some (.ret (datum shVal (0, 0, [])) [.fmap doesM]) else
    if inB (cPlace cols s) row.length = true then some (.ret (datum shVal (row.getD (Int.toNat (cPlace cols s)) (dflt shVal))) [.fmap doesM]) else none) else
  opL op (0, 0, []) (0, 0, []) [.fmap doesM] := by kernel_rfl
theorem go24_1 (g : List (Sem shCol) → List (Sem shVal) → ExprT → V) (c : List (Sem shCol) → List (Sem shVal) → ExprT → Bool) (cols : List (Sem shCol)) (row : List (Sem shVal)) (op : Str) (v : V) (s : Str) (a : ExprT) : (run (en24 g c) 1 unr (Func.results Tryz.f24).toList 600 (bodyOf Tryz.f24) (initSt (Func.ntmps Tryz.f24) [AV.agg [AV.sl shCol cols, AV.sl shVal row, AV.mp 0], datum Sh.expr (.mk op v s [a])] [AO.fmap doesM])).val =
  if (op == [108, 105, 116]) = true then some (.ret (datum shVal v) [.fmap doesM]) else
  if (op == [99, 111, 108]) = true then (if (bif decide (cPlace cols s < 0) then true else decide (cPlace cols s ≥ (↑row.length : Int))) = true then some (.ret (datum shVal (0, 0, [])) [.fmap doesM]) else
    if inB (cPlace cols s) row.length = true then some (.ret (datum shVal (row.getD (Int.toNat (cPlace cols s)) (dflt shVal))) [.fmap doesM]) else none) else
  if c cols row (.mk a.op a.v a.s a.l) = true then opL op (g cols row (.mk a.op a.v a.s a.l)) (0, 0, []) [.fmap doesM] else none := by kernel_rfl
theorem go24_2 (g : List (Sem shCol) → List (Sem shVal) → ExprT → V) (c : List (Sem shCol) → List (Sem shVal) → ExprT → Bool) (cols : List (Sem shCol)) (row : List (Sem shVal)) (op : Str) (v : V) (s : Str) (a b : ExprT) : (run (en24 g c) 1 unr (Func.results Tryz.f24).toList 600 (bodyOf Tryz.f24) (initSt (Func.ntmps Tryz.f24) [AV.agg [AV.sl shCol cols, AV.sl shVal row, AV.mp 0], datum Sh.expr (.mk op v s [a, b])] [AO.fmap doesM])).val =
  if (op == [108, 105, 116]) = true then some (.ret (datum shVal v) [.fmap doesM]) else
  if (op == [99, 111, 108]) = true then (if (bif decide (cPlace cols s < 0) then true else decide (cPlace cols s ≥ (↑row.length : Int))) = true then some (.ret (datum shVal (0, 0, [])) [.fmap doesM]) else
    if inB (cPlace cols s) row.length = true then some (.ret (datum shVal (row.getD (Int.toNat (cPlace cols s)) (dflt shVal))) [.fmap doesM]) else none) else
  if c cols row (.mk a.op a.v a.s a.l) = true then (if c cols row (.mk b.op b.v b.s b.l) = true then opL op (g cols row (.mk a.op a.v a.s a.l)) (g cols row (.mk b.op b.v b.s b.l)) [.fmap doesM] else none) else none := by kernel_rfl

theorem OptOk_ite {Φ : Leaf → Prop} {c : Bool} {a b : Option Leaf} (h1 : c = true → OptOk Φ a) (h2 : c = false → OptOk Φ b) : OptOk Φ (if c = true then a else b) := by
  cases c
  · simpa using h2 rfl
  · simpa using h1 rfl
theorem reach_okv {E : Env} {C : Ctx} {k : FuncId} {f : Func} {Q : AV → List AO → Prop} {n n0 : Nat} (hE : EnvAll E) (hm : E.P.follows .mixedOrders = true) (hf : fnChk E.P k f n) (hC : ∀ id, n0 ≤ id → C.ρ0 id = none) {keep : Nat → Keep} {fuel : Nat}
    {todo : List Item} {st : St} {o : Option Leaf} (ht : (run E n0 keep f.results.toList fuel todo st).val = o) (h : OptOk (LeafOk E C k Q) o) : Reach E C k todo st Q :=
  reach_ok hE hm hf hC rfl (by rw [ht]; exact h)

theorem opL_ok {E : Env} {C : Ctx} {op : Str} {x y : V} {h : List AO} (hc : opC op = true) : OptOk (LeafOk E C 24 (fun r h' => (r, h') = (datum shVal (opV op x y), h))) (opL op x y h) := by
  generalize hy : opV op x y = z
  unfold opC at hc
  unfold opV at hy
  unfold opL
  repeat' (refine OptOk_ite (fun hsp => ?_) (fun hsp => ?_) <;> first | (rw [if_pos hsp] at hy; try rw [if_pos hsp] at hc) | (rw [if_neg (ne_t hsp)] at hy; try rw [if_neg (ne_t hsp)] at hc))
  all_goals first | (cases hc; done) | (subst hy; rfl)

def valS (g : List (Sem shCol) → List (Sem shVal) → ExprT → V) (cols : List (Sem shCol)) (row : List (Sem shVal)) : ExprT → V
  | .mk op v s l => if (op == [108, 105, 116]) = true then v else
    if (op == [99, 111, 108]) = true then (if (bif decide (cPlace cols s < 0) then true else decide (cPlace cols s ≥ (↑row.length : Int))) = true then (0, 0, []) else row.getD (Int.toNat (cPlace cols s)) (dflt shVal)) else
    match l with
    | [] => opV op (0, 0, []) (0, 0, [])
    | [a] => opV op (g cols row a) (0, 0, [])
    | [a, b] => opV op (g cols row a) (g cols row b)
    | _ => (0, 0, [])
def valSC (c : List (Sem shCol) → List (Sem shVal) → ExprT → Bool) (cols : List (Sem shCol)) (row : List (Sem shVal)) : ExprT → Bool
  | .mk _ _ _ (_ :: _ :: _ :: _) => false
  | .mk op _ s l => if (op == [108, 105, 116]) = true then true else
    if (op == [99, 111, 108]) = true then (if (bif decide (cPlace cols s < 0) then true else decide (cPlace cols s ≥ (↑row.length : Int))) = true then true else inB (cPlace cols s) row.length) else
    match l with
    | [] => opC op
    | [a] => if c cols row a = true then opC op else false
    | [a, b] => if c cols row a = true then (if c cols row b = true then opC op else false) else false
    | _ => false

theorem FOk24r {g : List (Sem shCol) → List (Sem shVal) → ExprT → V} {c : List (Sem shCol) → List (Sem shVal) → ExprT → Bool} (hg : FOk env22.P env22.gl 24 (F24r g c)) : FOk env22.P env22.gl 24 (F24r (valS g) (valSC c)) := by
  refine FOk_of (E := en24 g c) (ok24 g c) fun x h0 res hx C hC => ?_
  unfold G24r at hx
  split at hx
  · rename_i cols row e u k1 k2 k3 k4 k5 k6 k7 k8
    simp only [Tr.val] at hx
    split at hx
    · rename_i hk
      split at hx
      · rename_i hc
        simp only [Bool.and_eq_true, beq_iff_eq] at hk
        obtain ⟨rfl, rfl, rfl, rfl, rfl, rfl, rfl, rfl⟩ := hk
        simp only [Option.some.injEq] at hx
        subst hx
        obtain ⟨op, v, s, l⟩ := e
        match l, hc with
        | [], hc =>
          refine reach_okv (n0 := 1) (en24_all hg) en24_mix (ok24 g c) hC (go24_0 g c cols row op v s) ?_
          generalize hy : valS g cols row (.mk op v s []) = z
          rw [valSC] at hc
          rw [valS] at hy
          repeat' (first | (subst hy; exact opL_ok hc) | refine OptOk_ite (fun hsp => ?_) (fun hsp => ?_) <;> first | (first | rw [if_pos hsp] at hy hc | rw [if_pos hsp] at hc | rw [if_pos hsp] at hy) | (first | rw [if_neg (ne_t hsp)] at hy hc | rw [if_neg (ne_t hsp)] at hc | rw [if_neg (ne_t hsp)] at hy) | skip)
          all_goals first | (subst hy; exact opL_ok hc) | (subst hy; rfl) | (rw [hc] at hsp; cases hsp)
        | [a], hc =>
          refine reach_okv (n0 := 1) (en24_all hg) en24_mix (ok24 g c) hC (go24_1 g c cols row op v s a) ?_
          generalize hy : valS g cols row (.mk op v s [a]) = z
          rw [valSC] at hc
          rw [valS] at hy
          simp only [ExprT.eta]
          repeat' (first | (subst hy; exact opL_ok hc) | refine OptOk_ite (fun hsp => ?_) (fun hsp => ?_) <;> first | (first | rw [if_pos hsp] at hy hc | rw [if_pos hsp] at hc | rw [if_pos hsp] at hy) | (first | rw [if_neg (ne_t hsp)] at hy hc | rw [if_neg (ne_t hsp)] at hc | rw [if_neg (ne_t hsp)] at hy) | skip)
          all_goals first | (subst hy; exact opL_ok hc) | (subst hy; rfl) | (cases hc; done) | (rw [hc] at hsp; cases hsp)
        | [a, b], hc =>
          refine reach_okv (n0 := 1) (en24_all hg) en24_mix (ok24 g c) hC (go24_2 g c cols row op v s a b) ?_
          generalize hy : valS g cols row (.mk op v s [a, b]) = z
          rw [valSC] at hc
          rw [valS] at hy
          simp only [ExprT.eta]
          repeat' (first | (subst hy; exact opL_ok hc) | refine OptOk_ite (fun hsp => ?_) (fun hsp => ?_) <;> first | (first | rw [if_pos hsp] at hy hc | rw [if_pos hsp] at hc | rw [if_pos hsp] at hy) | (first | rw [if_neg (ne_t hsp)] at hy hc | rw [if_neg (ne_t hsp)] at hc | rw [if_neg (ne_t hsp)] at hy) | skip)
          all_goals first | (subst hy; exact opL_ok hc) | (subst hy; rfl) | (cases hc; done) | (rw [hc] at hsp; cases hsp)
        | _ :: _ :: _ :: _, hc =>
          cases hc
      · simp at hx
    · simp at hx
  · simp at hx

mutual
def valN : Nat → List (Sem shCol) → List (Sem shVal) → ExprT → V
  | 0 => fun _ _ _ => (0, 0, [])
  | n + 1 => valS (valN n)
def valCN : Nat → List (Sem shCol) → List (Sem shVal) → ExprT → Bool
  | 0 => fun _ _ _ => false
  | n + 1 => valSC (valCN n)
end
theorem FOk24N : ∀ n, FOk env22.P env22.gl 24 (F24r (valN n) (valCN n))
  | 0 => by
    have h : FOk env22.P env22.gl 24 (liftF [none, some .expr] (fun _ _ => .err)) := FOk_of (ok24 (fun _ _ _ => (0, 0, [])) (fun _ _ _ => false)) (E := env22) fun x h0 res hx => by simp at hx
    refine FOk_any (ι := Unit) (Gs := fun _ _ _ => .err) (fun _ => h) fun x h0 res hx => ?_
    unfold G24r at hx
    split at hx
    · simp [Tr.val, valCN] at hx
    · simp at hx
  | n + 1 => FOk24r (FOk24N n)
def F24 : FSem := F24r (valN 16) (valCN 16)
theorem FOk24 : FOk env22.P env22.gl 24 F24 := FOk24N 16


noncomputable def env23 : Env := ((env22.add 23 F23).add 24 F24)
theorem env23_all : EnvAll env23 := (EnvAll.addS (EnvAll.addS env22_all (SameE.refl env22) FOk23) ((SameE.refl env22).add _ _) FOk24)
theorem env23_mix : env23.P.follows .mixedOrders = true := (mix_add (mix_add env22_mix _ _) _ _)
end Cad

