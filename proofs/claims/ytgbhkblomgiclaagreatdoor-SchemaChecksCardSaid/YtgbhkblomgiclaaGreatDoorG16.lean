/- The two laws, as they are computed. The plain laws: what both laws compute is true. SchemaChecks and SchemaNulls. -/
import Derived.Test.YtgbhkblomgiclaaGreatDoorG12
import Derived.Test.YtgbhkblomgiclaaGreatDoorG15
namespace Cad
open Go Go.Proofs

def F9 : FSem := plainT [] [.bool] fun _ => (true, ())
noncomputable def en3 : Env := env33.add 9 F9
theorem en3_all (hg : FOk env33.P env33.gl 9 F9) : EnvAll en3 := env33_all.add hg
abbrev kp3 : Nat → Keep := fun j => { }
theorem ok3 : fnChk (en3).P 3 Tryz.f3 3 := by refine ⟨?_, ?_, ?_, ?_⟩ <;> kernel_rfl
theorem go3 (x0 : Sem shTable) (x1 : Sem shVal.sl) (x2 : Sem Sh.expr) : run (en3) 0 kp3 (Func.results Tryz.f3).toList 400 (bodyOf Tryz.f3) (initSt (Func.ntmps Tryz.f3) [datum shTable x0, datum shVal.sl x1, datum Sh.expr x2] []) =
  Tr.br
  (bif ExprT.op (eFew (ExprT.mk (ExprT.op x2) (ExprT.v x2) (ExprT.s x2) (ExprT.l x2))) == [] then true
  else
    !tMay
        ((tFew
              (x0.fst, x0.snd.fst, x0.snd.snd.fst, x0.snd.snd.snd.fst, x0.snd.snd.snd.snd.fst,
                ExprT.mk (ExprT.op x0.snd.snd.snd.snd.snd) (ExprT.v x0.snd.snd.snd.snd.snd) (ExprT.s x0.snd.snd.snd.snd.snd)
                  (ExprT.l x0.snd.snd.snd.snd.snd))).fst,
          (tFew
                (x0.fst, x0.snd.fst, x0.snd.snd.fst, x0.snd.snd.snd.fst, x0.snd.snd.snd.snd.fst,
                  ExprT.mk (ExprT.op x0.snd.snd.snd.snd.snd) (ExprT.v x0.snd.snd.snd.snd.snd) (ExprT.s x0.snd.snd.snd.snd.snd)
                    (ExprT.l x0.snd.snd.snd.snd.snd))).snd.fst,
          (tFew
                  (x0.fst, x0.snd.fst, x0.snd.snd.fst, x0.snd.snd.snd.fst, x0.snd.snd.snd.snd.fst,
                    ExprT.mk (ExprT.op x0.snd.snd.snd.snd.snd) (ExprT.v x0.snd.snd.snd.snd.snd) (ExprT.s x0.snd.snd.snd.snd.snd)
                      (ExprT.l x0.snd.snd.snd.snd.snd))).snd.snd.fst,
          (tFew
                    (x0.fst, x0.snd.fst, x0.snd.snd.fst, x0.snd.snd.snd.fst, x0.snd.snd.snd.snd.fst,
                      ExprT.mk (ExprT.op x0.snd.snd.snd.snd.snd) (ExprT.v x0.snd.snd.snd.snd.snd) (ExprT.s x0.snd.snd.snd.snd.snd)
                        (ExprT.l x0.snd.snd.snd.snd.snd))).snd.snd.snd.fst,
          (tFew
                      (x0.fst, x0.snd.fst, x0.snd.snd.fst, x0.snd.snd.snd.fst, x0.snd.snd.snd.snd.fst,
                        ExprT.mk (ExprT.op x0.snd.snd.snd.snd.snd) (ExprT.v x0.snd.snd.snd.snd.snd) (ExprT.s x0.snd.snd.snd.snd.snd)
                          (ExprT.l x0.snd.snd.snd.snd.snd))).snd.snd.snd.snd.fst,
          ExprT.mk (ExprT.op (eFew (ExprT.mk (ExprT.op x2) (ExprT.v x2) (ExprT.s x2) (ExprT.l x2))))
            (ExprT.v (eFew (ExprT.mk (ExprT.op x2) (ExprT.v x2) (ExprT.s x2) (ExprT.l x2))))
            (ExprT.s (eFew (ExprT.mk (ExprT.op x2) (ExprT.v x2) (ExprT.s x2) (ExprT.l x2))))
            (ExprT.l (eFew (ExprT.mk (ExprT.op x2) (ExprT.v x2) (ExprT.s x2) (ExprT.l x2))))))
  (Tr.ok (Leaf.ret (AV.bool true) []))
  (Tr.br
    (tFits
        ((tFew
              (x0.fst, x0.snd.fst, x0.snd.snd.fst, x0.snd.snd.snd.fst, x0.snd.snd.snd.snd.fst,
                ExprT.mk (ExprT.op x0.snd.snd.snd.snd.snd) (ExprT.v x0.snd.snd.snd.snd.snd) (ExprT.s x0.snd.snd.snd.snd.snd)
                  (ExprT.l x0.snd.snd.snd.snd.snd))).fst,
          (tFew
                (x0.fst, x0.snd.fst, x0.snd.snd.fst, x0.snd.snd.snd.fst, x0.snd.snd.snd.snd.fst,
                  ExprT.mk (ExprT.op x0.snd.snd.snd.snd.snd) (ExprT.v x0.snd.snd.snd.snd.snd) (ExprT.s x0.snd.snd.snd.snd.snd)
                    (ExprT.l x0.snd.snd.snd.snd.snd))).snd.fst,
          (tFew
                  (x0.fst, x0.snd.fst, x0.snd.snd.fst, x0.snd.snd.snd.fst, x0.snd.snd.snd.snd.fst,
                    ExprT.mk (ExprT.op x0.snd.snd.snd.snd.snd) (ExprT.v x0.snd.snd.snd.snd.snd) (ExprT.s x0.snd.snd.snd.snd.snd)
                      (ExprT.l x0.snd.snd.snd.snd.snd))).snd.snd.fst,
          (tFew
                    (x0.fst, x0.snd.fst, x0.snd.snd.fst, x0.snd.snd.snd.fst, x0.snd.snd.snd.snd.fst,
                      ExprT.mk (ExprT.op x0.snd.snd.snd.snd.snd) (ExprT.v x0.snd.snd.snd.snd.snd) (ExprT.s x0.snd.snd.snd.snd.snd)
                        (ExprT.l x0.snd.snd.snd.snd.snd))).snd.snd.snd.fst,
          (tFew
                      (x0.fst, x0.snd.fst, x0.snd.snd.fst, x0.snd.snd.snd.fst, x0.snd.snd.snd.snd.fst,
                        ExprT.mk (ExprT.op x0.snd.snd.snd.snd.snd) (ExprT.v x0.snd.snd.snd.snd.snd) (ExprT.s x0.snd.snd.snd.snd.snd)
                          (ExprT.l x0.snd.snd.snd.snd.snd))).snd.snd.snd.snd.fst,
          ExprT.mk [] (0, 0, []) [] [])
        (lFew2 x1) !=
      0)
    (Tr.ok
      (Leaf.ret
        (AV.bool
          (bif
              tFits
                  ((tFew
                        (x0.fst, x0.snd.fst, x0.snd.snd.fst, x0.snd.snd.snd.fst, x0.snd.snd.snd.snd.fst,
                          ExprT.mk (ExprT.op x0.snd.snd.snd.snd.snd) (ExprT.v x0.snd.snd.snd.snd.snd) (ExprT.s x0.snd.snd.snd.snd.snd)
                            (ExprT.l x0.snd.snd.snd.snd.snd))).fst,
                    (tFew
                          (x0.fst, x0.snd.fst, x0.snd.snd.fst, x0.snd.snd.snd.fst, x0.snd.snd.snd.snd.fst,
                            ExprT.mk (ExprT.op x0.snd.snd.snd.snd.snd) (ExprT.v x0.snd.snd.snd.snd.snd) (ExprT.s x0.snd.snd.snd.snd.snd)
                              (ExprT.l x0.snd.snd.snd.snd.snd))).snd.fst,
                    (tFew
                            (x0.fst, x0.snd.fst, x0.snd.snd.fst, x0.snd.snd.snd.fst, x0.snd.snd.snd.snd.fst,
                              ExprT.mk (ExprT.op x0.snd.snd.snd.snd.snd) (ExprT.v x0.snd.snd.snd.snd.snd) (ExprT.s x0.snd.snd.snd.snd.snd)
                                (ExprT.l x0.snd.snd.snd.snd.snd))).snd.snd.fst,
                    (tFew
                              (x0.fst, x0.snd.fst, x0.snd.snd.fst, x0.snd.snd.snd.fst, x0.snd.snd.snd.snd.fst,
                                ExprT.mk (ExprT.op x0.snd.snd.snd.snd.snd) (ExprT.v x0.snd.snd.snd.snd.snd) (ExprT.s x0.snd.snd.snd.snd.snd)
                                  (ExprT.l x0.snd.snd.snd.snd.snd))).snd.snd.snd.fst,
                    (tFew
                                (x0.fst, x0.snd.fst, x0.snd.snd.fst, x0.snd.snd.snd.fst, x0.snd.snd.snd.snd.fst,
                                  ExprT.mk (ExprT.op x0.snd.snd.snd.snd.snd) (ExprT.v x0.snd.snd.snd.snd.snd) (ExprT.s x0.snd.snd.snd.snd.snd)
                                    (ExprT.l x0.snd.snd.snd.snd.snd))).snd.snd.snd.snd.fst,
                    ExprT.mk (ExprT.op (eFew (ExprT.mk (ExprT.op x2) (ExprT.v x2) (ExprT.s x2) (ExprT.l x2))))
                      (ExprT.v (eFew (ExprT.mk (ExprT.op x2) (ExprT.v x2) (ExprT.s x2) (ExprT.l x2))))
                      (ExprT.s (eFew (ExprT.mk (ExprT.op x2) (ExprT.v x2) (ExprT.s x2) (ExprT.l x2))))
                      (ExprT.l (eFew (ExprT.mk (ExprT.op x2) (ExprT.v x2) (ExprT.s x2) (ExprT.l x2)))))
                  (lFew2 x1) ==
                tFits
                  ((tFew
                        (x0.fst, x0.snd.fst, x0.snd.snd.fst, x0.snd.snd.snd.fst, x0.snd.snd.snd.snd.fst,
                          ExprT.mk (ExprT.op x0.snd.snd.snd.snd.snd) (ExprT.v x0.snd.snd.snd.snd.snd) (ExprT.s x0.snd.snd.snd.snd.snd)
                            (ExprT.l x0.snd.snd.snd.snd.snd))).fst,
                    (tFew
                          (x0.fst, x0.snd.fst, x0.snd.snd.fst, x0.snd.snd.snd.fst, x0.snd.snd.snd.snd.fst,
                            ExprT.mk (ExprT.op x0.snd.snd.snd.snd.snd) (ExprT.v x0.snd.snd.snd.snd.snd) (ExprT.s x0.snd.snd.snd.snd.snd)
                              (ExprT.l x0.snd.snd.snd.snd.snd))).snd.fst,
                    (tFew
                            (x0.fst, x0.snd.fst, x0.snd.snd.fst, x0.snd.snd.snd.fst, x0.snd.snd.snd.snd.fst,
                              ExprT.mk (ExprT.op x0.snd.snd.snd.snd.snd) (ExprT.v x0.snd.snd.snd.snd.snd) (ExprT.s x0.snd.snd.snd.snd.snd)
                                (ExprT.l x0.snd.snd.snd.snd.snd))).snd.snd.fst,
                    (tFew
                              (x0.fst, x0.snd.fst, x0.snd.snd.fst, x0.snd.snd.snd.fst, x0.snd.snd.snd.snd.fst,
                                ExprT.mk (ExprT.op x0.snd.snd.snd.snd.snd) (ExprT.v x0.snd.snd.snd.snd.snd) (ExprT.s x0.snd.snd.snd.snd.snd)
                                  (ExprT.l x0.snd.snd.snd.snd.snd))).snd.snd.snd.fst,
                    (tFew
                                (x0.fst, x0.snd.fst, x0.snd.snd.fst, x0.snd.snd.snd.fst, x0.snd.snd.snd.snd.fst,
                                  ExprT.mk (ExprT.op x0.snd.snd.snd.snd.snd) (ExprT.v x0.snd.snd.snd.snd.snd) (ExprT.s x0.snd.snd.snd.snd.snd)
                                    (ExprT.l x0.snd.snd.snd.snd.snd))).snd.snd.snd.snd.fst,
                    ExprT.mk [] (0, 0, []) [] [])
                  (lFew2 x1) then
            true
          else false))
        []))
    (Tr.ok
      (Leaf.ret
        (AV.bool
          (bif
              (tFits
                    ((tFew
                          (x0.fst, x0.snd.fst, x0.snd.snd.fst, x0.snd.snd.snd.fst, x0.snd.snd.snd.snd.fst,
                            ExprT.mk (ExprT.op x0.snd.snd.snd.snd.snd) (ExprT.v x0.snd.snd.snd.snd.snd) (ExprT.s x0.snd.snd.snd.snd.snd)
                              (ExprT.l x0.snd.snd.snd.snd.snd))).fst,
                      (tFew
                            (x0.fst, x0.snd.fst, x0.snd.snd.fst, x0.snd.snd.snd.fst, x0.snd.snd.snd.snd.fst,
                              ExprT.mk (ExprT.op x0.snd.snd.snd.snd.snd) (ExprT.v x0.snd.snd.snd.snd.snd) (ExprT.s x0.snd.snd.snd.snd.snd)
                                (ExprT.l x0.snd.snd.snd.snd.snd))).snd.fst,
                      (tFew
                              (x0.fst, x0.snd.fst, x0.snd.snd.fst, x0.snd.snd.snd.fst, x0.snd.snd.snd.snd.fst,
                                ExprT.mk (ExprT.op x0.snd.snd.snd.snd.snd) (ExprT.v x0.snd.snd.snd.snd.snd) (ExprT.s x0.snd.snd.snd.snd.snd)
                                  (ExprT.l x0.snd.snd.snd.snd.snd))).snd.snd.fst,
                      (tFew
                                (x0.fst, x0.snd.fst, x0.snd.snd.fst, x0.snd.snd.snd.fst, x0.snd.snd.snd.snd.fst,
                                  ExprT.mk (ExprT.op x0.snd.snd.snd.snd.snd) (ExprT.v x0.snd.snd.snd.snd.snd) (ExprT.s x0.snd.snd.snd.snd.snd)
                                    (ExprT.l x0.snd.snd.snd.snd.snd))).snd.snd.snd.fst,
                      (tFew
                                  (x0.fst, x0.snd.fst, x0.snd.snd.fst, x0.snd.snd.snd.fst, x0.snd.snd.snd.snd.fst,
                                    ExprT.mk (ExprT.op x0.snd.snd.snd.snd.snd) (ExprT.v x0.snd.snd.snd.snd.snd) (ExprT.s x0.snd.snd.snd.snd.snd)
                                      (ExprT.l x0.snd.snd.snd.snd.snd))).snd.snd.snd.snd.fst,
                      ExprT.mk (ExprT.op (eFew (ExprT.mk (ExprT.op x2) (ExprT.v x2) (ExprT.s x2) (ExprT.l x2))))
                        (ExprT.v (eFew (ExprT.mk (ExprT.op x2) (ExprT.v x2) (ExprT.s x2) (ExprT.l x2))))
                        (ExprT.s (eFew (ExprT.mk (ExprT.op x2) (ExprT.v x2) (ExprT.s x2) (ExprT.l x2))))
                        (ExprT.l (eFew (ExprT.mk (ExprT.op x2) (ExprT.v x2) (ExprT.s x2) (ExprT.l x2)))))
                    (lFew2 x1) ==
                  9) ==
                ((eEval
                        (ExprT.mk (ExprT.op (eFew (ExprT.mk (ExprT.op x2) (ExprT.v x2) (ExprT.s x2) (ExprT.l x2))))
                          (ExprT.v (eFew (ExprT.mk (ExprT.op x2) (ExprT.v x2) (ExprT.s x2) (ExprT.l x2))))
                          (ExprT.s (eFew (ExprT.mk (ExprT.op x2) (ExprT.v x2) (ExprT.s x2) (ExprT.l x2))))
                          (ExprT.l (eFew (ExprT.mk (ExprT.op x2) (ExprT.v x2) (ExprT.s x2) (ExprT.l x2)))))
                        (tFew
                              (x0.fst, x0.snd.fst, x0.snd.snd.fst, x0.snd.snd.snd.fst, x0.snd.snd.snd.snd.fst,
                                ExprT.mk (ExprT.op x0.snd.snd.snd.snd.snd) (ExprT.v x0.snd.snd.snd.snd.snd) (ExprT.s x0.snd.snd.snd.snd.snd)
                                  (ExprT.l x0.snd.snd.snd.snd.snd))).snd.fst
                        (lFew2 x1)).fst ==
                    3 &&
                  ((eEval
                            (ExprT.mk (ExprT.op (eFew (ExprT.mk (ExprT.op x2) (ExprT.v x2) (ExprT.s x2) (ExprT.l x2))))
                              (ExprT.v (eFew (ExprT.mk (ExprT.op x2) (ExprT.v x2) (ExprT.s x2) (ExprT.l x2))))
                              (ExprT.s (eFew (ExprT.mk (ExprT.op x2) (ExprT.v x2) (ExprT.s x2) (ExprT.l x2))))
                              (ExprT.l (eFew (ExprT.mk (ExprT.op x2) (ExprT.v x2) (ExprT.s x2) (ExprT.l x2)))))
                            (tFew
                                  (x0.fst, x0.snd.fst, x0.snd.snd.fst, x0.snd.snd.snd.fst, x0.snd.snd.snd.snd.fst,
                                    ExprT.mk (ExprT.op x0.snd.snd.snd.snd.snd) (ExprT.v x0.snd.snd.snd.snd.snd) (ExprT.s x0.snd.snd.snd.snd.snd)
                                      (ExprT.l x0.snd.snd.snd.snd.snd))).snd.fst
                            (lFew2 x1)).snd.fst ==
                      0 &&
                    ((eEval
                              (ExprT.mk (ExprT.op (eFew (ExprT.mk (ExprT.op x2) (ExprT.v x2) (ExprT.s x2) (ExprT.l x2))))
                                (ExprT.v (eFew (ExprT.mk (ExprT.op x2) (ExprT.v x2) (ExprT.s x2) (ExprT.l x2))))
                                (ExprT.s (eFew (ExprT.mk (ExprT.op x2) (ExprT.v x2) (ExprT.s x2) (ExprT.l x2))))
                                (ExprT.l (eFew (ExprT.mk (ExprT.op x2) (ExprT.v x2) (ExprT.s x2) (ExprT.l x2)))))
                              (tFew
                                    (x0.fst, x0.snd.fst, x0.snd.snd.fst, x0.snd.snd.snd.fst, x0.snd.snd.snd.snd.fst,
                                      ExprT.mk (ExprT.op x0.snd.snd.snd.snd.snd) (ExprT.v x0.snd.snd.snd.snd.snd) (ExprT.s x0.snd.snd.snd.snd.snd)
                                        (ExprT.l x0.snd.snd.snd.snd.snd))).snd.fst
                              (lFew2 x1)).snd.snd ==
                        [] &&
                      true))) then
            bif
                (tFits
                      ((tFew
                            (x0.fst, x0.snd.fst, x0.snd.snd.fst, x0.snd.snd.snd.fst, x0.snd.snd.snd.snd.fst,
                              ExprT.mk (ExprT.op x0.snd.snd.snd.snd.snd) (ExprT.v x0.snd.snd.snd.snd.snd) (ExprT.s x0.snd.snd.snd.snd.snd)
                                (ExprT.l x0.snd.snd.snd.snd.snd))).fst,
                        (tFew
                              (x0.fst, x0.snd.fst, x0.snd.snd.fst, x0.snd.snd.snd.fst, x0.snd.snd.snd.snd.fst,
                                ExprT.mk (ExprT.op x0.snd.snd.snd.snd.snd) (ExprT.v x0.snd.snd.snd.snd.snd) (ExprT.s x0.snd.snd.snd.snd.snd)
                                  (ExprT.l x0.snd.snd.snd.snd.snd))).snd.fst,
                        (tFew
                                (x0.fst, x0.snd.fst, x0.snd.snd.fst, x0.snd.snd.snd.fst, x0.snd.snd.snd.snd.fst,
                                  ExprT.mk (ExprT.op x0.snd.snd.snd.snd.snd) (ExprT.v x0.snd.snd.snd.snd.snd) (ExprT.s x0.snd.snd.snd.snd.snd)
                                    (ExprT.l x0.snd.snd.snd.snd.snd))).snd.snd.fst,
                        (tFew
                                  (x0.fst, x0.snd.fst, x0.snd.snd.fst, x0.snd.snd.snd.fst, x0.snd.snd.snd.snd.fst,
                                    ExprT.mk (ExprT.op x0.snd.snd.snd.snd.snd) (ExprT.v x0.snd.snd.snd.snd.snd) (ExprT.s x0.snd.snd.snd.snd.snd)
                                      (ExprT.l x0.snd.snd.snd.snd.snd))).snd.snd.snd.fst,
                        (tFew
                                    (x0.fst, x0.snd.fst, x0.snd.snd.fst, x0.snd.snd.snd.fst, x0.snd.snd.snd.snd.fst,
                                      ExprT.mk (ExprT.op x0.snd.snd.snd.snd.snd) (ExprT.v x0.snd.snd.snd.snd.snd) (ExprT.s x0.snd.snd.snd.snd.snd)
                                        (ExprT.l x0.snd.snd.snd.snd.snd))).snd.snd.snd.snd.fst,
                        ExprT.mk (ExprT.op (eFew (ExprT.mk (ExprT.op x2) (ExprT.v x2) (ExprT.s x2) (ExprT.l x2))))
                          (ExprT.v (eFew (ExprT.mk (ExprT.op x2) (ExprT.v x2) (ExprT.s x2) (ExprT.l x2))))
                          (ExprT.s (eFew (ExprT.mk (ExprT.op x2) (ExprT.v x2) (ExprT.s x2) (ExprT.l x2))))
                          (ExprT.l (eFew (ExprT.mk (ExprT.op x2) (ExprT.v x2) (ExprT.s x2) (ExprT.l x2)))))
                      (lFew2 x1) ==
                    0) ==
                  !((eEval
                            (ExprT.mk (ExprT.op (eFew (ExprT.mk (ExprT.op x2) (ExprT.v x2) (ExprT.s x2) (ExprT.l x2))))
                              (ExprT.v (eFew (ExprT.mk (ExprT.op x2) (ExprT.v x2) (ExprT.s x2) (ExprT.l x2))))
                              (ExprT.s (eFew (ExprT.mk (ExprT.op x2) (ExprT.v x2) (ExprT.s x2) (ExprT.l x2))))
                              (ExprT.l (eFew (ExprT.mk (ExprT.op x2) (ExprT.v x2) (ExprT.s x2) (ExprT.l x2)))))
                            (tFew
                                  (x0.fst, x0.snd.fst, x0.snd.snd.fst, x0.snd.snd.snd.fst, x0.snd.snd.snd.snd.fst,
                                    ExprT.mk (ExprT.op x0.snd.snd.snd.snd.snd) (ExprT.v x0.snd.snd.snd.snd.snd) (ExprT.s x0.snd.snd.snd.snd.snd)
                                      (ExprT.l x0.snd.snd.snd.snd.snd))).snd.fst
                            (lFew2 x1)).fst ==
                        3 &&
                      ((eEval
                                (ExprT.mk (ExprT.op (eFew (ExprT.mk (ExprT.op x2) (ExprT.v x2) (ExprT.s x2) (ExprT.l x2))))
                                  (ExprT.v (eFew (ExprT.mk (ExprT.op x2) (ExprT.v x2) (ExprT.s x2) (ExprT.l x2))))
                                  (ExprT.s (eFew (ExprT.mk (ExprT.op x2) (ExprT.v x2) (ExprT.s x2) (ExprT.l x2))))
                                  (ExprT.l (eFew (ExprT.mk (ExprT.op x2) (ExprT.v x2) (ExprT.s x2) (ExprT.l x2)))))
                                (tFew
                                      (x0.fst, x0.snd.fst, x0.snd.snd.fst, x0.snd.snd.snd.fst, x0.snd.snd.snd.snd.fst,
                                        ExprT.mk (ExprT.op x0.snd.snd.snd.snd.snd) (ExprT.v x0.snd.snd.snd.snd.snd) (ExprT.s x0.snd.snd.snd.snd.snd)
                                          (ExprT.l x0.snd.snd.snd.snd.snd))).snd.fst
                                (lFew2 x1)).snd.fst ==
                          0 &&
                        ((eEval
                                  (ExprT.mk (ExprT.op (eFew (ExprT.mk (ExprT.op x2) (ExprT.v x2) (ExprT.s x2) (ExprT.l x2))))
                                    (ExprT.v (eFew (ExprT.mk (ExprT.op x2) (ExprT.v x2) (ExprT.s x2) (ExprT.l x2))))
                                    (ExprT.s (eFew (ExprT.mk (ExprT.op x2) (ExprT.v x2) (ExprT.s x2) (ExprT.l x2))))
                                    (ExprT.l (eFew (ExprT.mk (ExprT.op x2) (ExprT.v x2) (ExprT.s x2) (ExprT.l x2)))))
                                  (tFew
                                        (x0.fst, x0.snd.fst, x0.snd.snd.fst, x0.snd.snd.snd.fst, x0.snd.snd.snd.snd.fst,
                                          ExprT.mk (ExprT.op x0.snd.snd.snd.snd.snd) (ExprT.v x0.snd.snd.snd.snd.snd) (ExprT.s x0.snd.snd.snd.snd.snd)
                                            (ExprT.l x0.snd.snd.snd.snd.snd))).snd.fst
                                  (lFew2 x1)).snd.snd ==
                            [] &&
                          true))) then
              true
            else false
          else false))
        []))) := by kernel_rfl
def law3 (x0 : Sem shTable) (x1 : Sem shVal.sl) (x2 : Sem Sh.expr) : Sem Sh.bool :=
  (if
    (bif ExprT.op (eFew x2) == [] then true
      else !tMay ((tFew x0).fst, (tFew x0).snd.fst, (tFew x0).snd.snd.fst, (tFew x0).snd.snd.snd.fst, (tFew x0).snd.snd.snd.snd.fst, eFew x2)) =
      true then
  true
else
  if
      (tFits ((tFew x0).fst, (tFew x0).snd.fst, (tFew x0).snd.snd.fst, (tFew x0).snd.snd.snd.fst, (tFew x0).snd.snd.snd.snd.fst, ExprT.mk [] (0, 0, []) [] [])
            (lFew2 x1) !=
          0) =
        true then
    bif
        tFits ((tFew x0).fst, (tFew x0).snd.fst, (tFew x0).snd.snd.fst, (tFew x0).snd.snd.snd.fst, (tFew x0).snd.snd.snd.snd.fst, eFew x2) (lFew2 x1) ==
          tFits
            ((tFew x0).fst, (tFew x0).snd.fst, (tFew x0).snd.snd.fst, (tFew x0).snd.snd.snd.fst, (tFew x0).snd.snd.snd.snd.fst, ExprT.mk [] (0, 0, []) [] [])
            (lFew2 x1) then
      true
    else false
  else
    bif
        (tFits ((tFew x0).fst, (tFew x0).snd.fst, (tFew x0).snd.snd.fst, (tFew x0).snd.snd.snd.fst, (tFew x0).snd.snd.snd.snd.fst, eFew x2) (lFew2 x1) == 9) ==
          ((eEval (eFew x2) (tFew x0).snd.fst (lFew2 x1)).fst == 3 &&
            ((eEval (eFew x2) (tFew x0).snd.fst (lFew2 x1)).snd.fst == 0 && ((eEval (eFew x2) (tFew x0).snd.fst (lFew2 x1)).snd.snd == [] && true))) then
      bif
          (tFits ((tFew x0).fst, (tFew x0).snd.fst, (tFew x0).snd.snd.fst, (tFew x0).snd.snd.snd.fst, (tFew x0).snd.snd.snd.snd.fst, eFew x2) (lFew2 x1) ==
              0) ==
            !((eEval (eFew x2) (tFew x0).snd.fst (lFew2 x1)).fst == 3 &&
                ((eEval (eFew x2) (tFew x0).snd.fst (lFew2 x1)).snd.fst == 0 && ((eEval (eFew x2) (tFew x0).snd.fst (lFew2 x1)).snd.snd == [] && true))) then
        true
      else false
    else false)
def F3 : FSem := plainT [shTable, shVal.sl, Sh.expr] [Sh.bool] fun x => (law3 x.1 x.2.1 x.2.2.1, ())
theorem FOk3 (hg : FOk env33.P env33.gl 9 F9) : FOk (en3).P (en3).gl 3 F3 := by
  refine FOk_plainT (ok3) fun x C hC => ?_
  refine reach_ok (en3_all hg) mixed0 (ok3) (fun id _ => hC id) (go3 x.1 x.2.1 x.2.2.1) ?_
  generalize hy : law3 x.1 x.2.1 x.2.2.1 = y
  unfold law3 at hy
  try simp only [ExprT.eta]
  repeat' (first | (refine OptOk_br (fun hsp => ?_) (fun hsp => ?_) <;> first | (rw [if_pos hsp] at hy) | (rw [if_neg (ne_t hsp)] at hy)) | refine OptOk_chkT ?_)
  all_goals (subst hy; first | rfl)

abbrev kp4 : Nat → Keep := fun j => { }
theorem ok4 : fnChk (en3).P 4 Tryz.f4 3 := by refine ⟨?_, ?_, ?_, ?_⟩ <;> kernel_rfl
theorem go4 (x0 : Sem shTable) (x1 : Sem shVal.sl) (x2 : Sem (Sh.int IntKind.u8)) : run (en3) 0 kp4 (Func.results Tryz.f4).toList 400 (bodyOf Tryz.f4) (initSt (Func.ntmps Tryz.f4) [datum shTable x0, datum shVal.sl x1, datum (Sh.int IntKind.u8) x2] []) =
  Tr.br
  (bif
      tFits
          ((tFew
                (x0.fst, x0.snd.fst, x0.snd.snd.fst, x0.snd.snd.snd.fst, x0.snd.snd.snd.snd.fst,
                  ExprT.mk (ExprT.op x0.snd.snd.snd.snd.snd) (ExprT.v x0.snd.snd.snd.snd.snd) (ExprT.s x0.snd.snd.snd.snd.snd)
                    (ExprT.l x0.snd.snd.snd.snd.snd))).fst,
            (tFew
                  (x0.fst, x0.snd.fst, x0.snd.snd.fst, x0.snd.snd.snd.fst, x0.snd.snd.snd.snd.fst,
                    ExprT.mk (ExprT.op x0.snd.snd.snd.snd.snd) (ExprT.v x0.snd.snd.snd.snd.snd) (ExprT.s x0.snd.snd.snd.snd.snd)
                      (ExprT.l x0.snd.snd.snd.snd.snd))).snd.fst,
            (tFew
                    (x0.fst, x0.snd.fst, x0.snd.snd.fst, x0.snd.snd.snd.fst, x0.snd.snd.snd.snd.fst,
                      ExprT.mk (ExprT.op x0.snd.snd.snd.snd.snd) (ExprT.v x0.snd.snd.snd.snd.snd) (ExprT.s x0.snd.snd.snd.snd.snd)
                        (ExprT.l x0.snd.snd.snd.snd.snd))).snd.snd.fst,
            (tFew
                      (x0.fst, x0.snd.fst, x0.snd.snd.fst, x0.snd.snd.snd.fst, x0.snd.snd.snd.snd.fst,
                        ExprT.mk (ExprT.op x0.snd.snd.snd.snd.snd) (ExprT.v x0.snd.snd.snd.snd.snd) (ExprT.s x0.snd.snd.snd.snd.snd)
                          (ExprT.l x0.snd.snd.snd.snd.snd))).snd.snd.snd.fst,
            (tFew
                        (x0.fst, x0.snd.fst, x0.snd.snd.fst, x0.snd.snd.snd.fst, x0.snd.snd.snd.snd.fst,
                          ExprT.mk (ExprT.op x0.snd.snd.snd.snd.snd) (ExprT.v x0.snd.snd.snd.snd.snd) (ExprT.s x0.snd.snd.snd.snd.snd)
                            (ExprT.l x0.snd.snd.snd.snd.snd))).snd.snd.snd.snd.fst,
            ExprT.mk
              (ExprT.op
                (tFew
                            (x0.fst, x0.snd.fst, x0.snd.snd.fst, x0.snd.snd.snd.fst, x0.snd.snd.snd.snd.fst,
                              ExprT.mk (ExprT.op x0.snd.snd.snd.snd.snd) (ExprT.v x0.snd.snd.snd.snd.snd) (ExprT.s x0.snd.snd.snd.snd.snd)
                                (ExprT.l x0.snd.snd.snd.snd.snd))).snd.snd.snd.snd.snd)
              (ExprT.v
                (tFew
                            (x0.fst, x0.snd.fst, x0.snd.snd.fst, x0.snd.snd.snd.fst, x0.snd.snd.snd.snd.fst,
                              ExprT.mk (ExprT.op x0.snd.snd.snd.snd.snd) (ExprT.v x0.snd.snd.snd.snd.snd) (ExprT.s x0.snd.snd.snd.snd.snd)
                                (ExprT.l x0.snd.snd.snd.snd.snd))).snd.snd.snd.snd.snd)
              (ExprT.s
                (tFew
                            (x0.fst, x0.snd.fst, x0.snd.snd.fst, x0.snd.snd.snd.fst, x0.snd.snd.snd.snd.fst,
                              ExprT.mk (ExprT.op x0.snd.snd.snd.snd.snd) (ExprT.v x0.snd.snd.snd.snd.snd) (ExprT.s x0.snd.snd.snd.snd.snd)
                                (ExprT.l x0.snd.snd.snd.snd.snd))).snd.snd.snd.snd.snd)
              (ExprT.l
                (tFew
                            (x0.fst, x0.snd.fst, x0.snd.snd.fst, x0.snd.snd.snd.fst, x0.snd.snd.snd.snd.fst,
                              ExprT.mk (ExprT.op x0.snd.snd.snd.snd.snd) (ExprT.v x0.snd.snd.snd.snd.snd) (ExprT.s x0.snd.snd.snd.snd.snd)
                                (ExprT.l x0.snd.snd.snd.snd.snd))).snd.snd.snd.snd.snd))
          (lFew2 x1) !=
        0 then
    true
  else
    bif (↑(List.length (lFew2 x1)) : Int) == 0 then true
    else
      (↑(List.length (lFew2 x1)) : Int) !=
        (↑(List.length
              (tFew
                    (x0.fst, x0.snd.fst, x0.snd.snd.fst, x0.snd.snd.snd.fst, x0.snd.snd.snd.snd.fst,
                      ExprT.mk (ExprT.op x0.snd.snd.snd.snd.snd) (ExprT.v x0.snd.snd.snd.snd.snd) (ExprT.s x0.snd.snd.snd.snd.snd)
                        (ExprT.l x0.snd.snd.snd.snd.snd))).snd.fst) :
          Int))
  (Tr.ok (Leaf.ret (AV.bool true) []))
  (Tr.chk ((↑(List.length (lFew2 x1)) : Int) != 0)
    (Tr.chk (decide (List.length (lFew2 x1) ≤ 1073741824))
      (Tr.chk (inB (IntKind.i64.wrap ((IntKind.i64.wrap x2).tmod (↑(List.length (lFew2 x1)) : Int))) (List.length (lFew2 x1)))
        (Tr.chk (decide ((IntKind.i64.wrap ((IntKind.i64.wrap x2).tmod (↑(List.length (lFew2 x1)) : Int))).toNat < List.length (lFew2 x1)))
          (Tr.chk
            (inB (IntKind.i64.wrap ((IntKind.i64.wrap x2).tmod (↑(List.length (lFew2 x1)) : Int)))
              (List.length
                (tFew
                      (x0.fst, x0.snd.fst, x0.snd.snd.fst, x0.snd.snd.snd.fst, x0.snd.snd.snd.snd.fst,
                        ExprT.mk (ExprT.op x0.snd.snd.snd.snd.snd) (ExprT.v x0.snd.snd.snd.snd.snd) (ExprT.s x0.snd.snd.snd.snd.snd)
                          (ExprT.l x0.snd.snd.snd.snd.snd))).snd.fst))
            (Tr.br
              (List.getD
                    (tFew
                          (x0.fst, x0.snd.fst, x0.snd.snd.fst, x0.snd.snd.snd.fst, x0.snd.snd.snd.snd.fst,
                            ExprT.mk (ExprT.op x0.snd.snd.snd.snd.snd) (ExprT.v x0.snd.snd.snd.snd.snd) (ExprT.s x0.snd.snd.snd.snd.snd)
                              (ExprT.l x0.snd.snd.snd.snd.snd))).snd.fst
                    (IntKind.i64.wrap ((IntKind.i64.wrap x2).tmod (↑(List.length (lFew2 x1)) : Int))).toNat (dflt shCol)).snd.snd
              (Tr.ok
                (Leaf.ret
                  (AV.bool
                    (bif
                        tFits
                            ((tFew
                                  (x0.fst, x0.snd.fst, x0.snd.snd.fst, x0.snd.snd.snd.fst, x0.snd.snd.snd.snd.fst,
                                    ExprT.mk (ExprT.op x0.snd.snd.snd.snd.snd) (ExprT.v x0.snd.snd.snd.snd.snd) (ExprT.s x0.snd.snd.snd.snd.snd)
                                      (ExprT.l x0.snd.snd.snd.snd.snd))).fst,
                              (tFew
                                    (x0.fst, x0.snd.fst, x0.snd.snd.fst, x0.snd.snd.snd.fst, x0.snd.snd.snd.snd.fst,
                                      ExprT.mk (ExprT.op x0.snd.snd.snd.snd.snd) (ExprT.v x0.snd.snd.snd.snd.snd) (ExprT.s x0.snd.snd.snd.snd.snd)
                                        (ExprT.l x0.snd.snd.snd.snd.snd))).snd.fst,
                              (tFew
                                      (x0.fst, x0.snd.fst, x0.snd.snd.fst, x0.snd.snd.snd.fst, x0.snd.snd.snd.snd.fst,
                                        ExprT.mk (ExprT.op x0.snd.snd.snd.snd.snd) (ExprT.v x0.snd.snd.snd.snd.snd) (ExprT.s x0.snd.snd.snd.snd.snd)
                                          (ExprT.l x0.snd.snd.snd.snd.snd))).snd.snd.fst,
                              (tFew
                                        (x0.fst, x0.snd.fst, x0.snd.snd.fst, x0.snd.snd.snd.fst, x0.snd.snd.snd.snd.fst,
                                          ExprT.mk (ExprT.op x0.snd.snd.snd.snd.snd) (ExprT.v x0.snd.snd.snd.snd.snd) (ExprT.s x0.snd.snd.snd.snd.snd)
                                            (ExprT.l x0.snd.snd.snd.snd.snd))).snd.snd.snd.fst,
                              (tFew
                                          (x0.fst, x0.snd.fst, x0.snd.snd.fst, x0.snd.snd.snd.fst, x0.snd.snd.snd.snd.fst,
                                            ExprT.mk (ExprT.op x0.snd.snd.snd.snd.snd) (ExprT.v x0.snd.snd.snd.snd.snd) (ExprT.s x0.snd.snd.snd.snd.snd)
                                              (ExprT.l x0.snd.snd.snd.snd.snd))).snd.snd.snd.snd.fst,
                              ExprT.mk
                                (ExprT.op
                                  (tFew
                                              (x0.fst, x0.snd.fst, x0.snd.snd.fst, x0.snd.snd.snd.fst, x0.snd.snd.snd.snd.fst,
                                                ExprT.mk (ExprT.op x0.snd.snd.snd.snd.snd) (ExprT.v x0.snd.snd.snd.snd.snd) (ExprT.s x0.snd.snd.snd.snd.snd)
                                                  (ExprT.l x0.snd.snd.snd.snd.snd))).snd.snd.snd.snd.snd)
                                (ExprT.v
                                  (tFew
                                              (x0.fst, x0.snd.fst, x0.snd.snd.fst, x0.snd.snd.snd.fst, x0.snd.snd.snd.snd.fst,
                                                ExprT.mk (ExprT.op x0.snd.snd.snd.snd.snd) (ExprT.v x0.snd.snd.snd.snd.snd) (ExprT.s x0.snd.snd.snd.snd.snd)
                                                  (ExprT.l x0.snd.snd.snd.snd.snd))).snd.snd.snd.snd.snd)
                                (ExprT.s
                                  (tFew
                                              (x0.fst, x0.snd.fst, x0.snd.snd.fst, x0.snd.snd.snd.fst, x0.snd.snd.snd.snd.fst,
                                                ExprT.mk (ExprT.op x0.snd.snd.snd.snd.snd) (ExprT.v x0.snd.snd.snd.snd.snd) (ExprT.s x0.snd.snd.snd.snd.snd)
                                                  (ExprT.l x0.snd.snd.snd.snd.snd))).snd.snd.snd.snd.snd)
                                (ExprT.l
                                  (tFew
                                              (x0.fst, x0.snd.fst, x0.snd.snd.fst, x0.snd.snd.snd.fst, x0.snd.snd.snd.snd.fst,
                                                ExprT.mk (ExprT.op x0.snd.snd.snd.snd.snd) (ExprT.v x0.snd.snd.snd.snd.snd) (ExprT.s x0.snd.snd.snd.snd.snd)
                                                  (ExprT.l x0.snd.snd.snd.snd.snd))).snd.snd.snd.snd.snd))
                            (List.set (lFew2 x1) (IntKind.i64.wrap ((IntKind.i64.wrap x2).tmod (↑(List.length (lFew2 x1)) : Int))).toNat (0, 0, [])) ==
                          8 then
                      true
                    else false))
                  []))
              (Tr.ok
                (Leaf.ret
                  (AV.bool
                    (bif
                        tFits
                            ((tFew
                                  (x0.fst, x0.snd.fst, x0.snd.snd.fst, x0.snd.snd.snd.fst, x0.snd.snd.snd.snd.fst,
                                    ExprT.mk (ExprT.op x0.snd.snd.snd.snd.snd) (ExprT.v x0.snd.snd.snd.snd.snd) (ExprT.s x0.snd.snd.snd.snd.snd)
                                      (ExprT.l x0.snd.snd.snd.snd.snd))).fst,
                              (tFew
                                    (x0.fst, x0.snd.fst, x0.snd.snd.fst, x0.snd.snd.snd.fst, x0.snd.snd.snd.snd.fst,
                                      ExprT.mk (ExprT.op x0.snd.snd.snd.snd.snd) (ExprT.v x0.snd.snd.snd.snd.snd) (ExprT.s x0.snd.snd.snd.snd.snd)
                                        (ExprT.l x0.snd.snd.snd.snd.snd))).snd.fst,
                              (tFew
                                      (x0.fst, x0.snd.fst, x0.snd.snd.fst, x0.snd.snd.snd.fst, x0.snd.snd.snd.snd.fst,
                                        ExprT.mk (ExprT.op x0.snd.snd.snd.snd.snd) (ExprT.v x0.snd.snd.snd.snd.snd) (ExprT.s x0.snd.snd.snd.snd.snd)
                                          (ExprT.l x0.snd.snd.snd.snd.snd))).snd.snd.fst,
                              (tFew
                                        (x0.fst, x0.snd.fst, x0.snd.snd.fst, x0.snd.snd.snd.fst, x0.snd.snd.snd.snd.fst,
                                          ExprT.mk (ExprT.op x0.snd.snd.snd.snd.snd) (ExprT.v x0.snd.snd.snd.snd.snd) (ExprT.s x0.snd.snd.snd.snd.snd)
                                            (ExprT.l x0.snd.snd.snd.snd.snd))).snd.snd.snd.fst,
                              (tFew
                                          (x0.fst, x0.snd.fst, x0.snd.snd.fst, x0.snd.snd.snd.fst, x0.snd.snd.snd.snd.fst,
                                            ExprT.mk (ExprT.op x0.snd.snd.snd.snd.snd) (ExprT.v x0.snd.snd.snd.snd.snd) (ExprT.s x0.snd.snd.snd.snd.snd)
                                              (ExprT.l x0.snd.snd.snd.snd.snd))).snd.snd.snd.snd.fst,
                              ExprT.mk
                                (ExprT.op
                                  (tFew
                                              (x0.fst, x0.snd.fst, x0.snd.snd.fst, x0.snd.snd.snd.fst, x0.snd.snd.snd.snd.fst,
                                                ExprT.mk (ExprT.op x0.snd.snd.snd.snd.snd) (ExprT.v x0.snd.snd.snd.snd.snd) (ExprT.s x0.snd.snd.snd.snd.snd)
                                                  (ExprT.l x0.snd.snd.snd.snd.snd))).snd.snd.snd.snd.snd)
                                (ExprT.v
                                  (tFew
                                              (x0.fst, x0.snd.fst, x0.snd.snd.fst, x0.snd.snd.snd.fst, x0.snd.snd.snd.snd.fst,
                                                ExprT.mk (ExprT.op x0.snd.snd.snd.snd.snd) (ExprT.v x0.snd.snd.snd.snd.snd) (ExprT.s x0.snd.snd.snd.snd.snd)
                                                  (ExprT.l x0.snd.snd.snd.snd.snd))).snd.snd.snd.snd.snd)
                                (ExprT.s
                                  (tFew
                                              (x0.fst, x0.snd.fst, x0.snd.snd.fst, x0.snd.snd.snd.fst, x0.snd.snd.snd.snd.fst,
                                                ExprT.mk (ExprT.op x0.snd.snd.snd.snd.snd) (ExprT.v x0.snd.snd.snd.snd.snd) (ExprT.s x0.snd.snd.snd.snd.snd)
                                                  (ExprT.l x0.snd.snd.snd.snd.snd))).snd.snd.snd.snd.snd)
                                (ExprT.l
                                  (tFew
                                              (x0.fst, x0.snd.fst, x0.snd.snd.fst, x0.snd.snd.snd.fst, x0.snd.snd.snd.snd.fst,
                                                ExprT.mk (ExprT.op x0.snd.snd.snd.snd.snd) (ExprT.v x0.snd.snd.snd.snd.snd) (ExprT.s x0.snd.snd.snd.snd.snd)
                                                  (ExprT.l x0.snd.snd.snd.snd.snd))).snd.snd.snd.snd.snd))
                            (List.set (lFew2 x1) (IntKind.i64.wrap ((IntKind.i64.wrap x2).tmod (↑(List.length (lFew2 x1)) : Int))).toNat (0, 0, [])) ==
                          0 then
                      true
                    else
                      bif
                          tFits
                              ((tFew
                                    (x0.fst, x0.snd.fst, x0.snd.snd.fst, x0.snd.snd.snd.fst, x0.snd.snd.snd.snd.fst,
                                      ExprT.mk (ExprT.op x0.snd.snd.snd.snd.snd) (ExprT.v x0.snd.snd.snd.snd.snd) (ExprT.s x0.snd.snd.snd.snd.snd)
                                        (ExprT.l x0.snd.snd.snd.snd.snd))).fst,
                                (tFew
                                      (x0.fst, x0.snd.fst, x0.snd.snd.fst, x0.snd.snd.snd.fst, x0.snd.snd.snd.snd.fst,
                                        ExprT.mk (ExprT.op x0.snd.snd.snd.snd.snd) (ExprT.v x0.snd.snd.snd.snd.snd) (ExprT.s x0.snd.snd.snd.snd.snd)
                                          (ExprT.l x0.snd.snd.snd.snd.snd))).snd.fst,
                                (tFew
                                        (x0.fst, x0.snd.fst, x0.snd.snd.fst, x0.snd.snd.snd.fst, x0.snd.snd.snd.snd.fst,
                                          ExprT.mk (ExprT.op x0.snd.snd.snd.snd.snd) (ExprT.v x0.snd.snd.snd.snd.snd) (ExprT.s x0.snd.snd.snd.snd.snd)
                                            (ExprT.l x0.snd.snd.snd.snd.snd))).snd.snd.fst,
                                (tFew
                                          (x0.fst, x0.snd.fst, x0.snd.snd.fst, x0.snd.snd.snd.fst, x0.snd.snd.snd.snd.fst,
                                            ExprT.mk (ExprT.op x0.snd.snd.snd.snd.snd) (ExprT.v x0.snd.snd.snd.snd.snd) (ExprT.s x0.snd.snd.snd.snd.snd)
                                              (ExprT.l x0.snd.snd.snd.snd.snd))).snd.snd.snd.fst,
                                (tFew
                                            (x0.fst, x0.snd.fst, x0.snd.snd.fst, x0.snd.snd.snd.fst, x0.snd.snd.snd.snd.fst,
                                              ExprT.mk (ExprT.op x0.snd.snd.snd.snd.snd) (ExprT.v x0.snd.snd.snd.snd.snd) (ExprT.s x0.snd.snd.snd.snd.snd)
                                                (ExprT.l x0.snd.snd.snd.snd.snd))).snd.snd.snd.snd.fst,
                                ExprT.mk
                                  (ExprT.op
                                    (tFew
                                                (x0.fst, x0.snd.fst, x0.snd.snd.fst, x0.snd.snd.snd.fst, x0.snd.snd.snd.snd.fst,
                                                  ExprT.mk (ExprT.op x0.snd.snd.snd.snd.snd) (ExprT.v x0.snd.snd.snd.snd.snd) (ExprT.s x0.snd.snd.snd.snd.snd)
                                                    (ExprT.l x0.snd.snd.snd.snd.snd))).snd.snd.snd.snd.snd)
                                  (ExprT.v
                                    (tFew
                                                (x0.fst, x0.snd.fst, x0.snd.snd.fst, x0.snd.snd.snd.fst, x0.snd.snd.snd.snd.fst,
                                                  ExprT.mk (ExprT.op x0.snd.snd.snd.snd.snd) (ExprT.v x0.snd.snd.snd.snd.snd) (ExprT.s x0.snd.snd.snd.snd.snd)
                                                    (ExprT.l x0.snd.snd.snd.snd.snd))).snd.snd.snd.snd.snd)
                                  (ExprT.s
                                    (tFew
                                                (x0.fst, x0.snd.fst, x0.snd.snd.fst, x0.snd.snd.snd.fst, x0.snd.snd.snd.snd.fst,
                                                  ExprT.mk (ExprT.op x0.snd.snd.snd.snd.snd) (ExprT.v x0.snd.snd.snd.snd.snd) (ExprT.s x0.snd.snd.snd.snd.snd)
                                                    (ExprT.l x0.snd.snd.snd.snd.snd))).snd.snd.snd.snd.snd)
                                  (ExprT.l
                                    (tFew
                                                (x0.fst, x0.snd.fst, x0.snd.snd.fst, x0.snd.snd.snd.fst, x0.snd.snd.snd.snd.fst,
                                                  ExprT.mk (ExprT.op x0.snd.snd.snd.snd.snd) (ExprT.v x0.snd.snd.snd.snd.snd) (ExprT.s x0.snd.snd.snd.snd.snd)
                                                    (ExprT.l x0.snd.snd.snd.snd.snd))).snd.snd.snd.snd.snd))
                              (List.set (lFew2 x1) (IntKind.i64.wrap ((IntKind.i64.wrap x2).tmod (↑(List.length (lFew2 x1)) : Int))).toNat (0, 0, [])) ==
                            9 then
                        true
                      else false))
                  [])))))))) := by kernel_rfl
def law4 (x0 : Sem shTable) (x1 : Sem shVal.sl) (x2 : Sem (Sh.int IntKind.u8)) : Sem Sh.bool :=
  (if
    (bif tFits (tFew x0) (lFew2 x1) != 0 then true
      else bif (↑(List.length (lFew2 x1)) : Int) == 0 then true else (↑(List.length (lFew2 x1)) : Int) != (↑(List.length (tFew x0).snd.fst) : Int)) =
      true then
  true
else
  if (List.getD (tFew x0).snd.fst (IntKind.i64.wrap ((IntKind.i64.wrap x2).tmod (↑(List.length (lFew2 x1)) : Int))).toNat (dflt shCol)).snd.snd = true then
    bif tFits (tFew x0) (List.set (lFew2 x1) (IntKind.i64.wrap ((IntKind.i64.wrap x2).tmod (↑(List.length (lFew2 x1)) : Int))).toNat (0, 0, [])) == 8 then true
    else false
  else
    bif tFits (tFew x0) (List.set (lFew2 x1) (IntKind.i64.wrap ((IntKind.i64.wrap x2).tmod (↑(List.length (lFew2 x1)) : Int))).toNat (0, 0, [])) == 0 then true
    else
      bif tFits (tFew x0) (List.set (lFew2 x1) (IntKind.i64.wrap ((IntKind.i64.wrap x2).tmod (↑(List.length (lFew2 x1)) : Int))).toNat (0, 0, [])) == 9 then
        true
      else false)
def law4C (x0 : Sem shTable) (x1 : Sem shVal.sl) (x2 : Sem (Sh.int IntKind.u8)) : Bool :=
  (if
    (bif tFits (tFew x0) (lFew2 x1) != 0 then true
      else bif (↑(List.length (lFew2 x1)) : Int) == 0 then true else (↑(List.length (lFew2 x1)) : Int) != (↑(List.length (tFew x0).snd.fst) : Int)) =
      true then
  true
else
  if ((↑(List.length (lFew2 x1)) : Int) != 0) = true then
    if decide (List.length (lFew2 x1) ≤ 1073741824) = true then
      if inB (IntKind.i64.wrap ((IntKind.i64.wrap x2).tmod (↑(List.length (lFew2 x1)) : Int))) (List.length (lFew2 x1)) = true then
        if decide ((IntKind.i64.wrap ((IntKind.i64.wrap x2).tmod (↑(List.length (lFew2 x1)) : Int))).toNat < List.length (lFew2 x1)) = true then
          if inB (IntKind.i64.wrap ((IntKind.i64.wrap x2).tmod (↑(List.length (lFew2 x1)) : Int))) (List.length (tFew x0).snd.fst) = true then true else false
        else false
      else false
    else false
  else false)
def F4 : FSem := plainC [shTable, shVal.sl, Sh.int IntKind.u8] [Sh.bool] (fun x => law4C x.1 x.2.1 x.2.2.1) fun x => (law4 x.1 x.2.1 x.2.2.1, ())
theorem FOk4 (hg : FOk env33.P env33.gl 9 F9) : FOk (en3).P (en3).gl 4 F4 := by
  refine FOk_plainC (ok4) fun x hc C hC => ?_
  unfold law4C at hc
  refine reach_ok (en3_all hg) mixed0 (ok4) (fun id _ => hC id) (go4 x.1 x.2.1 x.2.2.1) ?_
  generalize hy : law4 x.1 x.2.1 x.2.2.1 = y
  unfold law4 at hy
  try simp only [ExprT.eta]
  repeat' (first | (refine OptOk_br (fun hsp => ?_) (fun hsp => ?_) <;> first | (rw [if_pos hsp] at hy; try rw [if_pos hsp] at hc) | (rw [if_neg (ne_t hsp)] at hy; try rw [if_neg (ne_t hsp)] at hc)) | (have hgi := guard_ite hc; refine OptOk_chk hgi.1 ?_; replace hc := hgi.2; clear hgi) | refine OptOk_chkT ?_)
  all_goals (subst hy; first | rfl)
end Cad

namespace Cad
open Go Go.Proofs

/-- Is a value FALSE? -/
def isNo (v : V) : Bool := v.1 == 3 && (v.2.1 == 0 && (v.2.2 == [] && true))

/-- What is wrong with a row's values, from a place on. -/
def p10 (cols : List (Sem shCol)) : List (Sem shVal) → Int → Int
  | [], _ => 0
  | x :: r, i => if (bif x.1 == 0 then (cols.getD i.toNat (dflt shCol)).2.2 else false) = true then 8 else
    if (bif x.1 != 0 then x.1 != (cols.getD i.toNat (dflt shCol)).2.1 else false) = true then 5 else p10 cols r (i + 1)

def p4 (cols : List (Sem shCol)) (row : List (Sem shVal)) : List (Sem shVal) → Int
  | [] => p10 cols row 0
  | x :: r => if (!vMay x) = true then 1 else p4 cols row r

theorem fits10 {a0 a2 a3 a4} {e : ExprT} {cols : List (Sem shCol)} {row : List (Sem shVal)} : ∀ (l : List (Sem shVal)) (i : Int),
    tFits_10 a0 cols a2 a3 a4 e.op e.v.1 e.v.2.1 e.v.2.2 e.s e.l row l i = if p10 cols l i = 0 then (if isNo (eEval e cols row) = true then 9 else 0) else p10 cols l i
  | [], i => by
    have he : ExprT.mk e.op (e.v.1, e.v.2.1, e.v.2.2) e.s e.l = e := ExprT.eta e
    rw [tFits_10, he]
    rfl
  | x :: r, i => by
    rw [tFits_10, p10]
    split
    · simp
    · split
      · simp
      · exact fits10 r (i + 1)

theorem fits4 {a0 a2 a3 a4} {e : ExprT} {cols : List (Sem shCol)} {row : List (Sem shVal)} : ∀ (l : List (Sem shVal)) (i : Int),
    tFits_4 row a0 cols a2 a3 a4 e.op e.v.1 e.v.2.1 e.v.2.2 e.s e.l l i = if p4 cols row l = 0 then (if isNo (eEval e cols row) = true then 9 else 0) else p4 cols row l
  | [], i => by rw [tFits_4, p4]; exact fits10 row 0
  | x :: r, i => by
    rw [tFits_4, p4]
    split
    · simp
    · exact fits4 r (i + 1)

theorem fits_eq (t : Sem shTable) (row : List (Sem shVal)) : tFits t row = if (bif !tMay t then true else (↑(List.length row) : Int) != (↑(List.length t.2.1) : Int)) = true then 1 else
    if p4 t.2.1 row row = 0 then (if isNo (eEval t.2.2.2.2.2 t.2.1 row) = true then 9 else 0) else p4 t.2.1 row row := by
  unfold tFits
  split
  · rfl
  · exact fits4 row 0

theorem may17 {a0 a1 a2 a3 a4} {e : ExprT} : ∀ (l : List (Sem shFor)) (i : Int), tMay_17 a0 a1 a2 a3 a4 e.op e.v.1 e.v.2.1 e.v.2.2 e.s e.l l i = true → tMay_17 a0 a1 a2 a3 a4 [] 0 0 [] [] [] l i = true
  | [], i, h => by
    rw [tMay_17] at h ⊢
    split
    · rename_i h1
      rw [if_pos h1] at h
      split
      · rfl
      · rename_i h2
        rw [if_neg h2] at h; cases h
    · rename_i h1
      rw [if_neg h1] at h; cases h
  | x :: r, i, h => by
    rw [tMay_17] at h ⊢
    split
    · rename_i h1; rw [if_pos h1] at h; cases h
    · rename_i h1
      rw [if_neg h1] at h
      split
      · rename_i h2; rw [if_pos h2] at h; cases h
      · rename_i h2
        rw [if_neg h2] at h
        exact may17 r (i + 1) h

theorem may11 {a0 a1 a2 a3 a4} {e : ExprT} : ∀ (l : List (Sem shInt)) (i : Int), tMay_11 a0 a1 a2 a3 a4 e.op e.v.1 e.v.2.1 e.v.2.2 e.s e.l l i = true → tMay_11 a0 a1 a2 a3 a4 [] 0 0 [] [] [] l i = true
  | [], i, h => by rw [tMay_11] at h ⊢; exact may17 _ _ h
  | x :: r, i, h => by
    rw [tMay_11] at h ⊢
    split
    · rename_i h1; rw [if_pos h1] at h; cases h
    · rename_i h1
      rw [if_neg h1] at h
      exact may11 r (i + 1) h

theorem may4 {a0 a1 a2 a3 a4} {e : ExprT} : ∀ (l : List (Sem shCol)) (i : Int), tMay_4 a0 a1 a2 a3 a4 e.op e.v.1 e.v.2.1 e.v.2.2 e.s e.l l i = true → tMay_4 a0 a1 a2 a3 a4 [] 0 0 [] [] [] l i = true
  | [], i, h => by rw [tMay_4] at h ⊢; exact may11 _ _ h
  | x :: r, i, h => by
    rw [tMay_4] at h ⊢
    have hp : tPlace (a0, a1, a2, a3, a4, ExprT.mk e.op (e.v.1, e.v.2.1, e.v.2.2) e.s e.l) x.1 = tPlace (a0, a1, a2, a3, a4, ExprT.mk [] (0, 0, []) [] []) x.1 := rfl
    rw [hp] at h
    split
    · rename_i h1; rw [if_pos h1] at h; cases h
    · rename_i h1
      rw [if_neg h1] at h
      exact may4 r (i + 1) h

theorem may_nil (a0 : Str) (a1 : List (Sem shCol)) (a2 : Int) (a3 : List Int) (a4 : List (Sem shFor)) (e : ExprT) (h : tMay (a0, a1, a2, a3, a4, e) = true) : tMay (a0, a1, a2, a3, a4, nilE) = true := by
  unfold tMay at h ⊢
  split
  · rename_i h1
    rw [if_pos h1] at h; cases h
  · rename_i h1
    rw [if_neg h1] at h
    exact may4 _ _ h

theorem eval_nil (cols : List (Sem shCol)) (row : List (Sem shVal)) : eEval nilE cols row = (0, 0, []) := by
  unfold eEval
  rw [if_pos (show (!eMay nilE) = true by decide)]

theorem law3_true (t : Sem shTable) (row : List (Sem shVal)) (e : ExprT) : law3 t row e = true := by
  unfold law3
  split
  · rfl
  · rename_i h
    have hm : tMay ((tFew t).1, (tFew t).2.1, (tFew t).2.2.1, (tFew t).2.2.2.1, (tFew t).2.2.2.2.1, eFew e) = true := by
      cases h1 : tMay ((tFew t).1, (tFew t).2.1, (tFew t).2.2.1, (tFew t).2.2.2.1, (tFew t).2.2.2.2.1, eFew e)
      · exfalso
        apply h
        rw [h1]
        cases ExprT.op (eFew e) == [] <;> rfl
      · rfl
    have hm0 := may_nil _ _ _ _ _ _ hm
    have f1 := fits_eq ((tFew t).1, (tFew t).2.1, (tFew t).2.2.1, (tFew t).2.2.2.1, (tFew t).2.2.2.2.1, eFew e) (lFew2 row)
    have f0 := fits_eq ((tFew t).1, (tFew t).2.1, (tFew t).2.2.1, (tFew t).2.2.2.1, (tFew t).2.2.2.2.1, nilE) (lFew2 row)
    rw [hm] at f1
    rw [hm0] at f0
    simp only [Bool.not_true, cond_false] at f1 f0
    rw [eval_nil] at f0
    have hno : isNo (0, 0, []) = false := by decide
    rw [hno] at f0
    simp only [Bool.false_eq_true, if_false] at f0
    have hv : ((eEval (eFew e) (tFew t).2.1 (lFew2 row)).1 == 3 && ((eEval (eFew e) (tFew t).2.1 (lFew2 row)).2.1 == 0 && ((eEval (eFew e) (tFew t).2.1 (lFew2 row)).2.2 == [] && true))) = isNo (eEval (eFew e) (tFew t).2.1 (lFew2 row)) := rfl
    rw [hv]
    generalize isNo (eEval (eFew e) (tFew t).2.1 (lFew2 row)) = no at f1 ⊢
    generalize tFits ((tFew t).1, (tFew t).2.1, (tFew t).2.2.1, (tFew t).2.2.2.1, (tFew t).2.2.2.2.1, eFew e) (lFew2 row) = b at f1 ⊢
    generalize tFits ((tFew t).1, (tFew t).2.1, (tFew t).2.2.1, (tFew t).2.2.2.1, (tFew t).2.2.2.2.1, nilE) (lFew2 row) = a at f0 ⊢
    generalize p4 (tFew t).2.1 (lFew2 row) (lFew2 row) = p at f0 f1
    generalize ((↑(List.length (lFew2 row)) : Int) != (↑(List.length (tFew t).2.1) : Int)) = q at f0 f1
    subst f0
    subst f1
    cases q
    · by_cases hp : p = 0
      · subst hp
        cases no <;> decide
      · simp [hp]
    · rfl

theorem p10_set {cols : List (Sem shCol)} : ∀ (l : List (Sem shVal)) (i k : Nat), k < l.length → p10 cols l i = 0 → p10 cols (l.set k (0, 0, [])) i = if (cols.getD (i + k) (dflt shCol)).2.2 = true then 8 else 0
  | [], _, _, h, _ => by simp at h
  | x :: r, i, 0, _, h => by
    rw [p10] at h
    have hr : p10 cols r ((i : Int) + 1) = 0 := by
      split at h
      · cases h
      · split at h
        · cases h
        · exact h
    show p10 cols ((0, 0, []) :: r) i = _
    rw [p10]
    simp only [Nat.add_zero, Int.toNat_natCast]
    show (if (bif (0 : Int) == 0 then (cols.getD i (dflt shCol)).2.2 else false) = true then 8 else if (bif (0 : Int) != 0 then (0 : Int) != (cols.getD i (dflt shCol)).2.1 else false) = true then 5 else p10 cols r (↑i + 1)) = _
    have e1 : ((0 : Int) == 0) = true := by decide
    have e2 : ((0 : Int) != 0) = false := by decide
    rw [e1, e2, hr]
    cases (cols.getD i (dflt shCol)).2.2 <;> rfl
  | x :: r, i, k + 1, hk, h => by
    rw [p10] at h
    show p10 cols (x :: r.set k (0, 0, [])) i = _
    rw [p10]
    split at h
    · cases h
    · rename_i h1
      rw [if_neg h1]
      split at h
      · cases h
      · rename_i h2
        rw [if_neg h2]
        have := p10_set r (i + 1) k (by simpa using hk) h
        rw [show i + (k + 1) = i + 1 + k by omega]
        exact this

theorem p4_zero {cols : List (Sem shCol)} {row : List (Sem shVal)} : ∀ (l : List (Sem shVal)), p4 cols row l = 0 → p10 cols row 0 = 0 ∧ ∀ x ∈ l, vMay x = true
  | [], h => ⟨h, by simp⟩
  | x :: r, h => by
    rw [p4] at h
    split at h
    · cases h
    · rename_i hx
      obtain ⟨h1, h2⟩ := p4_zero r h
      refine ⟨h1, fun y hy => ?_⟩
      rcases List.mem_cons.1 hy with rfl | hy
      · simpa using hx
      · exact h2 y hy

theorem p4_of {cols : List (Sem shCol)} {row : List (Sem shVal)} : ∀ (l : List (Sem shVal)), (∀ x ∈ l, vMay x = true) → p4 cols row l = p10 cols row 0
  | [], _ => rfl
  | x :: r, h => by
    rw [p4, if_neg (by rw [h x (by simp)]; decide)]
    exact p4_of r fun y hy => h y (by simp [hy])

theorem at_in {n : Int} {m : Nat} (h0 : 0 ≤ n) (h1 : n ≤ 255) (hm : m ≠ 0) (hm2 : m ≤ maxStr) : ∃ k : Nat, k < m ∧ IntKind.i64.wrap ((IntKind.i64.wrap n).tmod (m : Int)) = (k : Int) := by
  have hms : maxStr = 9223372036854775807 := rfl
  rw [wrap_small n (by omega) (by omega)]
  have h2 : n.tmod (m : Int) = n % (m : Int) := Int.tmod_eq_emod_of_nonneg h0
  rw [h2]
  have h3 : 0 ≤ n % (m : Int) := Int.emod_nonneg _ (by omega)
  have h4 : n % (m : Int) < m := Int.emod_lt_of_pos _ (by omega)
  refine ⟨(n % (m : Int)).toNat, by omega, ?_⟩
  rw [IntKind.wrap_i64]
  omega

theorem law4C_true (t : Sem shTable) (row : List (Sem shVal)) (n : Int) (h0 : 0 ≤ n) (h1 : n ≤ 255) (hb : (lFew2 row).length ≤ 1000) : law4C t row n = true := by
  unfold law4C
  split
  · rfl
  · rename_i h
    have hms : maxStr = 9223372036854775807 := rfl
    have hh : (lFew2 row).length ≠ 0 ∧ (lFew2 row).length = (tFew t).2.1.length := by
      constructor
      · intro hz
        apply h
        rw [hz]
        cases tFits (tFew t) (lFew2 row) != 0 <;> rfl
      · by_cases hz : (lFew2 row).length = (tFew t).2.1.length
        · exact hz
        · exfalso
          apply h
          have : ((↑(List.length (lFew2 row)) : Int) != (↑(List.length (tFew t).2.1) : Int)) = true := by simp; omega
          rw [this]
          cases tFits (tFew t) (lFew2 row) != 0 <;> cases ((↑(List.length (lFew2 row)) : Int) == 0) <;> rfl
    obtain ⟨k, hk, hw⟩ := at_in h0 h1 hh.1 (by omega)
    have g1 : ((↑(List.length (lFew2 row)) : Int) != 0) = true := by rw [bne_iff_ne]; have := hh.1; omega
    have g2 : decide (List.length (lFew2 row) ≤ 1073741824) = true := by simp; omega
    have g3 : decide ((k : Int).toNat < List.length (lFew2 row)) = true := by simpa using hk
    have g4 : inB (k : Int) (List.length (tFew t).2.1) = true := inB_of (by omega)
    rw [hw, if_pos g1, if_pos g2, if_pos (inB_of hk), if_pos g3, if_pos g4]

theorem law4_true (t : Sem shTable) (row : List (Sem shVal)) (n : Int) (h0 : 0 ≤ n) (h1 : n ≤ 255) (hb : (lFew2 row).length ≤ 1000) : law4 t row n = true := by
  unfold law4
  split
  · rfl
  · rename_i h
    have hms : maxStr = 9223372036854775807 := rfl
    have hf : tFits (tFew t) (lFew2 row) = 0 := by
      by_cases hz : tFits (tFew t) (lFew2 row) = 0
      · exact hz
      · exfalso
        apply h
        have : (tFits (tFew t) (lFew2 row) != 0) = true := by simpa using hz
        rw [this]; rfl
    have hz : (lFew2 row).length ≠ 0 := by
      intro hz
      apply h
      rw [hf, hz]; rfl
    have hl : (lFew2 row).length = (tFew t).2.1.length := by
      by_cases hq : (lFew2 row).length = (tFew t).2.1.length
      · exact hq
      · exfalso
        apply h
        have : ((↑(List.length (lFew2 row)) : Int) != (↑(List.length (tFew t).2.1) : Int)) = true := by simp; omega
        rw [this]
        cases tFits (tFew t) (lFew2 row) != 0 <;> cases ((↑(List.length (lFew2 row)) : Int) == 0) <;> rfl
    obtain ⟨k, hk, hw⟩ := at_in h0 h1 hz (by omega)
    rw [hw]
    simp only [Int.toNat_natCast]
    rw [fits_eq] at hf
    split at hf
    · cases hf
    · rename_i hq
      have hp : p4 (tFew t).2.1 (lFew2 row) (lFew2 row) = 0 := by
        by_cases hp : p4 (tFew t).2.1 (lFew2 row) (lFew2 row) = 0
        · exact hp
        · rw [if_neg hp] at hf; exact (hp hf).elim
      obtain ⟨hp10, hvm⟩ := p4_zero _ hp
      have hset := p10_set (lFew2 row) 0 k hk hp10
      have hvm' : ∀ x ∈ (lFew2 row).set k (0, 0, []), vMay x = true := by
        intro x hx
        rcases List.mem_or_eq_of_mem_set hx with hx | rfl
        · exact hvm x hx
        · decide
      have f := fits_eq (tFew t) ((lFew2 row).set k (0, 0, []))
      have hset' : p10 (tFew t).2.1 ((lFew2 row).set k (0, 0, [])) 0 = if ((tFew t).2.1.getD k (dflt shCol)).2.2 = true then 8 else 0 := by
        rw [Nat.zero_add] at hset
        exact hset
      rw [List.length_set, if_neg hq, p4_of _ hvm', hset'] at f
      cases hn : ((tFew t).2.1.getD k (dflt shCol)).2.2 with
      | true =>
        rw [hn] at f
        rw [f]
        rfl
      | false =>
        rw [hn] at f
        rw [f]
        cases isNo (eEval (tFew t).2.2.2.2.2 (tFew t).2.1 ((lFew2 row).set k (0, 0, []))) <;> rfl
end Cad

namespace Cad
open Go Go.Proofs

theorem same45 : SameE env45 env33 := by
  refine ⟨?_, ?_⟩
  · show env45.P = env33.P
    rfl
  · show env45.gl = env33.gl
    rfl
theorem FOk9 : FOk env33.P env33.gl 9 F9 := by
  have h : FOk env45.P env45.gl 9 F9 := FOk_tot FOk9a (fun _ => rfl)
  rw [same45.p, same45.g] at h
  exact h
end Cad

