/- The document's reader: MIGRATE. The document's parser. Statements of texts. The chapter's examples. The chapter's examples hold. Sources, beside the examples. The law PlanColumns. From what is handed in to plain data. From a contract over plain data to a law's statement. What the package variables hold when a law begins. Laws on a base and a statement: the contract. The law PlanColumns holds. The law PlanColumns holds: the whole. -/
import Derived.Test.YthpdpmhdaadgcaaGreatDoorG16
import Derived.Test.YthpdpmhdaadgcaaGreatDoorG09
import Derived.Carry
import Derived.ChangeSame
import Derived.RowKit3
import Derived.WideKeyArgs
import Derived.Test.YthpdpmhdaadgcaaGreatDoorG06
import Derived.Test.YthpdpmhdaadgcaaGreatDoorRows
import Derived.OpenShut
import Derived.ProofKit
import Derived.Test.YthpdpmhdaadgcaaGreatDoorG11
import Derived.Test.YthpdpmhdaadgcaaGreatDoorG12
namespace Cad
open Go Go.Proofs
noncomputable section
set_option maxHeartbeats 4000000
abbrev cpSm : List CP := [.d .str, .d .str, .d .str, .vec .str, .nil, .d .str, .nil, .nil, .d .expr, .nil, .nil, .d .str, .d shInt, .d shInt, .d .str, .d .str, .nil, .d .str]

abbrev kp114p : Nat → Keep := fun j => if j = 14 then { slots := [0, 1, 4] } else if j = 1000000 then { prom := [(1, some 3, .str)] } else { }
inductive H114p where
 | h14 (ja0 : LF) (ja1 : Sem shInt) (bh_0_2 : Sem Sh.bool) (jb0 : List UInt8) (jb1 : TS) (jb2 : TS) (jb5 : TS) (jb8 : TS) (jb9 : Sem shInt) (jb10 : Sem shInt) (jb11 : TS) (jb12 : TS) (jb16 : TS) (jb17 : Sem shInt) (jb18 : Sem shInt) (jb19 : TS) (jb20 : TS) (jb22 : TS)
 | h14b (b4 : Sem Sh.bool) (ja0 : LF) (ja1 : Sem shInt) (bh_0_2 : Sem Sh.bool) (jb0 : List UInt8) (jb1 : TS) (jb2 : TS) (jb5 : TS) (jb8 : TS) (jb9 : Sem shInt) (jb10 : Sem shInt) (jb11 : TS) (jb12 : TS) (jb16 : TS) (jb17 : Sem shInt) (jb18 : Sem shInt) (jb19 : TS) (jb20 : TS) (jb22 : TS) (lh_2 : LS)
abbrev e114p : H114p → Nat × St
 | .h14 ja0 ja1 bh_0_2 jb0 jb1 jb2 jb5 jb8 jb9 jb10 jb11 jb12 jb16 jb17 jb18 jb19 jb20 jb22 => (14, ⟨tm 117 [(0, AV.ptr 0 0), (1, AV.ptr 1 0), (4, AV.kb true)], [AO.box [AV.sl shFor ja0, AV.int .i64 ja1, AV.bool bh_0_2], AO.box [AV.str jb0, AV.str jb1, AV.str jb2, AV.nils, AV.nils, AV.str jb5, AV.nils, AV.nils, AV.str jb8, AV.int .i64 jb9, AV.int .i64 jb10, AV.str jb11, AV.str jb12, AV.nils, AV.nils, AV.nils, AV.str jb16, AV.int .i64 jb17, AV.int .i64 jb18, AV.str jb19, AV.str jb20, AV.nils, AV.str jb22]]⟩)
 | .h14b b4 ja0 ja1 bh_0_2 jb0 jb1 jb2 jb5 jb8 jb9 jb10 jb11 jb12 jb16 jb17 jb18 jb19 jb20 jb22 lh_2 => (14, ⟨tm 117 [(0, AV.ptr 0 0), (1, AV.ptr 1 0), (4, AV.bool b4)], [AO.box [AV.sl shFor ja0, AV.int .i64 ja1, AV.bool bh_0_2], AO.box [AV.str jb0, AV.str jb1, AV.str jb2, AV.vec 2, AV.nils, AV.str jb5, AV.nils, AV.nils, AV.str jb8, AV.int .i64 jb9, AV.int .i64 jb10, AV.str jb11, AV.str jb12, AV.nils, AV.nils, AV.nils, AV.str jb16, AV.int .i64 jb17, AV.int .i64 jb18, AV.str jb19, AV.str jb20, AV.nils, AV.str jb22], AO.vec Sh.str lh_2]⟩)
theorem ok114p : fnChk env78.P 114 Tryz.f114 2 := by refine ⟨?_, ?_, ?_, ?_⟩ <;> kernel_rfl
def i114pz (_ : CSem cpRd) (z : CSem cpSz) (a0 : Sem shFor.sl × CSem [CP.d shInt, CP.d Sh.bool]) (a1 : Sem Sh.bool × CSem cpRd) (a2 : Sem shFor.sl × CSem [CP.d shInt, CP.d Sh.bool]) (a3 : Sem Sh.str × CSem cpRd) (a4 : Sem shFor.sl × CSem [CP.d shInt, CP.d Sh.bool]) (_ : CSem cpRd) (a6 : Sem shFor.sl × CSem [CP.d shInt, CP.d Sh.bool]) (a7 : Sem Sh.str × CSem cpRd) (a8 : Sem shFor.sl × CSem [CP.d shInt, CP.d Sh.bool]) (a9 : CSem cpRd) (_ : CSem cpRd) (a11 : Sem shFor.sl × CSem [CP.d shInt, CP.d Sh.bool]) (a12 : Sem Sh.str × CSem cpRd) (a13 : Sem shFor.sl × CSem [CP.d shInt, CP.d Sh.bool]) (_ : CSem cpRd) (a15 : Sem shFor.sl × CSem [CP.d shInt, CP.d Sh.bool]) (a16 : Sem Sh.str × CSem cpRd) (a17 : Sem shFor.sl × CSem [CP.d shInt, CP.d Sh.bool]) (a18 : Sem Sh.expr × CSem cpRd) (_ : CSem cpRd) (a20 : Sem shFor.sl × CSem [CP.d shInt, CP.d Sh.bool]) (_ : Sem Sh.str × CSem cpRd) (a22 : LS) (a23 : Sem shFor.sl × CSem [CP.d shInt, CP.d Sh.bool]) (_ : CSem cpRd) (a25 : Sem shFor.sl × CSem [CP.d shInt, CP.d Sh.bool]) (_ : Sem Sh.str × CSem cpRd) (a27 : LS) (a28 : Sem shFor.sl × CSem [CP.d shInt, CP.d Sh.bool]) (a29 : Sem Sh.expr × CSem cpRd) (a30 : Sem Sh.expr × CSem cpRd) (a31 : Sem Sh.bool × CSem cpRd) (a32 : Sem shFor.sl × CSem [CP.d shInt, CP.d Sh.bool]) (a33 : Sem Sh.str × CSem cpRd) (a34 : Sem shFor.sl × CSem [CP.d shInt, CP.d Sh.bool]) (_ : CSem cpRd) (a36 : Sem shFor.sl × CSem [CP.d shInt, CP.d Sh.bool]) (a37 : Sem Sh.str × CSem cpRd) (a38 : Sem shFor.sl × CSem [CP.d shInt, CP.d Sh.bool]) (a39 : CSem cpRd) (_ : CSem cpRd) (a41 : Sem shFor.sl × CSem [CP.d shInt, CP.d Sh.bool]) (a42 : Sem Sh.str × CSem cpRd) (a43 : Sem shFor.sl × CSem [CP.d shInt, CP.d Sh.bool]) (_ : CSem cpRd) (a45 : Sem shFor.sl × CSem [CP.d shInt, CP.d Sh.bool]) (a46 : Sem Sh.str × CSem cpRd) (a47 : Sem shFor.sl × CSem [CP.d shInt, CP.d Sh.bool]) (a48 : Sem Sh.expr × CSem cpRd) (_ : CSem cpRd) (a50 : Sem shFor.sl × CSem [CP.d shInt, CP.d Sh.bool]) (_ : Sem Sh.str × CSem cpRd) (a52 : LS) (a53 : Sem shFor.sl × CSem [CP.d shInt, CP.d Sh.bool]) (_ : CSem cpRd) (a55 : Sem shFor.sl × CSem [CP.d shInt, CP.d Sh.bool]) (_ : Sem Sh.str × CSem cpRd) (a57 : LS) (a58 : Sem shFor.sl × CSem [CP.d shInt, CP.d Sh.bool]) (a59 : Sem Sh.expr × CSem cpRd) (a60 : Sem Sh.expr × CSem cpRd) (a61 : Sem Sh.bool × CSem cpRd) (a62 : Sem shFor.sl × CSem [CP.d shInt, CP.d Sh.bool]) (a63 : Sem Sh.str × CSem cpRd) (a64 : Sem shFor.sl × CSem [CP.d shInt, CP.d Sh.bool]) (_ : CSem cpRd) (a66 : Sem shFor.sl × CSem [CP.d shInt, CP.d Sh.bool]) (a67 : Sem Sh.str × CSem cpRd) (a68 : Sem shFor.sl × CSem [CP.d shInt, CP.d Sh.bool]) (a69 : CSem cpRd) (_ : CSem cpRd) (a71 : Sem shFor.sl × CSem [CP.d shInt, CP.d Sh.bool]) (a72 : Sem Sh.str × CSem cpRd) (a73 : Sem shFor.sl × CSem [CP.d shInt, CP.d Sh.bool]) (_ : CSem cpRd) (a75 : Sem shFor.sl × CSem [CP.d shInt, CP.d Sh.bool]) (a76 : Sem Sh.str × CSem cpRd) (a77 : Sem shFor.sl × CSem [CP.d shInt, CP.d Sh.bool]) (a78 : Sem Sh.expr × CSem cpRd) (_ : CSem cpRd) (a80 : Sem shFor.sl × CSem [CP.d shInt, CP.d Sh.bool]) (_ : Sem Sh.str × CSem cpRd) (a82 : LS) (a83 : Sem shFor.sl × CSem [CP.d shInt, CP.d Sh.bool]) (_ : CSem cpRd) (a85 : Sem shFor.sl × CSem [CP.d shInt, CP.d Sh.bool]) (_ : Sem Sh.str × CSem cpRd) (a87 : LS) (a88 : Sem shFor.sl × CSem [CP.d shInt, CP.d Sh.bool]) (a89 : Sem Sh.expr × CSem cpRd) (a90 : Sem Sh.expr × CSem cpRd) (a91 : Sem shFor.sl × CSem [CP.d shInt, CP.d Sh.bool]) (a92 : Sem Sh.str × CSem cpRd) (a93 : Sem shFor.sl × CSem [CP.d shInt, CP.d Sh.bool]) (_ : CSem cpRd) (a95 : Sem shFor.sl × CSem [CP.d shInt, CP.d Sh.bool]) (a96 : Sem Sh.str × CSem cpRd) (a97 : Sem shFor.sl × CSem [CP.d shInt, CP.d Sh.bool]) (a98 : CSem cpRd) (_ : CSem cpRd) (a100 : Sem shFor.sl × CSem [CP.d shInt, CP.d Sh.bool]) (a101 : Sem Sh.str × CSem cpRd) (a102 : Sem shFor.sl × CSem [CP.d shInt, CP.d Sh.bool]) (_ : CSem cpRd) (a104 : Sem shFor.sl × CSem [CP.d shInt, CP.d Sh.bool]) (a105 : Sem Sh.str × CSem cpRd) (a106 : Sem shFor.sl × CSem [CP.d shInt, CP.d Sh.bool]) (a107 : Sem Sh.expr × CSem cpRd) (_ : CSem cpRd) (a109 : Sem shFor.sl × CSem [CP.d shInt, CP.d Sh.bool]) (_ : Sem Sh.str × CSem cpRd) (a111 : LS) (a112 : Sem shFor.sl × CSem [CP.d shInt, CP.d Sh.bool]) (_ : CSem cpRd) (a114 : Sem shFor.sl × CSem [CP.d shInt, CP.d Sh.bool]) (_ : Sem Sh.str × CSem cpRd) (a116 : LS) (a117 : Sem shFor.sl × CSem [CP.d shInt, CP.d Sh.bool]) (a118 : Sem Sh.expr × CSem cpRd) (a119 : Sem Sh.expr × CSem cpRd) : Tr (H114p ⊕ Raw) :=
 Tr.chk (rdPassC a0 [67, 79, 80, 89])
 (Tr.br a1.1
  (Tr.chk (rdNameC a2) (Tr.chk (rdMustC a4 [70, 82, 79, 77]) (Tr.chk (rdNameC a6) (Tr.br true (Tr.chk (rdMustC a8 [40]) (Tr.to (H114p.h14 a9.1 a9.2.1 a9.2.2.1 [99, 111, 112, 121] a3.1 a7.1 z.2.2.2.1 z.2.2.2.2.1 z.2.2.2.2.2.1 z.2.2.2.2.2.2.1 z.2.2.2.2.2.2.2.1 z.2.2.2.2.2.2.2.2.1 z.2.2.2.2.2.2.2.2.2.1 z.2.2.2.2.2.2.2.2.2.2.1 z.2.2.2.2.2.2.2.2.2.2.2.1
  z.2.2.2.2.2.2.2.2.2.2.2.2.1 z.2.2.2.2.2.2.2.2.2.2.2.2.2.1 z.2.2.2.2.2.2.2.2.2.2.2.2.2.2.1))) (Tr.br false (Tr.chk (rdMustC a8 [44]) (Tr.chk (rdNameC a11) (Tr.chk (rdMustC a13 [79, 78]) (Tr.chk (rdNameC a15) (Tr.chk (rdCondC a17 [67, 72, 69, 67, 75]) (Tr.re (AV.tup []) (cpHeap2 cpRd cpSm a18.2 ([99, 111, 112, 121], a3.1, a7.1, [], a16.1, a18.1, z.2.2.2.2.2.2.2.2.2.1,
  z.2.2.2.2.2.2.2.2.2.2.1, z.2.2.2.2.2.2.2.2.2.2.2.1, z.2.2.2.2.2.2.2.2.2.2.2.2.1, z.2.2.2.2.2.2.2.2.2.2.2.2.2.1, a12.1, ())))))))) (Tr.br false (Tr.chk (rdMustC a8 [66, 89]) (Tr.chk (rdNameC a20) (Tr.chk (decide (a22.length ≤ 1073741824)) (Tr.chk (rdMustC a23 [83, 85, 77]) (Tr.chk (rdNameC a25) (Tr.chk (decide (a22.length + a27.length ≤ 1073741824)) (Tr.chk (rdCondC a28 [67, 72, 69, 67, 75])
  (Tr.re (AV.tup []) (cpHeap2 cpRd cpSm a29.2 ([99, 111, 112, 121], a3.1, a7.1, a22 ++ a27, z.2.2.2.1, a29.1, z.2.2.2.2.2.2.2.2.2)))))))))) (Tr.chk (rdCondC a8 [67, 72, 69, 67, 75]) (Tr.re (AV.tup []) (cpHeap2 cpRd cpSm a30.2 ([99, 111, 112, 121], a3.1, a7.1, [], z.2.2.2.1, a30.1, z.2.2.2.2.2.2.2.2.2))))))))))
  (Tr.chk (rdPassC a2 [74, 79, 73, 78]) (Tr.br a31.1 (Tr.chk (rdNameC a32) (Tr.chk (rdMustC a34 [70, 82, 79, 77]) (Tr.chk (rdNameC a36) (Tr.br false (Tr.chk (rdMustC a38 [40]) (Tr.to (H114p.h14 a39.1 a39.2.1 a39.2.2.1 [106, 111, 105, 110] a33.1 a37.1 z.2.2.2.1 z.2.2.2.2.1 z.2.2.2.2.2.1 z.2.2.2.2.2.2.1 z.2.2.2.2.2.2.2.1 z.2.2.2.2.2.2.2.2.1
  z.2.2.2.2.2.2.2.2.2.1 z.2.2.2.2.2.2.2.2.2.2.1 z.2.2.2.2.2.2.2.2.2.2.2.1 z.2.2.2.2.2.2.2.2.2.2.2.2.1 z.2.2.2.2.2.2.2.2.2.2.2.2.2.1 z.2.2.2.2.2.2.2.2.2.2.2.2.2.2.1))) (Tr.br true (Tr.chk (rdMustC a38 [44]) (Tr.chk (rdNameC a41) (Tr.chk (rdMustC a43 [79, 78]) (Tr.chk (rdNameC a45) (Tr.chk (rdCondC a47 [67, 72, 69, 67, 75]) (Tr.re (AV.tup []) (cpHeap2 cpRd cpSm a48.2
  ([106, 111, 105, 110], a33.1, a37.1, [], a46.1, a48.1, z.2.2.2.2.2.2.2.2.2.1, z.2.2.2.2.2.2.2.2.2.2.1, z.2.2.2.2.2.2.2.2.2.2.2.1, z.2.2.2.2.2.2.2.2.2.2.2.2.1, z.2.2.2.2.2.2.2.2.2.2.2.2.2.1, a42.1, ())))))))) (Tr.br false (Tr.chk (rdMustC a38 [66, 89]) (Tr.chk (rdNameC a50) (Tr.chk (decide (a52.length ≤ 1073741824)) (Tr.chk (rdMustC a53 [83, 85, 77]) (Tr.chk (rdNameC a55)
  (Tr.chk (decide (a52.length + a57.length ≤ 1073741824)) (Tr.chk (rdCondC a58 [67, 72, 69, 67, 75]) (Tr.re (AV.tup []) (cpHeap2 cpRd cpSm a59.2 ([106, 111, 105, 110], a33.1, a37.1, a52 ++ a57, z.2.2.2.1, a59.1, z.2.2.2.2.2.2.2.2.2)))))))))) (Tr.chk (rdCondC a38 [67, 72, 69, 67, 75]) (Tr.re (AV.tup []) (cpHeap2 cpRd cpSm a60.2
  ([106, 111, 105, 110], a33.1, a37.1, [], z.2.2.2.1, a60.1, z.2.2.2.2.2.2.2.2.2)))))))))) (Tr.chk (rdPassC a32 [71, 82, 79, 85, 80]) (Tr.br a61.1 (Tr.chk (rdNameC a62) (Tr.chk (rdMustC a64 [70, 82, 79, 77]) (Tr.chk (rdNameC a66) (Tr.br false (Tr.chk (rdMustC a68 [40]) (Tr.to (H114p.h14 a69.1 a69.2.1 a69.2.2.1 [103, 114, 111, 117, 112] a63.1 a67.1 z.2.2.2.1 z.2.2.2.2.1
  z.2.2.2.2.2.1 z.2.2.2.2.2.2.1 z.2.2.2.2.2.2.2.1 z.2.2.2.2.2.2.2.2.1 z.2.2.2.2.2.2.2.2.2.1 z.2.2.2.2.2.2.2.2.2.2.1 z.2.2.2.2.2.2.2.2.2.2.2.1 z.2.2.2.2.2.2.2.2.2.2.2.2.1 z.2.2.2.2.2.2.2.2.2.2.2.2.2.1 z.2.2.2.2.2.2.2.2.2.2.2.2.2.2.1))) (Tr.br false (Tr.chk (rdMustC a68 [44]) (Tr.chk (rdNameC a71) (Tr.chk (rdMustC a73 [79, 78]) (Tr.chk (rdNameC a75) (Tr.chk (rdCondC a77 [67, 72, 69, 67, 75])
  (Tr.re (AV.tup []) (cpHeap2 cpRd cpSm a78.2 ([103, 114, 111, 117, 112], a63.1, a67.1, [], a76.1, a78.1, z.2.2.2.2.2.2.2.2.2.1, z.2.2.2.2.2.2.2.2.2.2.1, z.2.2.2.2.2.2.2.2.2.2.2.1, z.2.2.2.2.2.2.2.2.2.2.2.2.1, z.2.2.2.2.2.2.2.2.2.2.2.2.2.1, a72.1, ())))))))) (Tr.br true (Tr.chk (rdMustC a68 [66, 89]) (Tr.chk (rdNameC a80) (Tr.chk (decide (a82.length ≤ 1073741824))
  (Tr.chk (rdMustC a83 [83, 85, 77]) (Tr.chk (rdNameC a85) (Tr.chk (decide (a82.length + a87.length ≤ 1073741824)) (Tr.chk (rdCondC a88 [67, 72, 69, 67, 75]) (Tr.re (AV.tup []) (cpHeap2 cpRd cpSm a89.2 ([103, 114, 111, 117, 112], a63.1, a67.1, a82 ++ a87, z.2.2.2.1, a89.1, z.2.2.2.2.2.2.2.2.2)))))))))) (Tr.chk (rdCondC a68 [67, 72, 69, 67, 75]) (Tr.re (AV.tup []) (cpHeap2 cpRd cpSm a90.2
  ([103, 114, 111, 117, 112], a63.1, a67.1, [], z.2.2.2.1, a90.1, z.2.2.2.2.2.2.2.2.2)))))))))) (Tr.chk (rdNameC a91) (Tr.chk (rdMustC a93 [70, 82, 79, 77]) (Tr.chk (rdNameC a95) (Tr.br (z.1 == [99, 111, 112, 121]) (Tr.chk (rdMustC a97 [40]) (Tr.to (H114p.h14 a98.1 a98.2.1 a98.2.2.1 z.1 a92.1 a96.1 z.2.2.2.1 z.2.2.2.2.1 z.2.2.2.2.2.1 z.2.2.2.2.2.2.1 z.2.2.2.2.2.2.2.1 z.2.2.2.2.2.2.2.2.1
  z.2.2.2.2.2.2.2.2.2.1 z.2.2.2.2.2.2.2.2.2.2.1 z.2.2.2.2.2.2.2.2.2.2.2.1 z.2.2.2.2.2.2.2.2.2.2.2.2.1 z.2.2.2.2.2.2.2.2.2.2.2.2.2.1 z.2.2.2.2.2.2.2.2.2.2.2.2.2.2.1))) (Tr.br (z.1 == [106, 111, 105, 110]) (Tr.chk (rdMustC a97 [44]) (Tr.chk (rdNameC a100) (Tr.chk (rdMustC a102 [79, 78]) (Tr.chk (rdNameC a104) (Tr.chk (rdCondC a106 [67, 72, 69, 67, 75]) (Tr.re (AV.tup []) (cpHeap2 cpRd cpSm a107.2
  (z.1, a92.1, a96.1, [], a105.1, a107.1, z.2.2.2.2.2.2.2.2.2.1, z.2.2.2.2.2.2.2.2.2.2.1, z.2.2.2.2.2.2.2.2.2.2.2.1, z.2.2.2.2.2.2.2.2.2.2.2.2.1, z.2.2.2.2.2.2.2.2.2.2.2.2.2.1, a101.1, ())))))))) (Tr.br (z.1 == [103, 114, 111, 117, 112]) (Tr.chk (rdMustC a97 [66, 89]) (Tr.chk (rdNameC a109) (Tr.chk (decide (a111.length ≤ 1073741824)) (Tr.chk (rdMustC a112 [83, 85, 77]) (Tr.chk (rdNameC a114)
  (Tr.chk (decide (a111.length + a116.length ≤ 1073741824)) (Tr.chk (rdCondC a117 [67, 72, 69, 67, 75]) (Tr.re (AV.tup []) (cpHeap2 cpRd cpSm a118.2 (z.1, a92.1, a96.1, a111 ++ a116, z.2.2.2.1, a118.1, z.2.2.2.2.2.2.2.2.2)))))))))) (Tr.chk (rdCondC a97 [67, 72, 69, 67, 75]) (Tr.re (AV.tup []) (cpHeap2 cpRd cpSm a119.2 (z.1, a92.1, a96.1, [], z.2.2.2.1, a119.1, z.2.2.2.2.2.2.2.2.2)))))))))))))))
def i114p (y : CSem cpRd) (z : CSem cpSz) : Tr (H114p ⊕ Raw) :=
 let a0 := (y.1, y.2.1, y.2.2.1, ())
 let a1 := rdPass a0 [67, 79, 80, 89]
 let a2 := (a1.2.1, a1.2.2.1, a1.2.2.2.1, ())
 let a3 := rdName a2
 let a4 := (a3.2.1, a3.2.2.1, a3.2.2.2.1, ())
 let a5 := rdMust a4 [70, 82, 79, 77]
 let a6 := (a5.1, a5.2.1, a5.2.2.1, ())
 let a7 := rdName a6
 let a8 := (a7.2.1, a7.2.2.1, a7.2.2.2.1, ())
 let a9 := rdMust a8 [40]
 let a10 := rdMust a8 [44]
 let a11 := (a10.1, a10.2.1, a10.2.2.1, ())
 let a12 := rdName a11
 let a13 := (a12.2.1, a12.2.2.1, a12.2.2.2.1, ())
 let a14 := rdMust a13 [79, 78]
 let a15 := (a14.1, a14.2.1, a14.2.2.1, ())
 let a16 := rdName a15
 let a17 := (a16.2.1, a16.2.2.1, a16.2.2.2.1, ())
 let a18 := rdCond a17 [67, 72, 69, 67, 75]
 let a19 := rdMust a8 [66, 89]
 let a20 := (a19.1, a19.2.1, a19.2.2.1, ())
 let a21 := rdName a20
 let a22 := [a21.1]
 let a23 := (a21.2.1, a21.2.2.1, a21.2.2.2.1, ())
 let a24 := rdMust a23 [83, 85, 77]
 let a25 := (a24.1, a24.2.1, a24.2.2.1, ())
 let a26 := rdName a25
 let a27 := [a26.1]
 let a28 := (a26.2.1, a26.2.2.1, a26.2.2.2.1, ())
 let a29 := rdCond a28 [67, 72, 69, 67, 75]
 let a30 := rdCond a8 [67, 72, 69, 67, 75]
 let a31 := rdPass a2 [74, 79, 73, 78]
 let a32 := (a31.2.1, a31.2.2.1, a31.2.2.2.1, ())
 let a33 := rdName a32
 let a34 := (a33.2.1, a33.2.2.1, a33.2.2.2.1, ())
 let a35 := rdMust a34 [70, 82, 79, 77]
 let a36 := (a35.1, a35.2.1, a35.2.2.1, ())
 let a37 := rdName a36
 let a38 := (a37.2.1, a37.2.2.1, a37.2.2.2.1, ())
 let a39 := rdMust a38 [40]
 let a40 := rdMust a38 [44]
 let a41 := (a40.1, a40.2.1, a40.2.2.1, ())
 let a42 := rdName a41
 let a43 := (a42.2.1, a42.2.2.1, a42.2.2.2.1, ())
 let a44 := rdMust a43 [79, 78]
 let a45 := (a44.1, a44.2.1, a44.2.2.1, ())
 let a46 := rdName a45
 let a47 := (a46.2.1, a46.2.2.1, a46.2.2.2.1, ())
 let a48 := rdCond a47 [67, 72, 69, 67, 75]
 let a49 := rdMust a38 [66, 89]
 let a50 := (a49.1, a49.2.1, a49.2.2.1, ())
 let a51 := rdName a50
 let a52 := [a51.1]
 let a53 := (a51.2.1, a51.2.2.1, a51.2.2.2.1, ())
 let a54 := rdMust a53 [83, 85, 77]
 let a55 := (a54.1, a54.2.1, a54.2.2.1, ())
 let a56 := rdName a55
 let a57 := [a56.1]
 let a58 := (a56.2.1, a56.2.2.1, a56.2.2.2.1, ())
 let a59 := rdCond a58 [67, 72, 69, 67, 75]
 let a60 := rdCond a38 [67, 72, 69, 67, 75]
 let a61 := rdPass a32 [71, 82, 79, 85, 80]
 let a62 := (a61.2.1, a61.2.2.1, a61.2.2.2.1, ())
 let a63 := rdName a62
 let a64 := (a63.2.1, a63.2.2.1, a63.2.2.2.1, ())
 let a65 := rdMust a64 [70, 82, 79, 77]
 let a66 := (a65.1, a65.2.1, a65.2.2.1, ())
 let a67 := rdName a66
 let a68 := (a67.2.1, a67.2.2.1, a67.2.2.2.1, ())
 let a69 := rdMust a68 [40]
 let a70 := rdMust a68 [44]
 let a71 := (a70.1, a70.2.1, a70.2.2.1, ())
 let a72 := rdName a71
 let a73 := (a72.2.1, a72.2.2.1, a72.2.2.2.1, ())
 let a74 := rdMust a73 [79, 78]
 let a75 := (a74.1, a74.2.1, a74.2.2.1, ())
 let a76 := rdName a75
 let a77 := (a76.2.1, a76.2.2.1, a76.2.2.2.1, ())
 let a78 := rdCond a77 [67, 72, 69, 67, 75]
 let a79 := rdMust a68 [66, 89]
 let a80 := (a79.1, a79.2.1, a79.2.2.1, ())
 let a81 := rdName a80
 let a82 := [a81.1]
 let a83 := (a81.2.1, a81.2.2.1, a81.2.2.2.1, ())
 let a84 := rdMust a83 [83, 85, 77]
 let a85 := (a84.1, a84.2.1, a84.2.2.1, ())
 let a86 := rdName a85
 let a87 := [a86.1]
 let a88 := (a86.2.1, a86.2.2.1, a86.2.2.2.1, ())
 let a89 := rdCond a88 [67, 72, 69, 67, 75]
 let a90 := rdCond a68 [67, 72, 69, 67, 75]
 let a91 := (a61.2.1, a61.2.2.1, false, ())
 let a92 := rdName a91
 let a93 := (a92.2.1, a92.2.2.1, a92.2.2.2.1, ())
 let a94 := rdMust a93 [70, 82, 79, 77]
 let a95 := (a94.1, a94.2.1, a94.2.2.1, ())
 let a96 := rdName a95
 let a97 := (a96.2.1, a96.2.2.1, a96.2.2.2.1, ())
 let a98 := rdMust a97 [40]
 let a99 := rdMust a97 [44]
 let a100 := (a99.1, a99.2.1, a99.2.2.1, ())
 let a101 := rdName a100
 let a102 := (a101.2.1, a101.2.2.1, a101.2.2.2.1, ())
 let a103 := rdMust a102 [79, 78]
 let a104 := (a103.1, a103.2.1, a103.2.2.1, ())
 let a105 := rdName a104
 let a106 := (a105.2.1, a105.2.2.1, a105.2.2.2.1, ())
 let a107 := rdCond a106 [67, 72, 69, 67, 75]
 let a108 := rdMust a97 [66, 89]
 let a109 := (a108.1, a108.2.1, a108.2.2.1, ())
 let a110 := rdName a109
 let a111 := [a110.1]
 let a112 := (a110.2.1, a110.2.2.1, a110.2.2.2.1, ())
 let a113 := rdMust a112 [83, 85, 77]
 let a114 := (a113.1, a113.2.1, a113.2.2.1, ())
 let a115 := rdName a114
 let a116 := [a115.1]
 let a117 := (a115.2.1, a115.2.2.1, a115.2.2.2.1, ())
 let a118 := rdCond a117 [67, 72, 69, 67, 75]
 let a119 := rdCond a97 [67, 72, 69, 67, 75]
 i114pz y z a0 a1 a2 a3 a4 a5 a6 a7 a8 a9 a10 a11 a12 a13 a14 a15 a16 a17 a18 a19 a20 a21 a22 a23 a24 a25 a26 a27 a28 a29 a30 a31 a32 a33 a34 a35 a36 a37 a38 a39 a40 a41 a42 a43 a44 a45 a46 a47 a48 a49 a50 a51 a52 a53 a54 a55 a56 a57 a58 a59 a60 a61 a62 a63 a64 a65 a66 a67 a68 a69 a70 a71 a72 a73 a74 a75 a76 a77 a78 a79 a80 a81 a82 a83 a84 a85 a86 a87 a88 a89 a90 a91 a92 a93 a94 a95 a96 a97 a98 a99 a100 a101 a102 a103 a104 a105 a106 a107 a108 a109 a110 a111 a112 a113 a114 a115 a116 a117 a118 a119
def t114p_14z (_ : LF) (_ : Sem shInt) (bh_0_2 : Sem Sh.bool) (jb0 : List UInt8) (jb1 : TS) (jb2 : TS) (jb5 : TS) (jb8 : TS) (jb9 : Sem shInt) (jb10 : Sem shInt) (jb11 : TS) (jb12 : TS) (jb16 : TS) (jb17 : Sem shInt) (jb18 : Sem shInt) (jb19 : TS) (jb20 : TS) (jb22 : TS) (a0 : Sem shFor.sl × CSem [CP.d shInt, CP.d Sh.bool]) (_ : Sem Sh.str × CSem cpRd) (a2 : LS) (a3 : Sem shFor.sl × CSem [CP.d shInt, CP.d Sh.bool]) (a4 : Sem Sh.bool × CSem cpRd) (_ : CSem cpRd) (a6 : Sem shFor.sl × CSem [CP.d shInt, CP.d Sh.bool]) (a7 : Sem Sh.expr × CSem cpRd) : Tr (H114p ⊕ Raw) :=
 Tr.br bh_0_2
 (Tr.chk (rdNameC a0)
  (Tr.chk (decide (a2.length ≤ 1073741824)) (Tr.chk (rdPassC a3 [44]) (Tr.to (H114p.h14b a4.1 a4.2.1 a4.2.2.1 a4.2.2.2.1 jb0 jb1 jb2 jb5 jb8 jb9 jb10 jb11 jb12 jb16 jb17 jb18 jb19 jb20 jb22 a2)))))
 (Tr.chk (rdMustC a0 [41])
  (Tr.chk (rdCondC a6 [67, 72, 69, 67, 75]) (Tr.re (AV.tup []) (cpHeap2 cpRd cpSm a7.2 (jb0, jb1, jb2, [], jb5, a7.1, jb16, jb17, jb18, jb19, jb20, jb22, ())))))
def t114p_14 (ja0 : LF) (ja1 : Sem shInt) (bh_0_2 : Sem Sh.bool) (jb0 : List UInt8) (jb1 : TS) (jb2 : TS) (jb5 : TS) (jb8 : TS) (jb9 : Sem shInt) (jb10 : Sem shInt) (jb11 : TS) (jb12 : TS) (jb16 : TS) (jb17 : Sem shInt) (jb18 : Sem shInt) (jb19 : TS) (jb20 : TS) (jb22 : TS) : Tr (H114p ⊕ Raw) :=
 let a0 := (ja0, ja1, bh_0_2, ())
 let a1 := rdName a0
 let a2 := [a1.1]
 let a3 := (a1.2.1, a1.2.2.1, a1.2.2.2.1, ())
 let a4 := rdPass a3 [44]
 let a5 := rdMust a0 [41]
 let a6 := (a5.1, a5.2.1, a5.2.2.1, ())
 let a7 := rdCond a6 [67, 72, 69, 67, 75]
 t114p_14z ja0 ja1 bh_0_2 jb0 jb1 jb2 jb5 jb8 jb9 jb10 jb11 jb12 jb16 jb17 jb18 jb19 jb20 jb22 a0 a1 a2 a3 a4 a5 a6 a7
def t114p_14bz (b4 : Sem Sh.bool) (_ : LF) (_ : Sem shInt) (bh_0_2 : Sem Sh.bool) (jb0 : List UInt8) (jb1 : TS) (jb2 : TS) (jb5 : TS) (jb8 : TS) (jb9 : Sem shInt) (jb10 : Sem shInt) (jb11 : TS) (jb12 : TS) (jb16 : TS) (jb17 : Sem shInt) (jb18 : Sem shInt) (jb19 : TS) (jb20 : TS) (jb22 : TS) (lh_2 : LS) (a0 : Sem shFor.sl × CSem [CP.d shInt, CP.d Sh.bool]) (_ : Sem Sh.str × CSem cpRd) (a2 : LS) (a3 : Sem shFor.sl × CSem [CP.d shInt, CP.d Sh.bool]) (a4 : Sem Sh.bool × CSem cpRd) (_ : CSem cpRd) (a6 : Sem shFor.sl × CSem [CP.d shInt, CP.d Sh.bool]) (a7 : Sem Sh.expr × CSem cpRd) : Tr (H114p ⊕ Raw) :=
 Tr.br (bif b4 then bh_0_2 else false)
 (Tr.chk (rdNameC a0)
  (Tr.chk (decide (lh_2.length + a2.length ≤ 1073741824)) (Tr.chk (rdPassC a3 [44]) (Tr.to (H114p.h14b a4.1 a4.2.1 a4.2.2.1 a4.2.2.2.1 jb0 jb1 jb2 jb5 jb8 jb9 jb10 jb11 jb12 jb16 jb17 jb18 jb19 jb20 jb22 (lh_2 ++ a2))))))
 (Tr.chk (rdMustC a0 [41])
  (Tr.chk (rdCondC a6 [67, 72, 69, 67, 75]) (Tr.re (AV.tup []) (cpHeap2 cpRd cpSm a7.2 (jb0, jb1, jb2, lh_2, jb5, a7.1, jb16, jb17, jb18, jb19, jb20, jb22, ())))))
def t114p_14b (b4 : Sem Sh.bool) (ja0 : LF) (ja1 : Sem shInt) (bh_0_2 : Sem Sh.bool) (jb0 : List UInt8) (jb1 : TS) (jb2 : TS) (jb5 : TS) (jb8 : TS) (jb9 : Sem shInt) (jb10 : Sem shInt) (jb11 : TS) (jb12 : TS) (jb16 : TS) (jb17 : Sem shInt) (jb18 : Sem shInt) (jb19 : TS) (jb20 : TS) (jb22 : TS) (lh_2 : LS) : Tr (H114p ⊕ Raw) :=
 let a0 := (ja0, ja1, bh_0_2, ())
 let a1 := rdName a0
 let a2 := [a1.1]
 let a3 := (a1.2.1, a1.2.2.1, a1.2.2.2.1, ())
 let a4 := rdPass a3 [44]
 let a5 := rdMust a0 [41]
 let a6 := (a5.1, a5.2.1, a5.2.2.1, ())
 let a7 := rdCond a6 [67, 72, 69, 67, 75]
 t114p_14bz b4 ja0 ja1 bh_0_2 jb0 jb1 jb2 jb5 jb8 jb9 jb10 jb11 jb12 jb16 jb17 jb18 jb19 jb20 jb22 lh_2 a0 a1 a2 a3 a4 a5 a6 a7
theorem go114p (y : CSem cpRd) (z : CSem cpSz) : run env78 2 kp114p (Func.results Tryz.f114).toList 400 (bodyOf Tryz.f114) (initSt (Func.ntmps Tryz.f114) [AV.ptr 0 0, AV.ptr 1 0] (cpHeap2 cpRd cpSz y z)) = (i114p y z).map (lf Tryz.f114 e114p) := by kernel_rfl
def t114p : H114p → Tr (H114p ⊕ Raw)
 | .h14 ja0 ja1 bh_0_2 jb0 jb1 jb2 jb5 jb8 jb9 jb10 jb11 jb12 jb16 jb17 jb18 jb19 jb20 jb22 => t114p_14 ja0 ja1 bh_0_2 jb0 jb1 jb2 jb5 jb8 jb9 jb10 jb11 jb12 jb16 jb17 jb18 jb19 jb20 jb22
 | .h14b b4 ja0 ja1 bh_0_2 jb0 jb1 jb2 jb5 jb8 jb9 jb10 jb11 jb12 jb16 jb17 jb18 jb19 jb20 jb22 lh_2 => t114p_14b b4 ja0 ja1 bh_0_2 jb0 jb1 jb2 jb5 jb8 jb9 jb10 jb11 jb12 jb16 jb17 jb18 jb19 jb20 jb22 lh_2
theorem on114p : ∀ s, run env78 2 kp114p (Func.results Tryz.f114).toList 400 (headK Tryz.f114 (e114p s).1) (e114p s).2 = (t114p s).map (lf Tryz.f114 e114p)
 | .h14 ja0 ja1 bh_0_2 jb0 jb1 jb2 jb5 jb8 jb9 jb10 jb11 jb12 jb16 jb17 jb18 jb19 jb20 jb22 => by kernel_rfl
 | .h14b b4 ja0 ja1 bh_0_2 jb0 jb1 jb2 jb5 jb8 jb9 jb10 jb11 jb12 jb16 jb17 jb18 jb19 jb20 jb22 lh_2 => by kernel_rfl
def rdMigO (y : CSem cpRd) (z : CSem cpSz) : Option (HArgs (List.map some []) × CSem cpRd × CSem cpSm) := outB2 [] cpRd cpSm t114p 100000000 (i114p y z)
def rdMigC (y : CSem cpRd) (z : CSem cpSz) : Bool := (rdMigO y z).isSome
def rdMig (y : CSem cpRd) (z : CSem cpSz) : CSem cpRd × CSem cpSm := (fun r : HArgs (List.map some []) × CSem cpRd × CSem cpSm => r.2) ((rdMigO y z).getD (dfltH [], dfltC cpRd, dfltC cpSm))
def F114p : FSem := box2F cpRd cpSz [] [] cpRd cpSm (fun y z _ => rdMigC y z) fun y z _ => ((), rdMig y z)
theorem FOk114p : FOk env78.P env78.gl 114 F114p := FOk_B2 (ps := cpRd) (qs := cpSz) (ks := []) (outs := []) (keep := kp114p) (gas := 400) (n := 100000000) (e := e114p) (t := t114p) (i := fun y z x => i114p y z) env78_all env78_mix ok114p (fun y z x => go114p y z) on114p (fun _ _ _ => by kernel_rfl) (fun _ _ _ => by kernel_rfl)

def env79 : Env := (env78.add 114 F114p)
theorem env79_all : EnvAll env79 := (EnvAll.addS env78_all (SameE.refl env78) FOk114p)
theorem env79_mix : env79.P.follows .mixedOrders = true := (mix_add env78_mix _ _)
end
open Go Go.Proofs
noncomputable section
set_option maxHeartbeats 4000000

abbrev kp65p : Nat → Keep := fun j => if j = 17 then { slots := [2, 4, 6, 7, 8] } else if j = 25 then { slots := [2, 4, 6, 7, 9] } else { }
inductive H65p where
 | h17 (l4 : LF) (z0 : CSem cpSz) (z1 : CSem cpRd) (z2 : CSem cpSz)
 | h25 (l4 : LF) (z0 : CSem cpSz) (z1 : CSem cpRd) (z2 : CSem cpSz)
abbrev e65p : H65p → Nat × St
 | .h17 l4 z0 z1 z2 => (17, ⟨tm 172 [(2, AV.ptr 0 0), (4, AV.sl shFor l4), (6, AV.ptr 1 0), (7, AV.ptr 2 0), (8, AV.kb true)], [AO.box (cpN [] cpSz z0), AO.box (cpN [] cpRd z1), AO.box (cpN [] cpSz z2)]⟩)
 | .h25 l4 z0 z1 z2 => (25, ⟨tm 172 [(2, AV.ptr 0 0), (4, AV.sl shFor l4), (6, AV.ptr 1 0), (7, AV.ptr 2 0), (9, AV.kb true)], [AO.box (cpN [] cpSz z0), AO.box (cpN [] cpRd z1), AO.box (cpN [] cpSz z2)]⟩)
theorem ok65p : fnChk env79.P 65 Tryz.f65 1 := by refine ⟨?_, ?_, ?_, ?_⟩ <;> kernel_rfl
def i65pz (x0 : TS) (a0 : Sem shFor.sl × CSem [CP.d shInt, CP.d Sh.bool]) (a1 : Sem Sh.bool × CSem cpRd) (a2 : Sem shFor.sl × CSem [CP.d shInt, CP.d Sh.bool]) (a3 : Sem Sh.bool × CSem cpRd) (a4 : Sem shFor.sl × CSem [CP.d shInt, CP.d Sh.bool]) (_ : CSem cpRd) (a6 : Sem shFor.sl × CSem [CP.d shInt, CP.d Sh.bool]) (a7 : Sem Sh.str × CSem cpRd) (a8 : Int) (a9 : Sem Sh.str × Sem (Sh.str.pr (Sh.str.pr (Sh.str.sl.pr (shCol.sl.pr (Sh.str.pr (Sh.str.sl.pr (shRef.sl.pr (Sh.expr.pr (shVal.sl.pr (shSet.sl.pr (Sh.expr.pr Sh.str)))))))))))) (a10 : Sem Sh.str × Sem Sh.bool) (a11 : Sem Sh.bool × CSem cpRd) (a12 : Sem shFor.sl × CSem [CP.d shInt, CP.d Sh.bool]) (_ : CSem cpRd) (a14 : Sem shFor.sl × CSem [CP.d shInt, CP.d Sh.bool]) (a15 : Sem Sh.str × CSem cpRd) (a16 : Sem shFor.sl × CSem [CP.d shInt, CP.d Sh.bool]) (_ : CSem cpRd) (a18 : Sem shFor.sl × CSem [CP.d shInt, CP.d Sh.bool]) (a19 : Sem Sh.bool × CSem cpRd) (a20 : Sem shFor.sl × CSem [CP.d shInt, CP.d Sh.bool]) (a21 : Sem Sh.str × CSem cpRd) (a22 : Sem shFor.sl × CSem [CP.d shInt, CP.d Sh.bool]) (a23 : Sem Sh.bool × CSem cpRd) (a24 : Sem shFor.sl × CSem [CP.d shInt, CP.d Sh.bool]) (_ : CSem cpRd) (a26 : Sem shFor.sl × CSem [CP.d shInt, CP.d Sh.bool]) (a27 : Sem Sh.str × CSem cpRd) (a28 : Sem shFor.sl × CSem [CP.d shInt, CP.d Sh.bool]) (a29 : Sem Sh.expr × CSem cpRd) (a30 : Sem Sh.str × Sem (Sh.str.pr (Sh.str.pr (Sh.str.sl.pr (shCol.sl.pr (Sh.str.pr (Sh.str.sl.pr (shRef.sl.pr (Sh.expr.pr (shVal.sl.pr (shSet.sl.pr (Sh.expr.pr Sh.str)))))))))))) (a31 : Sem Sh.str × Sem Sh.bool) (a32 : Sem Sh.bool × CSem cpRd) (a33 : Sem shFor.sl × CSem [CP.d shInt, CP.d Sh.bool]) (_ : CSem cpRd) (a35 : Sem shFor.sl × CSem [CP.d shInt, CP.d Sh.bool]) (_ : CSem cpRd) (a37 : Sem shFor.sl × CSem [CP.d shInt, CP.d Sh.bool]) (a38 : Sem Sh.str × CSem cpRd) (a39 : Sem shFor.sl × CSem [CP.d shInt, CP.d Sh.bool]) (a40 : Sem Sh.expr × CSem cpRd) (a41 : Sem Sh.str × Sem (Sh.str.pr (Sh.str.pr (Sh.str.sl.pr (shCol.sl.pr (Sh.str.pr (Sh.str.sl.pr (shRef.sl.pr (Sh.expr.pr (shVal.sl.pr (shSet.sl.pr (Sh.expr.pr Sh.str)))))))))))) (a42 : Sem Sh.str × Sem Sh.bool) (a43 : Sem Sh.bool × CSem cpRd) (a44 : Sem shFor.sl × CSem [CP.d shInt, CP.d Sh.bool]) (a45 : Sem Sh.bool × CSem cpRd) (a46 : Sem Sh.bool × CSem cpRd) (a47 : Sem shFor.sl × CSem [CP.d shInt, CP.d Sh.bool]) (a48 : Sem Sh.bool × CSem cpRd) (a49 : Sem Sh.bool × CSem cpRd) (a50 : Sem shFor.sl × CSem [CP.d shInt, CP.d Sh.bool]) (a51 : CSem cpRd × CSem cpSm) (a52 : Sem Sh.str × Sem (Sh.str.pr (Sh.str.pr (Sh.str.sl.pr (shCol.sl.pr (Sh.str.pr (Sh.str.sl.pr (shRef.sl.pr (Sh.expr.pr (shVal.sl.pr (shSet.sl.pr (Sh.expr.pr Sh.str)))))))))))) (a53 : Sem Sh.str × Sem Sh.bool) : Tr (H65p ⊕ Raw) :=
 Tr.chk (r3CutC x0)
 (Tr.br (!(r3Cut x0).2)
  (Tr.re (AV.tup [AV.agg [AV.str [], AV.str [], AV.str [], AV.nils, AV.nils, AV.str [], AV.nils, AV.nils, AV.str [], AV.int .i64 0, AV.int .i64 0, AV.str [], AV.str [], AV.nils, AV.nils, AV.nils, AV.str [], AV.int .i64 0, AV.int .i64 0, AV.str [], AV.str [], AV.nils, AV.str []], AV.kb false]) [])
  (Tr.chk (rdPassC a0 [67, 82, 69, 65, 84, 69]) (Tr.br a1.1 Tr.err (Tr.chk (rdPassC a2 [68, 82, 79, 80]) (Tr.br a3.1 (Tr.chk (rdMustC a4 [84, 65, 66, 76, 69]) (Tr.chk (rdNameC a6) (Tr.br (bif !a7.2.2.2.1 then true else a7.2.2.1 != a8) (Tr.re (AV.tup [AV.agg [AV.str [], AV.str [], AV.str [], AV.nils, AV.nils, AV.str [], AV.nils, AV.nils, AV.str [], AV.int .i64 0,
  AV.int .i64 0, AV.str [], AV.str [], AV.nils, AV.nils, AV.nils, AV.str [], AV.int .i64 0, AV.int .i64 0, AV.str [], AV.str [], AV.nils, AV.str []], AV.kb false]) []) (Tr.chk (r5TextC a9) (Tr.br (!a10.2) (Tr.re (AV.tup [AV.agg [AV.str [], AV.str [], AV.str [], AV.nils, AV.nils, AV.str [], AV.nils, AV.nils, AV.str [], AV.int .i64 0,
  AV.int .i64 0, AV.str [], AV.str [], AV.nils, AV.nils, AV.nils, AV.str [], AV.int .i64 0, AV.int .i64 0, AV.str [], AV.str [], AV.nils, AV.str []], AV.kb false]) []) (Tr.re (AV.tup [AV.agg [AV.str [100, 114, 111, 112], AV.str a7.1, AV.str [], AV.nils, AV.nils, AV.str [], AV.nils, AV.nils, AV.str [],
  AV.int .i64 0, AV.int .i64 0, AV.str [], AV.str [], AV.nils, AV.nils, AV.nils, AV.str [], AV.int .i64 0, AV.int .i64 0, AV.str [], AV.str [], AV.nils, AV.str []], AV.kb true]) [])))))) (Tr.chk (rdPassC a4 [73, 78, 83, 69, 82, 84]) (Tr.br a11.1 (Tr.chk (rdMustC a12 [73, 78, 84, 79]) (Tr.chk (rdNameC a14) (Tr.chk (rdMustC a16 [86, 65, 76, 85, 69, 83]) (Tr.chk (rdMustC a18 [40]) (Tr.to
  (H65p.h17 (r3Cut x0).1 ([], [], [], [], [], 0, 0, [], [], [], 0, 0, [], [], [], ()) (rdMust a18 [40]) ([105, 110, 115, 101, 114, 116], a15.1, [], [], [], 0, 0, [], [], [], 0, 0, [], [], [], ()))))))) (Tr.chk (rdPassC a12 [85, 80, 68, 65, 84, 69]) (Tr.br a19.1 (Tr.chk (rdNameC a20) (Tr.chk (rdMustC a22 [83, 69, 84]) (Tr.to
  (H65p.h25 (r3Cut x0).1 ([], [], [], [], [], 0, 0, [], [], [], 0, 0, [], [], [], ()) (rdMust a22 [83, 69, 84]) ([117, 112, 100, 97, 116, 101], a21.1, [], [], [], 0, 0, [], [], [], 0, 0, [], [], [], ()))))) (Tr.chk (rdPassC a20 [68, 69, 76, 69, 84, 69]) (Tr.br a23.1 (Tr.chk (rdMustC a24 [70, 82, 79, 77]) (Tr.chk (rdNameC a26) (Tr.chk (rdCondC a28 [87, 72, 69, 82, 69])
  (Tr.br (bif !a29.2.2.2.1 then true else a29.2.2.1 != a8) (Tr.re (AV.tup [AV.agg [AV.str [], AV.str [], AV.str [], AV.nils, AV.nils, AV.str [], AV.nils, AV.nils, AV.str [], AV.int .i64 0, AV.int .i64 0, AV.str [], AV.str [], AV.nils, AV.nils, AV.nils, AV.str [], AV.int .i64 0, AV.int .i64 0, AV.str [], AV.str [], AV.nils, AV.str []], AV.kb false]) []) (Tr.chk (r5TextC a30) (Tr.br (!a31.2)
  (Tr.re (AV.tup [AV.agg [AV.str [], AV.str [], AV.str [], AV.nils, AV.nils, AV.str [], AV.nils, AV.nils, AV.str [], AV.int .i64 0, AV.int .i64 0, AV.str [], AV.str [], AV.nils, AV.nils, AV.nils, AV.str [], AV.int .i64 0, AV.int .i64 0, AV.str [], AV.str [], AV.nils, AV.str []], AV.kb false]) []) (Tr.re (AV.tup [AV.agg
  [AV.str [100, 101, 108, 101, 116, 101], AV.str a27.1, AV.str [], AV.nils, AV.nils, AV.str [], AV.nils, AV.nils, AV.str [], AV.int .i64 0, AV.int .i64 0, AV.str [], AV.str [], AV.nils, AV.nils, AV.nils, AV.str (ExprT.op a29.1), AV.int .i64 (ExprT.v a29.1).1, AV.int .i64 (ExprT.v a29.1).2.1, AV.str (ExprT.v a29.1).2.2, AV.str (ExprT.s a29.1), AV.sl Sh.expr (ExprT.l a29.1), AV.str []],
  AV.kb true]) []))))))) (Tr.chk (rdPassC a24 [83, 69, 76, 69, 67, 84]) (Tr.br a32.1 (Tr.chk (rdMustC a33 [42]) (Tr.chk (rdMustC a35 [70, 82, 79, 77]) (Tr.chk (rdNameC a37) (Tr.chk (rdCondC a39 [87, 72, 69, 82, 69]) (Tr.br (bif !a40.2.2.2.1 then true else a40.2.2.1 != a8) (Tr.re (AV.tup [AV.agg
  [AV.str [], AV.str [], AV.str [], AV.nils, AV.nils, AV.str [], AV.nils, AV.nils, AV.str [], AV.int .i64 0, AV.int .i64 0, AV.str [], AV.str [], AV.nils, AV.nils, AV.nils, AV.str [], AV.int .i64 0, AV.int .i64 0, AV.str [], AV.str [], AV.nils, AV.str []], AV.kb false]) []) (Tr.chk (r5TextC a41) (Tr.br (!a42.2) (Tr.re (AV.tup [AV.agg
  [AV.str [], AV.str [], AV.str [], AV.nils, AV.nils, AV.str [], AV.nils, AV.nils, AV.str [], AV.int .i64 0, AV.int .i64 0, AV.str [], AV.str [], AV.nils, AV.nils, AV.nils, AV.str [], AV.int .i64 0, AV.int .i64 0, AV.str [], AV.str [], AV.nils, AV.str []], AV.kb false]) []) (Tr.re (AV.tup [AV.agg
  [AV.str [115, 101, 108, 101, 99, 116], AV.str a38.1, AV.str [], AV.nils, AV.nils, AV.str [], AV.nils, AV.nils, AV.str [], AV.int .i64 0, AV.int .i64 0, AV.str [], AV.str [], AV.nils, AV.nils, AV.nils, AV.str (ExprT.op a40.1), AV.int .i64 (ExprT.v a40.1).1, AV.int .i64 (ExprT.v a40.1).2.1, AV.str (ExprT.v a40.1).2.2, AV.str (ExprT.s a40.1), AV.sl Sh.expr (ExprT.l a40.1), AV.str []],
  AV.kb true]) [])))))))) (Tr.chk (rdPassC a33 [71, 82, 65, 78, 84]) (Tr.br a43.1 (Tr.chk (rdSeeC a44 [82, 69, 65, 68]) (Tr.br a45.1 Tr.err Tr.err)) (Tr.chk (rdPassC a44 [82, 69, 86, 79, 75, 69]) (Tr.br a46.1 (Tr.chk (rdSeeC a47 [82, 69, 65, 68]) (Tr.br a48.1 Tr.err Tr.err)) (Tr.chk (rdPassC a47 [77, 73, 71, 82, 65, 84, 69]) (Tr.br a49.1
  (Tr.chk (rdMigC a50 ([], [], [], [], [], 0, 0, [], [], [], 0, 0, [], [], [], ())) (Tr.br (bif !a51.1.2.2.1 then true else a51.1.2.1 != a8) (Tr.re (AV.tup [AV.agg [AV.str [], AV.str [], AV.str [], AV.nils, AV.nils, AV.str [], AV.nils, AV.nils, AV.str [], AV.int .i64 0, AV.int .i64 0, AV.str [], AV.str [], AV.nils, AV.nils, AV.nils, AV.str [],
  AV.int .i64 0, AV.int .i64 0, AV.str [], AV.str [], AV.nils, AV.str []], AV.kb false]) []) (Tr.chk (r5TextC a52) (Tr.br (!a53.2) (Tr.re (AV.tup [AV.agg [AV.str [], AV.str [], AV.str [], AV.nils, AV.nils, AV.str [], AV.nils, AV.nils, AV.str [], AV.int .i64 0, AV.int .i64 0, AV.str [], AV.str [], AV.nils, AV.nils, AV.nils,
  AV.str [], AV.int .i64 0, AV.int .i64 0, AV.str [], AV.str [], AV.nils, AV.str []], AV.kb false]) []) (Tr.re (AV.tup [AV.agg [AV.str a51.2.1, AV.str a51.2.2.1, AV.str a51.2.2.2.1, AV.vec 0, AV.nils, AV.str a51.2.2.2.2.2.1, AV.nils, AV.nils, AV.str (ExprT.op a51.2.2.2.2.2.2.1), AV.int .i64 (ExprT.v a51.2.2.2.2.2.2.1).1, AV.int .i64 (ExprT.v a51.2.2.2.2.2.2.1).2.1,
  AV.str (ExprT.v a51.2.2.2.2.2.2.1).2.2, AV.str (ExprT.s a51.2.2.2.2.2.2.1), AV.sl Sh.expr (ExprT.l a51.2.2.2.2.2.2.1), AV.nils, AV.nils, AV.str a51.2.2.2.2.2.2.2.1, AV.int .i64 a51.2.2.2.2.2.2.2.2.1, AV.int .i64 a51.2.2.2.2.2.2.2.2.2.1, AV.str a51.2.2.2.2.2.2.2.2.2.2.1, AV.str a51.2.2.2.2.2.2.2.2.2.2.2.1, AV.nils, AV.str a51.2.2.2.2.2.2.2.2.2.2.2.2.1], AV.kb true])
  [AO.vec Sh.str a51.2.2.2.2.1]))))) (Tr.br (bif !a49.2.2.2.1 then true else a49.2.2.1 != a8) (Tr.re (AV.tup [AV.agg [AV.str [], AV.str [], AV.str [], AV.nils, AV.nils, AV.str [], AV.nils, AV.nils, AV.str [], AV.int .i64 0, AV.int .i64 0, AV.str [], AV.str [], AV.nils, AV.nils, AV.nils, AV.str [], AV.int .i64 0, AV.int .i64 0, AV.str [], AV.str [], AV.nils, AV.str []], AV.kb false]) [])
  (Tr.chk true (Tr.br true (Tr.re (AV.tup [AV.agg [AV.str [], AV.str [], AV.str [], AV.nils, AV.nils, AV.str [], AV.nils, AV.nils, AV.str [], AV.int .i64 0, AV.int .i64 0, AV.str [], AV.str [], AV.nils, AV.nils, AV.nils, AV.str [], AV.int .i64 0, AV.int .i64 0, AV.str [], AV.str [], AV.nils, AV.str []], AV.kb false]) []) (Tr.re (AV.tup [AV.agg
  [AV.str [], AV.str [], AV.str [], AV.nils, AV.nils, AV.str [], AV.nils, AV.nils, AV.str [], AV.int .i64 0, AV.int .i64 0, AV.str [], AV.str [], AV.nils, AV.nils, AV.nils, AV.str [], AV.int .i64 0, AV.int .i64 0, AV.str [], AV.str [], AV.nils, AV.str []], AV.kb true]) [])))))))))))))))))))))))
def i65p (x0 : TS) : Tr (H65p ⊕ Raw) :=
 let a0 := ((r3Cut x0).1, 0, true, ())
 let a1 := rdPass a0 [67, 82, 69, 65, 84, 69]
 let a2 := (a1.2.1, a1.2.2.1, a1.2.2.2.1, ())
 let a3 := rdPass a2 [68, 82, 79, 80]
 let a4 := (a3.2.1, a3.2.2.1, a3.2.2.2.1, ())
 let a5 := rdMust a4 [84, 65, 66, 76, 69]
 let a6 := (a5.1, a5.2.1, a5.2.2.1, ())
 let a7 := rdName a6
 let a8 := (↑(List.length (r3Cut x0).1) : Int)
 let a9 := ([100, 114, 111, 112], a7.1, [], [], [], [], [], [], ExprT.mk [] (0, 0, []) [] [], [], [], ExprT.mk [] (0, 0, []) [] [], [])
 let a10 := r5Text a9
 let a11 := rdPass a4 [73, 78, 83, 69, 82, 84]
 let a12 := (a11.2.1, a11.2.2.1, a11.2.2.2.1, ())
 let a13 := rdMust a12 [73, 78, 84, 79]
 let a14 := (a13.1, a13.2.1, a13.2.2.1, ())
 let a15 := rdName a14
 let a16 := (a15.2.1, a15.2.2.1, a15.2.2.2.1, ())
 let a17 := rdMust a16 [86, 65, 76, 85, 69, 83]
 let a18 := (a17.1, a17.2.1, a17.2.2.1, ())
 let a19 := rdPass a12 [85, 80, 68, 65, 84, 69]
 let a20 := (a19.2.1, a19.2.2.1, a19.2.2.2.1, ())
 let a21 := rdName a20
 let a22 := (a21.2.1, a21.2.2.1, a21.2.2.2.1, ())
 let a23 := rdPass a20 [68, 69, 76, 69, 84, 69]
 let a24 := (a23.2.1, a23.2.2.1, a23.2.2.2.1, ())
 let a25 := rdMust a24 [70, 82, 79, 77]
 let a26 := (a25.1, a25.2.1, a25.2.2.1, ())
 let a27 := rdName a26
 let a28 := (a27.2.1, a27.2.2.1, a27.2.2.2.1, ())
 let a29 := rdCond a28 [87, 72, 69, 82, 69]
 let a30 := ([100, 101, 108, 101, 116, 101], a27.1, [], [], [], [], [], [], ExprT.mk [] (0, 0, []) [] [], [], [], etaE a29.1, [])
 let a31 := r5Text a30
 let a32 := rdPass a24 [83, 69, 76, 69, 67, 84]
 let a33 := (a32.2.1, a32.2.2.1, a32.2.2.2.1, ())
 let a34 := rdMust a33 [42]
 let a35 := (a34.1, a34.2.1, a34.2.2.1, ())
 let a36 := rdMust a35 [70, 82, 79, 77]
 let a37 := (a36.1, a36.2.1, a36.2.2.1, ())
 let a38 := rdName a37
 let a39 := (a38.2.1, a38.2.2.1, a38.2.2.2.1, ())
 let a40 := rdCond a39 [87, 72, 69, 82, 69]
 let a41 := ([115, 101, 108, 101, 99, 116], a38.1, [], [], [], [], [], [], ExprT.mk [] (0, 0, []) [] [], [], [], etaE a40.1, [])
 let a42 := r5Text a41
 let a43 := rdPass a33 [71, 82, 65, 78, 84]
 let a44 := (a43.2.1, a43.2.2.1, a43.2.2.2.1, ())
 let a45 := rdSee a44 [82, 69, 65, 68]
 let a46 := rdPass a44 [82, 69, 86, 79, 75, 69]
 let a47 := (a46.2.1, a46.2.2.1, a46.2.2.2.1, ())
 let a48 := rdSee a47 [82, 69, 65, 68]
 let a49 := rdPass a47 [77, 73, 71, 82, 65, 84, 69]
 let a50 := (a49.2.1, a49.2.2.1, a49.2.2.2.1, ())
 let a51 := rdMig a50 ([], [], [], [], [], 0, 0, [], [], [], 0, 0, [], [], [], ())
 let a52 := (a51.2.1, a51.2.2.1, a51.2.2.2.1, a51.2.2.2.2.1, [], a51.2.2.2.2.2.1, [], [], etaE a51.2.2.2.2.2.2.1, [], [], ExprT.mk a51.2.2.2.2.2.2.2.1 (a51.2.2.2.2.2.2.2.2.1, a51.2.2.2.2.2.2.2.2.2.1, a51.2.2.2.2.2.2.2.2.2.2.1) a51.2.2.2.2.2.2.2.2.2.2.2.1 [], a51.2.2.2.2.2.2.2.2.2.2.2.2.1)
 let a53 := r5Text a52
 i65pz x0 a0 a1 a2 a3 a4 a5 a6 a7 a8 a9 a10 a11 a12 a13 a14 a15 a16 a17 a18 a19 a20 a21 a22 a23 a24 a25 a26 a27 a28 a29 a30 a31 a32 a33 a34 a35 a36 a37 a38 a39 a40 a41 a42 a43 a44 a45 a46 a47 a48 a49 a50 a51 a52 a53
def t65p_17z (l4 : LF) (_ : CSem cpSz) (z1 : CSem cpRd) (z2 : CSem cpSz) (a0 : Sem shFor.sl × CSem [CP.d shInt, CP.d Sh.bool]) (a1 : CSem cpRd) (a2 : Sem Sh.str × Sem (Sh.str.pr (Sh.str.pr (Sh.str.sl.pr (shCol.sl.pr (Sh.str.pr (Sh.str.sl.pr (shRef.sl.pr (Sh.expr.pr (shVal.sl.pr (shSet.sl.pr (Sh.expr.pr Sh.str)))))))))))) (a3 : Sem Sh.str × Sem Sh.bool) : Tr (H65p ⊕ Raw) :=
 Tr.br z1.2.2.1 Tr.err
 (Tr.chk (rdMustC a0 [41])
  (Tr.br (bif !a1.2.2.1 then true else a1.2.1 != (↑l4.length : Int)) (Tr.re (AV.tup [AV.agg [AV.str [], AV.str [], AV.str [], AV.nils, AV.nils, AV.str [], AV.nils, AV.nils, AV.str [], AV.int .i64 0, AV.int .i64 0, AV.str [], AV.str [], AV.nils, AV.nils, AV.nils, AV.str [], AV.int .i64 0, AV.int .i64 0, AV.str [], AV.str [], AV.nils, AV.str []], AV.kb false]) []) (Tr.chk (r5TextC a2)
  (Tr.br (!a3.2) (Tr.re (AV.tup [AV.agg [AV.str [], AV.str [], AV.str [], AV.nils, AV.nils, AV.str [], AV.nils, AV.nils, AV.str [], AV.int .i64 0, AV.int .i64 0, AV.str [], AV.str [], AV.nils, AV.nils, AV.nils, AV.str [], AV.int .i64 0, AV.int .i64 0, AV.str [], AV.str [], AV.nils, AV.str []], AV.kb false]) []) (Tr.re (AV.tup [AV.agg
  [AV.str z2.1, AV.str z2.2.1, AV.str z2.2.2.1, AV.nils, AV.nils, AV.str z2.2.2.2.1, AV.nils, AV.nils, AV.str z2.2.2.2.2.1, AV.int .i64 z2.2.2.2.2.2.1, AV.int .i64 z2.2.2.2.2.2.2.1, AV.str z2.2.2.2.2.2.2.2.1, AV.str z2.2.2.2.2.2.2.2.2.1, AV.nils, AV.nils, AV.nils, AV.str z2.2.2.2.2.2.2.2.2.2.1, AV.int .i64 z2.2.2.2.2.2.2.2.2.2.2.1,
  AV.int .i64 z2.2.2.2.2.2.2.2.2.2.2.2.1, AV.str z2.2.2.2.2.2.2.2.2.2.2.2.2.1, AV.str z2.2.2.2.2.2.2.2.2.2.2.2.2.2.1, AV.nils, AV.str z2.2.2.2.2.2.2.2.2.2.2.2.2.2.2.1], AV.kb true]) [])))))
def t65p_17 (l4 : LF) (z0 : CSem cpSz) (z1 : CSem cpRd) (z2 : CSem cpSz) : Tr (H65p ⊕ Raw) :=
 let a0 := (z1.1, z1.2.1, z1.2.2.1, ())
 let a1 := rdMust a0 [41]
 let a2 := (z2.1, z2.2.1, z2.2.2.1, [], [], z2.2.2.2.1, [], [], ExprT.mk z2.2.2.2.2.1 (z2.2.2.2.2.2.1, z2.2.2.2.2.2.2.1, z2.2.2.2.2.2.2.2.1) z2.2.2.2.2.2.2.2.2.1 [], [], [], ExprT.mk z2.2.2.2.2.2.2.2.2.2.1 (z2.2.2.2.2.2.2.2.2.2.2.1, z2.2.2.2.2.2.2.2.2.2.2.2.1, z2.2.2.2.2.2.2.2.2.2.2.2.2.1) z2.2.2.2.2.2.2.2.2.2.2.2.2.2.1 [], z2.2.2.2.2.2.2.2.2.2.2.2.2.2.2.1)
 let a3 := r5Text a2
 t65p_17z l4 z0 z1 z2 a0 a1 a2 a3
def t65p_25z (l4 : LF) (_ : CSem cpSz) (z1 : CSem cpRd) (z2 : CSem cpSz) (a0 : Sem shFor.sl × CSem [CP.d shInt, CP.d Sh.bool]) (a1 : Sem Sh.str × CSem cpRd) (a2 : Sem Sh.expr × CSem cpRd) (a3 : Sem Sh.str × Sem (Sh.str.pr (Sh.str.pr (Sh.str.sl.pr (shCol.sl.pr (Sh.str.pr (Sh.str.sl.pr (shRef.sl.pr (Sh.expr.pr (shVal.sl.pr (shSet.sl.pr (Sh.expr.pr Sh.str)))))))))))) (a4 : Sem Sh.str × Sem Sh.bool) : Tr (H65p ⊕ Raw) :=
 Tr.br z1.2.2.1 (Tr.chk (rdNameC a0) (Tr.chk (rdMustC (a1.2.1, a1.2.2.1, a1.2.2.2.1, ()) [61]) Tr.err))
 (Tr.chk (rdCondC a0 [87, 72, 69, 82, 69])
  (Tr.br (bif !a2.2.2.2.1 then true else a2.2.2.1 != (↑l4.length : Int)) (Tr.re (AV.tup [AV.agg [AV.str [], AV.str [], AV.str [], AV.nils, AV.nils, AV.str [], AV.nils, AV.nils, AV.str [], AV.int .i64 0, AV.int .i64 0, AV.str [], AV.str [], AV.nils, AV.nils, AV.nils, AV.str [], AV.int .i64 0, AV.int .i64 0, AV.str [], AV.str [], AV.nils, AV.str []], AV.kb false]) []) (Tr.chk (r5TextC a3)
  (Tr.br (!a4.2) (Tr.re (AV.tup [AV.agg [AV.str [], AV.str [], AV.str [], AV.nils, AV.nils, AV.str [], AV.nils, AV.nils, AV.str [], AV.int .i64 0, AV.int .i64 0, AV.str [], AV.str [], AV.nils, AV.nils, AV.nils, AV.str [], AV.int .i64 0, AV.int .i64 0, AV.str [], AV.str [], AV.nils, AV.str []], AV.kb false]) []) (Tr.re (AV.tup [AV.agg
  [AV.str z2.1, AV.str z2.2.1, AV.str z2.2.2.1, AV.nils, AV.nils, AV.str z2.2.2.2.1, AV.nils, AV.nils, AV.str z2.2.2.2.2.1, AV.int .i64 z2.2.2.2.2.2.1, AV.int .i64 z2.2.2.2.2.2.2.1, AV.str z2.2.2.2.2.2.2.2.1, AV.str z2.2.2.2.2.2.2.2.2.1, AV.nils, AV.nils, AV.nils, AV.str (ExprT.op a2.1), AV.int .i64 (ExprT.v a2.1).1, AV.int .i64 (ExprT.v a2.1).2.1,
  AV.str (ExprT.v a2.1).2.2, AV.str (ExprT.s a2.1), AV.sl Sh.expr (ExprT.l a2.1), AV.str z2.2.2.2.2.2.2.2.2.2.2.2.2.2.2.1], AV.kb true]) [])))))
def t65p_25 (l4 : LF) (z0 : CSem cpSz) (z1 : CSem cpRd) (z2 : CSem cpSz) : Tr (H65p ⊕ Raw) :=
 let a0 := (z1.1, z1.2.1, z1.2.2.1, ())
 let a1 := rdName a0
 let a2 := rdCond a0 [87, 72, 69, 82, 69]
 let a3 := (z2.1, z2.2.1, z2.2.2.1, [], [], z2.2.2.2.1, [], [], ExprT.mk z2.2.2.2.2.1 (z2.2.2.2.2.2.1, z2.2.2.2.2.2.2.1, z2.2.2.2.2.2.2.2.1) z2.2.2.2.2.2.2.2.2.1 [], [], [], etaE a2.1, z2.2.2.2.2.2.2.2.2.2.2.2.2.2.2.1)
 let a4 := r5Text a3
 t65p_25z l4 z0 z1 z2 a0 a1 a2 a3 a4
theorem go65p (x0 : TS) : run env79 0 kp65p (Func.results Tryz.f65).toList 400 (bodyOf Tryz.f65) (initSt (Func.ntmps Tryz.f65) [datum Sh.str x0] []) = (i65p x0).map (lf Tryz.f65 e65p) := by kernel_rfl
def t65p : H65p → Tr (H65p ⊕ Raw)
 | .h17 l4 z0 z1 z2 => t65p_17 l4 z0 z1 z2
 | .h25 l4 z0 z1 z2 => t65p_25 l4 z0 z1 z2
theorem on65p : ∀ s, run env79 0 kp65p (Func.results Tryz.f65).toList 400 (headK Tryz.f65 (e65p s).1) (e65p s).2 = (t65p s).map (lf Tryz.f65 e65p)
 | .h17 l4 z0 z1 z2 => by kernel_rfl
 | .h25 l4 z0 z1 z2 => by kernel_rfl
def r5ParseO (x0 : TS) : Option (HArgs (List.map some [shStmt, Sh.bool])) := outT [shStmt, Sh.bool] t65p 100000000 (i65p x0)
def r5ParseC (x0 : TS) : Bool := (r5ParseO x0).isSome
def r5Parse (x0 : TS) : Sem shStmt × Sem Sh.bool := (fun r : HArgs (List.map some [shStmt, Sh.bool]) => (r.1, r.2.1)) ((r5ParseO x0).getD (dfltH [shStmt, Sh.bool]))
def F65p : FSem := plainC [Sh.str] [shStmt, Sh.bool] (fun x => r5ParseC x.1) fun x => ((r5Parse x.1).1, (r5Parse x.1).2, ())
theorem FOk65p : FOk env79.P env79.gl 65 F65p := FOk_T1 (ks := [Sh.str]) (outs := [shStmt, Sh.bool]) (keep := kp65p) (gas := 400) (n := 100000000) (e := e65p) (t := t65p) (i := fun x => i65p x.1) env79_all env79_mix ok65p (fun x => go65p x.1) on65p (fun _ => by kernel_rfl) (fun _ => by kernel_rfl)

def env80 : Env := (env79.add 65 F65p)
theorem env80_all : EnvAll env80 := (EnvAll.addS env79_all (SameE.refl env79) FOk65p)
theorem env80_mix : env80.P.follows .mixedOrders = true := (mix_add env79_mix _ _)
end
open Go Go.Proofs
set_option maxHeartbeats 4000000

abbrev kp29p : Nat → Keep := fun _ => { }
theorem ok29p : fnChk env80.P 29 Tryz.f29 1 := by refine ⟨?_, ?_, ?_, ?_⟩ <;> kernel_rfl
noncomputable def i29p (x0 : TS) : Tr (Empty ⊕ Raw) :=
 Tr.chk (r5ParseC x0)
 (Tr.re
  (AV.agg [AV.str (r5Parse x0).1.1, AV.str (r5Parse x0).1.2.1, AV.str (r5Parse x0).1.2.2.1, AV.sl Sh.str (r5Parse x0).1.2.2.2.1, AV.sl shCol (r5Parse x0).1.2.2.2.2.1, AV.str (r5Parse x0).1.2.2.2.2.2.1, AV.sl Sh.str (r5Parse x0).1.2.2.2.2.2.2.1, AV.sl (Sh.str.pr Sh.str) (r5Parse x0).1.2.2.2.2.2.2.2.1, AV.str (ExprT.op (r5Parse x0).1.2.2.2.2.2.2.2.2.1),
  AV.int .i64 (ExprT.v (r5Parse x0).1.2.2.2.2.2.2.2.2.1).1, AV.int .i64 (ExprT.v (r5Parse x0).1.2.2.2.2.2.2.2.2.1).2.1, AV.str (ExprT.v (r5Parse x0).1.2.2.2.2.2.2.2.2.1).2.2, AV.str (ExprT.s (r5Parse x0).1.2.2.2.2.2.2.2.2.1), AV.sl Sh.expr (ExprT.l (r5Parse x0).1.2.2.2.2.2.2.2.2.1), AV.sl shVal (r5Parse x0).1.2.2.2.2.2.2.2.2.2.1, AV.sl (Sh.str.pr Sh.expr) (r5Parse x0).1.2.2.2.2.2.2.2.2.2.2.1,
  AV.str (ExprT.op (r5Parse x0).1.2.2.2.2.2.2.2.2.2.2.2.1), AV.int .i64 (ExprT.v (r5Parse x0).1.2.2.2.2.2.2.2.2.2.2.2.1).1, AV.int .i64 (ExprT.v (r5Parse x0).1.2.2.2.2.2.2.2.2.2.2.2.1).2.1, AV.str (ExprT.v (r5Parse x0).1.2.2.2.2.2.2.2.2.2.2.2.1).2.2, AV.str (ExprT.s (r5Parse x0).1.2.2.2.2.2.2.2.2.2.2.2.1), AV.sl Sh.expr (ExprT.l (r5Parse x0).1.2.2.2.2.2.2.2.2.2.2.2.1),
  AV.str (r5Parse x0).1.2.2.2.2.2.2.2.2.2.2.2.2])
  [])
theorem go29p (x0 : TS) : run env80 0 kp29p (Func.results Tryz.f29).toList 400 (bodyOf Tryz.f29) (initSt (Func.ntmps Tryz.f29) [datum Sh.str x0] []) = (i29p x0).map (lf Tryz.f29 e0) := by kernel_rfl
noncomputable def l8OfO (x0 : TS) : Option (HArgs (List.map some [shStmt])) := outT [shStmt] t0 100000000 (i29p x0)
noncomputable def l8OfC (x0 : TS) : Bool := (l8OfO x0).isSome
noncomputable def l8Of (x0 : TS) : Sem shStmt := (fun r : HArgs (List.map some [shStmt]) => r.1) ((l8OfO x0).getD (dfltH [shStmt]))
noncomputable def F29p : FSem := plainC [Sh.str] [shStmt] (fun x => l8OfC x.1) fun x => (l8Of x.1, ())
theorem FOk29p : FOk env80.P env80.gl 29 F29p := FOk_T1 (ks := [Sh.str]) (outs := [shStmt]) (keep := kp29p) (gas := 400) (n := 100000000) (e := e0) (t := t0) (i := fun x => i29p x.1) env80_all env80_mix ok29p (fun x => go29p x.1) (on0 _ _ _ _ _) (fun _ => by kernel_rfl) (fun _ => by kernel_rfl)

noncomputable def env81 : Env := (env80.add 29 F29p)
theorem env81_all : EnvAll env81 := (EnvAll.addS env80_all (SameE.refl env80) FOk29p)
theorem env81_mix : env81.P.follows .mixedOrders = true := (mix_add env80_mix _ _)
open Go Go.Proofs
set_option maxHeartbeats 4000000

abbrev kp10p : Nat → Keep := fun _ => { }
theorem ok10p : fnChk env81.P 10 Tryz.f10 0 := by refine ⟨?_, ?_, ?_, ?_⟩ <;> kernel_rfl
noncomputable def i10p : Tr (Empty ⊕ Raw) :=
 Tr.chk true (Tr.chk true (Tr.chk true (Tr.chk true (Tr.chk true (Tr.chk true (Tr.chk true (Tr.re (AV.bool true) [])))))))
theorem go10p : run env81 0 kp10p (Func.results Tryz.f10).toList 400 (bodyOf Tryz.f10) (initSt (Func.ntmps Tryz.f10) [] []) = (i10p).map (lf Tryz.f10 e0) := by kernel_rfl
noncomputable def awakeO : Option (HArgs (List.map some [Sh.bool])) := outT [Sh.bool] t0 100000000 (i10p)
noncomputable def awakeC : Bool := (awakeO).isSome
noncomputable def awake : Sem Sh.bool := (fun r : HArgs (List.map some [Sh.bool]) => r.1) ((awakeO).getD (dfltH [Sh.bool]))
noncomputable def F10p : FSem := plainC [] [Sh.bool] (fun _ => awakeC) fun _ => (awake, ())
theorem FOk10p : FOk env81.P env81.gl 10 F10p := FOk_T1 (ks := []) (outs := [Sh.bool]) (keep := kp10p) (gas := 400) (n := 100000000) (e := e0) (t := t0) (i := fun x => i10p) env81_all env81_mix ok10p (fun x => go10p) (on0 _ _ _ _ _) (fun _ => by kernel_rfl) (fun _ => by kernel_rfl)

noncomputable def env82 : Env := (env81.add 10 F10p)
theorem env82_all : EnvAll env82 := (EnvAll.addS env81_all (SameE.refl env81) FOk10p)
theorem env82_mix : env82.P.follows .mixedOrders = true := (mix_add env81_mix _ _)
theorem awake_true : awakeO = some (true, ()) := by kernel_rfl
open Go Go.Proofs

theorem p96 : env96.P = Tryz.prog := rfl
theorem g96 : env96.gl = glOf := rfl
theorem p82 : env82.P = Tryz.prog := rfl
theorem g82 : env82.gl = glOf := rfl
theorem same9682 : SameE env82 env96 := ⟨p82.trans p96.symm, g82.trans g96.symm⟩
noncomputable def env98 : Env := (env82.add 19 F19p)
theorem env98_all : EnvAll env98 := (EnvAll.addS env82_all same9682 FOk19p)
theorem env98_mix : env98.P.follows .mixedOrders = true := (mix_add env82_mix _ _)
open Go Go.Proofs
noncomputable section
set_option maxHeartbeats 4000000
abbrev cpP : List CP := [.d shPlan]

abbrev kp6p : Nat → Keep := fun j => if j = 9 then { slots := [5, 7, 9] } else if j = 13 then { slots := [5, 7, 9, 10, 11] } else { }
inductive H6p where
 | h9 (l7 : List (Sem shRel)) (i9 : Int) (z0 : CSem cpP)
 | h13 (l7 : List (Sem shRel)) (i9 : Int) (i11 : Int) (z0 : CSem cpP)
 | h13b (l7 : List (Sem shRel)) (i9 : Int) (b10 : Bool) (i11 : Int) (z0 : CSem cpP)
abbrev e6p : H6p → Nat × St
 | .h9 l7 i9 z0 => (9, ⟨tm 146 [(5, AV.ptr 0 0), (7, AV.sl shRel l7), (9, AV.int .i64 i9)], [AO.box (cpN [] cpP z0)]⟩)
 | .h13 l7 i9 i11 z0 => (13, ⟨tm 146 [(5, AV.ptr 0 0), (7, AV.sl shRel l7), (9, AV.int .i64 i9), (10, AV.kb false), (11, AV.int .i64 i11)], [AO.box (cpN [] cpP z0)]⟩)
 | .h13b l7 i9 b10 i11 z0 => (13, ⟨tm 146 [(5, AV.ptr 0 0), (7, AV.sl shRel l7), (9, AV.int .i64 i9), (10, AV.bool b10), (11, AV.int .i64 i11)], [AO.box (cpN [] cpP z0)]⟩)
theorem ok6p : fnChk env98.P 6 Tryz.f6 2 := by refine ⟨?_, ?_, ?_, ?_⟩ <;> kernel_rfl
def i6pz (x0 : Sem shRel.sl) (_ : Sem shStmt) (a0 : Sem Sh.str × Sem (Sh.str.pr (Sh.str.pr (Sh.str.sl.pr (shCol.sl.pr (Sh.str.pr (Sh.str.sl.pr (shRef.sl.pr (Sh.expr.pr (shVal.sl.pr (shSet.sl.pr (Sh.expr.pr Sh.str)))))))))))) (_ : Sem shStmt) (a2 : Sem Sh.str × Sem (Sh.str.pr (Sh.str.pr (Sh.str.sl.pr (shCol.sl.pr (Sh.str.pr (Sh.str.sl.pr (shRef.sl.pr (Sh.expr.pr (shVal.sl.pr (shSet.sl.pr (Sh.expr.pr Sh.str)))))))))))) (a3 : Sem shPlan × Sem shInt) (a4 : Int) (a5 : Bool) (a6 : Sem Sh.str × Sem (Sh.str.pr (Sh.str.pr (shTable.pr (shInt.sl.pr shInt))))) (a7 : Sem shRel.sl × Sem shInt) : Tr (H6p ⊕ Raw) :=
 Tr.chk (l8FewC x0)
 (Tr.chk (l5FewC a0)
  (Tr.chk (pOfC (l8Few x0) a2) (Tr.br (a3.2 != 0) (Tr.chk (bif a5 then awakeC else true) (Tr.re (AV.bool (bif a5 then awake else false)) [])) (Tr.chk (pTakeC a6 (l8Few x0)) (Tr.br (bif a7.2 != 0 then true else bif (↑(List.length a7.1) : Int) == 0 then true else bif decide (a3.1.2.2.2.1.2.2.1 < 0) then true else bif decide (a3.1.2.2.2.1.2.2.1 ≥ a4) then true else IntKind.i64.wrap
  ((↑(List.length a3.1.2.2.2.1.2.2.2.1) : Int) + (↑(List.length a3.1.2.2.2.1.2.2.2.2.1) : Int)) != 0) (Tr.re (AV.kb false) []) (Tr.to (H6p.h9 a7.1 0 (a3.1, ()))))))))
def i6p (x0 : Sem shRel.sl) (x1 : Sem shStmt) : Tr (H6p ⊕ Raw) :=
 let a0 := (x1.1, x1.2.1, x1.2.2.1, x1.2.2.2.1, x1.2.2.2.2.1, x1.2.2.2.2.2.1, x1.2.2.2.2.2.2.1, x1.2.2.2.2.2.2.2.1, etaE x1.2.2.2.2.2.2.2.2.1, x1.2.2.2.2.2.2.2.2.2.1, x1.2.2.2.2.2.2.2.2.2.2.1, etaE x1.2.2.2.2.2.2.2.2.2.2.2.1, x1.2.2.2.2.2.2.2.2.2.2.2.2)
 let a1 := l5Few a0
 let a2 := (a1.1, a1.2.1, a1.2.2.1, a1.2.2.2.1, a1.2.2.2.2.1, a1.2.2.2.2.2.1, a1.2.2.2.2.2.2.1, a1.2.2.2.2.2.2.2.1, etaE a1.2.2.2.2.2.2.2.2.1, a1.2.2.2.2.2.2.2.2.2.1, a1.2.2.2.2.2.2.2.2.2.2.1, etaE a1.2.2.2.2.2.2.2.2.2.2.2.1, a1.2.2.2.2.2.2.2.2.2.2.2.2)
 let a3 := pOf (l8Few x0) a2
 let a4 := (↑(List.length a3.1.2.2.2.1.2.1) : Int)
 let a5 := a4 == 0
 let a6 := (a3.1.1, a3.1.2.1, a3.1.2.2.1, (a3.1.2.2.2.1.1, a3.1.2.2.2.1.2.1, a3.1.2.2.2.1.2.2.1, a3.1.2.2.2.1.2.2.2.1, a3.1.2.2.2.1.2.2.2.2.1, etaE a3.1.2.2.2.1.2.2.2.2.2), a3.1.2.2.2.2)
 let a7 := pTake a6 (l8Few x0)
 i6pz x0 x1 a0 a1 a2 a3 a4 a5 a6 a7
def t6p_9z (l7 : List (Sem shRel)) (i9 : Int) (z0 : CSem cpP) (a0 : Int) (_ : Sem shRel) (_ : Sem shCol) (_ : Sem shInt) (a4 : Bool) : Tr (H6p ⊕ Raw) :=
 Tr.br (decide (i9 < a0)) (Tr.to (H6p.h13 l7 i9 0 z0))
 (Tr.chk (inB 0 l7.length && (inB z0.1.2.2.2.1.2.2.1 (List.length z0.1.2.2.2.1.2.1) && bif a4 then awakeC else true))
  (Tr.re (AV.bool (bif a4 then awake else false)) []))
def t6p_9 (l7 : List (Sem shRel)) (i9 : Int) (z0 : CSem cpP) : Tr (H6p ⊕ Raw) :=
 let a0 := (↑(List.length z0.1.2.2.2.1.2.1) : Int)
 let a1 := l7.getD (Int.toNat 0) (dflt shRel)
 let a2 := List.getD z0.1.2.2.2.1.2.1 (Int.toNat z0.1.2.2.2.1.2.2.1) (dflt shCol)
 let a3 := tPlace (a1.1.1, a1.1.2.1, a1.1.2.2.1, a1.1.2.2.2.1, a1.1.2.2.2.2.1, etaE a1.1.2.2.2.2.2) a2.1
 let a4 := decide (a3 ≥ 0)
 t6p_9z l7 i9 z0 a0 a1 a2 a3 a4
def t6p_13z (l7 : List (Sem shRel)) (i9 : Int) (i11 : Int) (z0 : CSem cpP) (a0 : Bool) (a1 : Sem shRel) (a2 : Sem shCol) (a3 : Sem shInt) (a4 : Bool) (a5 : Sem shCol) : Tr (H6p ⊕ Raw) :=
 Tr.br (decide (i11 < (↑l7.length : Int)))
 (Tr.chk (inB i11 l7.length)
  (Tr.chk a0 (Tr.chk (bif a4 then inB i11 l7.length && (inB a3 (List.length a1.1.2.1) && a0) else true) (Tr.to (H6p.h13b l7 i9 (bif a4 then a5.2.1 == a2.2.1 else false) (IntKind.i64.wrap (i11 + 1)) z0)))))
 (Tr.re (AV.kb false) [])
def t6p_13 (l7 : List (Sem shRel)) (i9 : Int) (i11 : Int) (z0 : CSem cpP) : Tr (H6p ⊕ Raw) :=
 let a0 := inB i9 (List.length z0.1.2.2.2.1.2.1)
 let a1 := l7.getD i11.toNat (dflt shRel)
 let a2 := List.getD z0.1.2.2.2.1.2.1 i9.toNat (dflt shCol)
 let a3 := tPlace (a1.1.1, a1.1.2.1, a1.1.2.2.1, a1.1.2.2.2.1, a1.1.2.2.2.2.1, etaE a1.1.2.2.2.2.2) a2.1
 let a4 := decide (a3 ≥ 0)
 let a5 := List.getD a1.1.2.1 (Int.toNat a3) (dflt shCol)
 t6p_13z l7 i9 i11 z0 a0 a1 a2 a3 a4 a5
def t6p_13bz (l7 : List (Sem shRel)) (i9 : Int) (b10 : Bool) (i11 : Int) (z0 : CSem cpP) (a0 : Bool) (a1 : Sem shRel) (a2 : Sem shCol) (a3 : Sem shInt) (a4 : Bool) (a5 : Sem shCol) : Tr (H6p ⊕ Raw) :=
 Tr.br (decide (i11 < (↑l7.length : Int)))
 (Tr.chk (inB i11 l7.length)
  (Tr.chk a0 (Tr.chk (bif b10 then true else bif a4 then inB i11 l7.length && (inB a3 (List.length a1.1.2.1) && a0) else true) (Tr.to (H6p.h13b l7 i9 (bif b10 then true else bif a4 then a5.2.1 == a2.2.1 else false) (IntKind.i64.wrap (i11 + 1)) z0)))))
 (Tr.br (!b10) (Tr.re (AV.kb false) []) (Tr.to (H6p.h9 l7 (IntKind.i64.wrap (i9 + 1)) z0)))
def t6p_13b (l7 : List (Sem shRel)) (i9 : Int) (b10 : Bool) (i11 : Int) (z0 : CSem cpP) : Tr (H6p ⊕ Raw) :=
 let a0 := inB i9 (List.length z0.1.2.2.2.1.2.1)
 let a1 := l7.getD i11.toNat (dflt shRel)
 let a2 := List.getD z0.1.2.2.2.1.2.1 i9.toNat (dflt shCol)
 let a3 := tPlace (a1.1.1, a1.1.2.1, a1.1.2.2.1, a1.1.2.2.2.1, a1.1.2.2.2.2.1, etaE a1.1.2.2.2.2.2) a2.1
 let a4 := decide (a3 ≥ 0)
 let a5 := List.getD a1.1.2.1 (Int.toNat a3) (dflt shCol)
 t6p_13bz l7 i9 b10 i11 z0 a0 a1 a2 a3 a4 a5
theorem go6p (x0 : Sem shRel.sl) (x1 : Sem shStmt) : run env98 0 kp6p (Func.results Tryz.f6).toList 400 (bodyOf Tryz.f6) (initSt (Func.ntmps Tryz.f6) [datum shRel.sl x0, datum shStmt x1] []) = (i6p x0 x1).map (lf Tryz.f6 e6p) := by kernel_rfl
def t6p : H6p → Tr (H6p ⊕ Raw)
 | .h9 l7 i9 z0 => t6p_9 l7 i9 z0
 | .h13 l7 i9 i11 z0 => t6p_13 l7 i9 i11 z0
 | .h13b l7 i9 b10 i11 z0 => t6p_13b l7 i9 b10 i11 z0
theorem on6p : ∀ s, run env98 0 kp6p (Func.results Tryz.f6).toList 400 (headK Tryz.f6 (e6p s).1) (e6p s).2 = (t6p s).map (lf Tryz.f6 e6p)
 | .h9 l7 i9 z0 => by kernel_rfl
 | .h13 l7 i9 i11 z0 => by kernel_rfl
 | .h13b l7 i9 b10 i11 z0 => by kernel_rfl
def lColumnsO (x0 : Sem shRel.sl) (x1 : Sem shStmt) : Option (HArgs (List.map some [Sh.bool])) := outT [Sh.bool] t6p 100000000 (i6p x0 x1)
def lColumnsC (x0 : Sem shRel.sl) (x1 : Sem shStmt) : Bool := (lColumnsO x0 x1).isSome
def lColumns (x0 : Sem shRel.sl) (x1 : Sem shStmt) : Sem Sh.bool := (fun r : HArgs (List.map some [Sh.bool]) => r.1) ((lColumnsO x0 x1).getD (dfltH [Sh.bool]))
def F6p : FSem := plainC [shRel.sl, shStmt] [Sh.bool] (fun x => lColumnsC x.1 x.2.1) fun x => (lColumns x.1 x.2.1, ())
theorem FOk6p : FOk env98.P env98.gl 6 F6p := FOk_T1 (ks := [shRel.sl, shStmt]) (outs := [Sh.bool]) (keep := kp6p) (gas := 400) (n := 100000000) (e := e6p) (t := t6p) (i := fun x => i6p x.1 x.2.1) env98_all env98_mix ok6p (fun x => go6p x.1 x.2.1) on6p (fun _ => by kernel_rfl) (fun _ => by kernel_rfl)

def env99 : Env := (env98.add 6 F6p)
end
open Go

abbrev U0 : Nat → Prop := fun _ => False
abbrev rhoN : Nat → Option Value := fun _ => none

def tyF (P : Program) (T : TypeId → Sh → Bool) : List Field → Nat → Sh → Bool
 | [], _, _ => false
 | [f], off, s => f.offset == off && (T f.type s && P.cellsOf f.type == s.size)
 | f :: fs, off, .pr a b => f.offset == off && (T f.type a && (P.cellsOf f.type == a.size && tyF P T fs (off + a.size) b))
 | _, _, _ => false

def isStrT1 (P : Program) (t : TypeId) : Bool := match P.underlying t with
 | some .string => P.cellsOf t == 1
 | _ => false

def isSlT (P : Program) (t e : TypeId) : Bool := match P.underlying t with
 | some (.slice u) => u == e && P.cellsOf t == 1
 | _ => false

def tyB (P : Program) : Nat → TypeId → Sh → Bool
 | 0, _, _ => false
 | n + 1, t, s => match P.underlying t, s with
  | some .bool, .bool => true
  | some (.int k), .int k' => k == k'
  | some .string, .str => true
  | some (.slice e), .sl s => P.cellsOf e == s.size && (decide (0 < s.size) && tyB P n e s)
  | some (.struct fs), .expr => match fs.toList with
   | [a, b, c, d] => P.cellsOf t == 6 && (a.offset == 0 && (b.offset == 1 && (c.offset == 4 && (d.offset == 5 && (isStrT1 P a.type && (isStrT1 P c.type && (isSlT P d.type t && (P.cellsOf b.type == 3 && tyB P n b.type (.pr (.int .i64) (.pr (.int .i64) .str))))))))))
   | _ => false
  | some (.struct fs), .pr a b => P.cellsOf t == (Sh.pr a b).size && tyF P (tyB P n) fs.toList 0 (.pr a b)
  | _, _ => false

section
variable {H : Type} {enc : TypeId × Value → H} {P : Program} {w : World} {sp : Nat → Bool} {held : Bool}

def Got (w : World) (s : Sh) (cs : List Value) : Prop := ∃ x : Sem s, RvL w U0 rhoN (explode s x) cs ∧ ∀ v ∈ cs, v.oneCell' = true

theorem mapM_cons_some {α β : Type} {f : α → Option β} {a : α} {l : List α} {r : List β} (h : (a :: l).mapM f = some r) : ∃ y ys, f a = some y ∧ l.mapM f = some ys ∧ r = y :: ys := by
 rw [List.mapM_cons] at h
 cases hy : f a with
 | none => rw [hy] at h; simp at h
 | some y =>
  cases hys : l.mapM f with
  | none => rw [hy, hys] at h; simp at h
  | some ys =>
   rw [hy, hys] at h
   simp at h
   exact ⟨y, ys, rfl, rfl, h.symm⟩

theorem mapM_mem {α β : Type} {f : α → Option β} : ∀ {l : List α} {r : List β}, l.mapM f = some r → ∀ x ∈ l, ∃ y, f x = some y
 | [], _, _, _, hx => by simp at hx
 | a :: l, r, h, x, hx => by
  obtain ⟨y, ys, h1, h2, _⟩ := mapM_cons_some h
  rcases List.mem_cons.1 hx with rfl | hx
  ·exact ⟨y, h1⟩
  ·exact mapM_mem h2 x hx

theorem mapM_get {α β : Type} {f : α → Option β} : ∀ {l : List α} {r : List β}, l.mapM f = some r → r.length = l.length ∧ ∀ (i : Nat) a, l[i]? = some a → f a = r[i]?
 | [], r, h => by simp at h; subst h; simp
 | a :: l, r, h => by
  obtain ⟨y, ys, h1, h2, rfl⟩ := mapM_cons_some h
  obtain ⟨h3, h4⟩ := mapM_get h2
  refine ⟨by simp [h3], fun i b hi => ?_⟩
  cases i with
  | zero => simp at hi; subst hi; simpa using h1
  | succ i => simpa using h4 i b (by simpa using hi)

theorem addr_add (a : Addr) (h : a.spot = none) (n : Nat) : a.add n = ⟨a.block, a.off + n, none⟩ := by
 obtain ⟨b, o, s⟩ := a
 simp only at h
 subst h
 unfold Addr.add
 split
 ·rename_i h; subst h; rfl
 ·rfl

theorem RvL.take {cs : List AV} {vs : List Value} (h : RvL w U0 rhoN cs vs) (n : Nat) : RvL w U0 rhoN (cs.take n) (vs.take n) := by
 refine ⟨by simp [h.len], fun j c v hc hv => ?_⟩
 rw [List.getElem?_take] at hc hv
 split at hc
 ·rename_i hj
  rw [if_pos hj] at hv
  exact h.rv j c v hc hv
 ·cases hc

theorem RvL.appS {a b : List AV} {x y : List Value} (h : RvL w U0 rhoN a x) (h' : RvL w U0 rhoN b y) : RvL w U0 rhoN (a ++ b) (x ++ y) := by
 refine ⟨by simp [h.len, h'.len], fun j c v hc hv => ?_⟩
 by_cases hj : j < a.length
 ·rw [List.getElem?_append_left hj] at hc
  rw [List.getElem?_append_left (by rw [← h.len]; exact hj)] at hv
  exact h.rv j c v hc hv
 ·rw [List.getElem?_append_right (by omega)] at hc
  rw [List.getElem?_append_right (by rw [← h.len]; omega), ← h.len] at hv
  exact h'.rv _ c v hc hv

theorem RvL.one {c : AV} {v : Value} (h : Rv w U0 rhoN c v) : RvL w U0 rhoN [c] [v] := by
 refine ⟨rfl, fun j d u hd hu => ?_⟩
 cases j with
 | zero => simp at hd hu; subst hd; subst hu; exact h
 | succ j => simp at hd

theorem fields_got {fuel : Nat} {T : TypeId → Sh → Bool} (hT : ∀ t s cs d ps, T t s = true → DataW.trod enc P w 0 sp held fuel t cs = some (d, ps) → Got w s cs) {cs : List Value} :
  ∀ (fl : List Field) (off : Nat) (s : Sh) xs, tyF P T fl off s = true → (fl.mapM fun f => DataW.trod enc P w 0 sp held fuel f.type ((cs.drop f.offset).take (P.cellsOf f.type))) = some xs → Got w s ((cs.drop off).take s.size)
 | [], _, _, _, h, _ => by simp [tyF] at h
 | [f], off, s, xs, h, hm => by
  simp only [tyF, Bool.and_eq_true, beq_iff_eq] at h
  obtain ⟨h1, h2, h3⟩ := h
  obtain ⟨y, ys, hy, _, _⟩ := mapM_cons_some hm
  rw [h1, h3] at hy
  exact hT _ _ _ _ _ h2 hy
 | f :: g :: fs, off, .pr a b, xs, h, hm => by
  simp only [tyF, Bool.and_eq_true, beq_iff_eq] at h
  obtain ⟨h1, h2, h3, h4⟩ := h
  obtain ⟨y, ys, hy, hys, _⟩ := mapM_cons_some hm
  rw [h1, h3] at hy
  obtain ⟨x1, r1, o1⟩ := hT _ _ _ _ _ h2 hy
  obtain ⟨x2, r2, o2⟩ := fields_got hT (g :: fs) (off + a.size) b ys h4 hys
  have hl1 : ((cs.drop off).take a.size).length = a.size := by rw [← r1.len, explode_length]
  have hsplit : (cs.drop off).take (a.size + b.size) = (cs.drop off).take a.size ++ (cs.drop (off + a.size)).take b.size := by
   rw [List.take_add, List.drop_drop]
  refine ⟨(x1, x2), ?_, ?_⟩
  ·show RvL w U0 rhoN (explode a x1 ++ explode b x2) ((cs.drop off).take (a.size + b.size))
   rw [hsplit]
   exact r1.appS r2
  ·intro v hv
   have hv : v ∈ (cs.drop off).take (a.size + b.size) := hv
   rw [hsplit, List.mem_append] at hv
   exact hv.elim (o1 v) (o2 v)
 | _ :: _ :: _, _, .unit, _, h, _ => by simp [tyF] at h
 | _ :: _ :: _, _, .bool, _, h, _ => by simp [tyF] at h
 | _ :: _ :: _, _, .int _, _, h, _ => by simp [tyF] at h
 | _ :: _ :: _, _, .str, _, h, _ => by simp [tyF] at h
 | _ :: _ :: _, _, .sl _, _, h, _ => by simp [tyF] at h
 | _ :: _ :: _, _, .expr, _, h, _ => by simp [tyF] at h

theorem slice_got {fuel : Nat} {t e : TypeId} {s : Sh} (ht : P.underlying t = some (.slice e)) (hc : P.cellsOf e = s.size) (hpos : 0 < s.size)
  (hT : ∀ cs d ps, DataW.trod enc P w 0 sp held fuel e cs = some (d, ps) → Got w s cs) {cs : List Value} {d : DataW H} {ps : List MemPlace} (h : DataW.trod enc P w 0 sp held (fuel + 1) t cs = some (d, ps)) : Got w (.sl s) cs := by
 unfold DataW.trod at h
 rw [ht] at h
 split at h
 all_goals first
  | (rename_i hu; cases hu; done)
  | (rename_i hu _; cases hu; done)
  | (simp at h; done)
  | skip
 ·rename_i hu
  cases hu
  exact ⟨[], RvL.one (.sl0 s none 0), by simp [Value.oneCell']⟩
 ·rename_i a len cap hu
  cases hu
  simp only [Nat.zero_le, true_and] at h
  split at h
  ·rename_i hcond
   rw [Option.bind_eq_some_iff] at h
   obtain ⟨elems, he, _⟩ := h
   have hall : ∀ i, ∃ x : Sem s, i < len → ∃ ci, w.cells? 0 (a.add (i * s.size)) s.size = some ci ∧ RvL w U0 rhoN (explode s x) ci := by
    intro i
    by_cases hi : i < len
    ·obtain ⟨y, hy⟩ := mapM_mem he i (by simpa using hi)
     rw [Option.bind_eq_some_iff] at hy
     obtain ⟨ci, h1, h2⟩ := hy
     obtain ⟨x, hx, _⟩ := hT ci y.1 y.2 h2
     rw [hc] at h1
     exact ⟨x, fun _ => ⟨ci, h1, hx⟩⟩
    ·exact ⟨dflt s, fun h => (hi h).elim⟩
   obtain ⟨X, hX⟩ := Classical.axiomOfChoice hall
   have hmax : maxLen = maxStr := rfl
   cases len with
   | zero => exact ⟨[], RvL.one (.sl0 s (some a) cap), by simp [Value.oneCell']⟩
   | succ len =>
    have hcell : ∀ i, i < len + 1 → ∃ ci, ci.length = s.size ∧ (∀ j, j < s.size → w.cell? ((a.add (i * s.size)).add j) = ci[j]?) ∧ RvL w U0 rhoN (explode s (X i)) ci := by
     intro i hi
     obtain ⟨ci, h1, h2⟩ := hX i hi
     unfold World.cells? at h1
     rw [if_pos (Nat.zero_le _)] at h1
     obtain ⟨h3, h4⟩ := mapM_get h1
     refine ⟨ci, by simpa using h3, fun j hj => ?_, h2⟩
     exact h4 j j (by simp [hj])
    have hspot : a.spot = none := by
     obtain ⟨ci, h1, h2, _⟩ := hcell 0 (by omega)
     have := h2 0 hpos
     simp only [Nat.zero_mul, Addr.add, if_true] at this
     rw [List.getElem?_eq_getElem (by omega)] at this
     unfold World.cell? at this
     split at this
     ·split at this
      ·cases this
      ·rename_i hs
       cases hsp : a.spot with
       | none => rfl
       | some q => rw [hsp] at hs; simp at hs
     ·cases this
    have hblk : a.block < w.heap.size := by
     obtain ⟨ci, h1, h2, _⟩ := hcell 0 (by omega)
     have := h2 0 hpos
     simp only [Nat.zero_mul, Addr.add, if_true] at this
     rw [List.getElem?_eq_getElem (by omega)] at this
     have ha : a = ⟨a.block, a.off, none⟩ := by rw [← hspot]
     rw [ha] at this
     exact cell_lt this
    have hci : ∀ i, ∃ ci : List Value, i < len + 1 → ci.length = s.size ∧ (∀ j, j < s.size → w.cell? ⟨a.block, a.off + i * s.size + j, none⟩ = ci[j]?) ∧ RvL w U0 rhoN (explode s (X i)) ci := by
     intro i
     by_cases hi : i < len + 1
     ·obtain ⟨ci, h1, h2, h3⟩ := hcell i hi
      refine ⟨ci, fun _ => ⟨h1, fun j hj => ?_, h3⟩⟩
      rw [← h2 j hj, addr_add a hspot, addr_add _ rfl]
     ·exact ⟨[], fun h => (hi h).elim⟩
    obtain ⟨Cs, hCs⟩ := Classical.axiomOfChoice hci
    let l : List (Sem s) := (List.range (len + 1)).map X
    have hl : l.length = len + 1 := by simp [l]
    have hget : ∀ i (hi : i < l.length), l[i] = X i := by intro i hi; simp [l]
    refine ⟨l, RvL.one ?_, by simp [Value.oneCell']⟩
    have ha : a = ⟨a.block, a.off, none⟩ := by rw [← hspot]
    rw [ha, ← hl]
    refine .sl s l a.block a.off cap (fun i j => ((Cs i)[j]?).getD undef) (by omega) (by omega) hblk (fun h => h) ?_ ?_
    ·intro i j hi hj
     obtain ⟨h1, h2, _⟩ := hCs i (by omega)
     rw [h2 j hj, List.getElem?_eq_getElem (by omega)]
     rfl
    ·intro i hi j c hc'
     obtain ⟨h1, _, h3⟩ := hCs i (by omega)
     rw [hget i hi] at hc'
     have hj : j < (Cs i).length := by
      have := (List.getElem?_eq_some_iff.1 hc').1
      rw [h3.len] at this
      exact this
     have := h3.rv j c _ hc' (List.getElem?_eq_getElem hj)
     rw [List.getElem?_eq_getElem hj]
     exact this
  ·cases h

theorem str_got {fuel : Nat} {t : TypeId} (ht : P.underlying t = some .string) {cs : List Value} {d : DataW H} {ps : List MemPlace} (h : DataW.trod enc P w 0 sp held fuel t cs = some (d, ps)) : Got w .str cs := by
 cases fuel with
 | zero => simp [DataW.trod] at h
 | succ fuel =>
  unfold DataW.trod at h
  rw [ht] at h
  split at h
  all_goals first
   | (rename_i hu; cases hu; done)
   | (rename_i hu _; cases hu; done)
   | (simp at h; done)
   | skip
  rename_i s hu
  split at h
  ·rename_i hs
   refine ⟨s.data.toList, RvL.one ?_, by simp [Value.oneCell']⟩
   have h9 : maxLen = maxStr := rfl
   have h8 : s.size = s.data.toList.length := rfl
   exact .str s.data.toList (by omega)
  ·cases h

theorem isStrT1_ok {t : TypeId} (h : isStrT1 P t = true) : P.underlying t = some .string ∧ P.cellsOf t = 1 := by
 unfold isStrT1 at h
 split at h
 ·rename_i hu; exact ⟨hu, by simpa using h⟩
 ·cases h

theorem isSlT_ok {t e : TypeId} (h : isSlT P t e = true) : P.underlying t = some (.slice e) ∧ P.cellsOf t = 1 := by
 unfold isSlT at h
 split at h
 ·rename_i u hu
  simp only [Bool.and_eq_true, beq_iff_eq] at h
  rw [← h.1]
  exact ⟨hu, h.2⟩
 ·cases h

theorem trod_got : ∀ (fuel n : Nat) (t : TypeId) (s : Sh) (cs : List Value) (d : DataW H) (ps : List MemPlace), tyB P n t s = true → DataW.trod enc P w 0 sp held fuel t cs = some (d, ps) → Got w s cs
 | 0, _, _, _, _, _, _, _, h => by simp [DataW.trod] at h
 | fuel + 1, 0, _, _, _, _, _, hty, _ => by simp [tyB] at hty
 | fuel + 1, n + 1, t, s, cs, d, ps, hty, h => by
  have h0 := h
  unfold tyB at hty
  split at hty
  ·rename_i hu
   unfold DataW.trod at h
   rw [hu] at h
   split at h
   all_goals first
    | (rename_i hu'; cases hu'; done)
    | (rename_i hu' _; cases hu'; done)
    | (simp at h; done)
    | skip
   exact ⟨_, RvL.one (.bool _), by simp [Value.oneCell']⟩
  ·rename_i k k' hu
   have hk : k = k' := by simpa using hty
   subst hk
   unfold DataW.trod at h
   rw [hu] at h
   split at h
   all_goals first
    | (rename_i hu'; cases hu'; done)
    | (rename_i hu' _; cases hu'; done)
    | (simp at h; done)
    | skip
   rename_i k1 k2 m hu'
   cases hu'
   split at h
   ·rename_i hw
    obtain ⟨rfl, hw⟩ := hw
    simp only [Lit.wf, Bool.and_eq_true, decide_eq_true_eq] at hw
    exact ⟨m, RvL.one (.int _ _ ⟨hw.1, hw.2⟩), by simp [Value.oneCell']⟩
   ·cases h
  ·rename_i hu
   exact str_got hu h
  ·rename_i e s hu
   simp only [Bool.and_eq_true, beq_iff_eq, decide_eq_true_eq] at hty
   exact slice_got hu hty.1 hty.2.1 (fun cs d ps h => trod_got fuel n e s cs d ps hty.2.2 h) h
  ·rename_i fs hu
   split at hty
   ·rename_i a b c d' hfs
    simp only [Bool.and_eq_true, beq_iff_eq] at hty
    obtain ⟨hsz, ha, hb, hc, hd, sa, sc, sd, zb, tb⟩ := hty
    obtain ⟨sa, za⟩ := isStrT1_ok sa
    obtain ⟨sc, zc⟩ := isStrT1_ok sc
    obtain ⟨sd, zd⟩ := isSlT_ok sd
    unfold DataW.trod at h
    rw [hu] at h
    simp only at h
    split at h
    ·rename_i hlen
     rw [Option.map_eq_some_iff] at h
     obtain ⟨xs, hm, _⟩ := h
     rw [hfs] at hm
     obtain ⟨ya, r1, ya1, hm, _⟩ := mapM_cons_some hm
     obtain ⟨yb, r2, yb1, hm, _⟩ := mapM_cons_some hm
     obtain ⟨yc, r3, yc1, hm, _⟩ := mapM_cons_some hm
     obtain ⟨yd, r4, yd1, hm, _⟩ := mapM_cons_some hm
     rw [ha, za] at ya1
     rw [hb, zb] at yb1
     rw [hc, zc] at yc1
     rw [hd, zd] at yd1
     obtain ⟨xa, ga, oa⟩ := str_got sa ya1
     obtain ⟨xb, gb, ob⟩ := trod_got fuel n b.type _ _ _ _ tb yb1
     obtain ⟨xc, gc, oc⟩ := str_got sc yc1
     have hgd : Got w (.sl .expr) ((cs.drop 5).take 1) := by
      cases fuel with
      | zero => simp [DataW.trod] at yd1
      | succ fuel =>
       refine slice_got sd (by rw [hsz]; rfl) (by decide) (fun cs d ps h => trod_got fuel (n + 1) t .expr cs d ps ?_ h) yd1
       unfold tyB
       rw [hu]
       simp only [hfs, Bool.and_eq_true, beq_iff_eq]
       refine ⟨hsz, ha, hb, hc, hd, ?_, ?_, ?_, zb, tb⟩
       ·simp [isStrT1, sa, za]
       ·simp [isStrT1, sc, zc]
       ·simp [isSlT, sd, zd]
     obtain ⟨xd, gd, od⟩ := hgd
     have hl6 : cs.length = 6 := by rw [hlen, hsz]
     have hcs : cs = (cs.drop 0).take 1 ++ ((cs.drop 1).take 3 ++ ((cs.drop 4).take 1 ++ (cs.drop 5).take 1)) := by
      match cs, hl6 with
      | [v0, v1, v2, v3, v4, v5], _ => rfl
     refine ⟨ExprT.mk xa xb xc xd, ?_, ?_⟩
     ·have hr := ga.appS (gb.appS (gc.appS gd))
      rw [← hcs] at hr
      exact hr
     ·intro v hv
      rw [hcs] at hv
      simp only [List.mem_append] at hv
      rcases hv with hv | hv | hv | hv
      ·exact oa v hv
      ·exact ob v hv
      ·exact oc v hv
      ·exact od v hv
    ·cases h
   ·cases hty
  ·rename_i fs a b hu
   simp only [Bool.and_eq_true, beq_iff_eq] at hty
   unfold DataW.trod at h
   rw [hu] at h
   simp only at h
   split at h
   ·rename_i hlen
    rw [Option.map_eq_some_iff] at h
    obtain ⟨xs, hm, _⟩ := h
    have := fields_got (fun t s cs d ps h1 h2 => trod_got fuel n t s cs d ps h1 h2) fs.toList 0 (.pr a b) xs hty.2 hm
    rw [List.drop_zero, List.take_of_length_le (by rw [hlen, hty.1]; exact Nat.le_refl _)] at this
    exact this
   ·cases h
  ·cases hty
termination_by fuel => fuel

theorem arg_got {n : Nat} {t : TypeId} {s : Sh} {v : Value} {d : DataW H} {ps : List MemPlace} (hty : tyB P n t s = true) (h : DataW.Trod enc P w 0 sp held t v d ps) (hagg : (∃ cs, v = .agg cs) ↔ s.isAgg = true) (hsc : s.isAgg = false → v.cells = #[v]) : ∃ x : Sem s, Rv w U0 rhoN (datum s x) v := by
 obtain ⟨fuel, h⟩ := h
 obtain ⟨x, hr, ho⟩ := trod_got fuel n t s _ d ps hty h
 refine ⟨x, ?_⟩
 unfold datum
 cases hs : s.isAgg with
 | true =>
  obtain ⟨cs, rfl⟩ := hagg.2 hs
  simp only
  have := Rv.agg (w := w) (U := U0) (ρ := rhoN) (explode s x) cs.toList hr.len ho hr.rv
  simpa using this
 | false =>
  simp only
  rw [hsc hs] at hr
  have hlen := hr.len
  match he : explode s x, hlen with
  | [c], _ =>
   rw [he] at hr
   exact hr.rv 0 c v rfl rfl
end
open Go Go.RowKit Go.ChangeShapes

theorem kept_of_same {W W' : World} (hos : W'.os = W.os) (hout : W'.output = W.output) (h : ∀ b, b < W.heap.size → W'.heap[b]? = W.heap[b]?) (may : MemPlace → Prop) : W.keptBut W' may := by
 refine ⟨hos, hout, fun i hi => ?_⟩
 rw [h i hi]
 cases W.heap[i]? with
 | none => rfl
 | some o =>
  cases o with
  | cells c t fr => exact ⟨rfl, rfl, rfl, fun _ _ => rfl⟩
  | map es clock => exact .inr ⟨rfl, rfl⟩
  | _ => rfl

section
variable {H : Type} {enc : TypeId × Value → H} {P : Program}

theorem post_of_old {f : Func} {s : ChangeSpec} {fresh handsOn again : Bool} {W W' : World} {args : Array Value} {v : Value} {ds gs : List (DataW H)} {before pa pv : List MemPlace}
  (hW : DataW.Whole enc P f.params.toList s.vars false W args.toList ds gs before)
  (hres : ∀ (b : Nat) (sp : Nat → Bool) (hd : Bool), DataW.TrodAll enc P W' b sp hd f.resultTypes.toList (v.resultList f.resultTypes.size) (s.fn H (ds ++ gs)).results [])
  (hargs : ∀ sp : Nat → Bool, (∀ p ∈ before, sp p.block = true) → DataW.TrodAll enc P W' 0 sp true f.params.toList args.toList (s.fn H (ds ++ gs)).args pa)
  (hvars : ∀ sp : Nat → Bool, (∀ p ∈ before, sp p.block = true) → DataW.TrodVars enc P W' sp s.vars (s.fn H (ds ++ gs)).vars pv)
  (hps : before = pa ++ pv) (hk : W.keptBut W' (· ∈ before)) (hfz : ∀ a : Addr, a.block < W.heap.size → W'.frozen? a = W.frozen? a)
  (hok : ∀ (j : Nat) (t : TypeId) (r : Value), f.resultTypes[j]? = some t → (v.resultList f.resultTypes.size)[j]? = some r → Value.okWide P W' .any 0 t r) :
  s.post enc P f false fresh handsOn again W args v W' := by
 have hold : ∀ p ∈ before, (fun b => decide (b < W.heap.size)) p.block = true := fun p hp => by simpa using hW.lt p hp
 have hlt := hW.lt
 refine ⟨ds, gs, before, [], pa, pv, hW, hres _ _ _, hargs _ hold, hvars _ hold, World.keptBut_mono (fun p hp => ⟨hp, ?_⟩) hk, fun _ => ?_⟩
 ·rw [hps, List.mem_append] at hp
  exact Or.inr hp
 ·obtain ⟨_, _, _, _, _, hz, hn⟩ := hW
  refine ⟨hok, _, _, ([] ++ pa) ++ pv, ⟨[] ++ pa, pv, trodAll_append (hargs _ (fun _ _ => rfl)) (hres _ _ _), hvars _ (fun _ _ => rfl), rfl, ?_, ?_⟩, ?_⟩
  ·intro b off hp
   have hp' : MemPlace.cell b off ∈ before := by rw [hps]; simpa using hp
   rw [hfz ⟨b, off, none⟩ (hlt _ hp')]
   exact hz b off hp'
  ·intro ha
   cases ha
  ·intro p hp _
   rw [hps]
   simpa using hp

theorem ok_struct {W : World} {r : Go.Reach} {b : Nat} {t : TypeId} {fs : Array Field} {v : Value} (ht : P.underlying t = some (.struct fs)) (h : Value.okWide P W r b t v) : ∃ cs, v = .agg cs := by
 unfold Value.okWide at h
 rw [ht] at h
 obtain ⟨cs, rfl, _⟩ := h
 exact ⟨cs, rfl⟩

theorem ok_slice {W : World} {r : Go.Reach} {b : Nat} {t e : TypeId} {v : Value} (ht : P.underlying t = some (.slice e)) (h : Value.okWide P W r b t v) : ∃ a n c, v = .slice a n c := by
 unfold Value.okWide at h
 rw [ht] at h
 simp only at h
 unfold Cell.okWide at h
 rw [ht] at h
 unfold Cell.ok at h
 rw [ht] at h
 cases v <;> simp at h
 exact ⟨_, _, _, rfl⟩

theorem got_struct {W : World} {r : Go.Reach} {b n : Nat} {t : TypeId} {fs : Array Field} {s : Sh} {v : Value} {d : DataW H} {ps : List MemPlace} (hty : tyB P n t s = true) (hs : s.isAgg = true) (ht : P.underlying t = some (.struct fs)) (hok : Value.okWide P W r b t v)
  (h : DataW.Trod enc P W 0 (fun _ => true) true t v d ps) : ∃ x : Sem s, Rv W U0 rhoN (datum s x) v := by
 refine arg_got hty h ⟨fun _ => hs, fun _ => ok_struct ht hok⟩ (fun h' => ?_)
 rw [hs] at h'; cases h'
theorem got_slice {W : World} {r : Go.Reach} {b n : Nat} {t e : TypeId} {s : Sh} {v : Value} {d : DataW H} {ps : List MemPlace} (hty : tyB P n t (.sl s) = true) (ht : P.underlying t = some (.slice e)) (hok : Value.okWide P W r b t v)
  (h : DataW.Trod enc P W 0 (fun _ => true) true t v d ps) : ∃ x : List (Sem s), Rv W U0 rhoN (.sl s x) v := by
 obtain ⟨a, m, c, rfl⟩ := ok_slice ht hok
 exact arg_got (s := .sl s) hty h ⟨(fun ⟨_, hh⟩ => (by cases hh)), (fun hh => (by cases hh))⟩ (fun _ => rfl)
theorem calls_true {gl : Nat → AV} {k : FuncId} {F : FSem} (hF : FOk P gl k F) {W : World} {avs : List AV} {args : Array Value} (hgl : GlOk gl W U0) (hr : RvL W U0 rhoN avs args.toList) (hv : (F avs (fun _ => .dead) 0).val = some { val := .bool true }) (hid : AV.idsL avs = []) :
  Calls P k args W fun e W' => e = .returned (.bool true) ∧ Ext W W' ∧ ∀ b, b < W.heap.size → W'.heap[b]? = W.heap[b]? := by
 have := (hF.calls W U0 rhoN (fun _ => .dead) 0 avs args.toList _ [] hv hr (fun _ h => h.elim) hgl ⟨by simp, by simp⟩ (by rw [hid]; simp) (by simp) (by simp)).1
 rw [show args.toList.toArray = args by simp] at this
 refine this.mono ?_
 rintro e w' ⟨v, U', ρ', rfl, hef⟩
 have hv' := hef.val
 cases hv'
 exact ⟨rfl, hef.ext, fun b hb => hef.same b hb (by simp)⟩
end
open Go Go.Proofs Go.RowKit Go.ChangeShapes Go.WideShapes Go.ChangeAt Go.Proofs.YthpdpmhdaadgcaaGreatDoor

theorem laid_mem {P : Program} {w : World} : ∀ {l : List (String × DataW Unit)} {ps : List MemPlace}, DataW.LaidVars P w l ps → ∀ n d, (n, d) ∈ l →
  ∃ g t cs fuel p, P.globalNamed n = some g ∧ (P.globals[g]?).map (·.type) = some t ∧ w.var? P n = some cs ∧ DataW.trod (fun _ => ()) P w 0 (fun _ => true) false fuel t cs.toList = some (d, p)
 | [], _, _, _, _, h => by simp at h
 | (n0, d0) :: r, ps, h, n, d, hm => by
  obtain ⟨g, t, cs, fuel, p, q, h1, h2, h3, h4, h5, _⟩ := h
  rcases List.mem_cons.1 hm with e | hm
  ·cases e
   exact ⟨g, t, cs, fuel, p, h1, h2, h3, h4⟩
  ·exact laid_mem h5 n d hm

theorem laidMet_of_H {P : Program} {l : List (String × DataW Unit)} {w : World} (hf : (l.filter fun x => x.2.handleName?.isSome).isEmpty = true) (h : laidMetH P l w) : laidMet P l w := by
 unfold laidMetH at h
 split at h
 ·exact h
 ·rename_i a b hab
  rw [hab] at hf
  simp at hf

theorem trod_string {H : Type} {enc : TypeId × Value → H} {P : Program} {w : World} {base : Nat} {sp : Nat → Bool} {held : Bool} {fuel : Nat} {t : TypeId} (ht : P.underlying t = some .string) {cs : List Value} {b : List UInt8} {p : List MemPlace}
  (h : DataW.trod enc P w base sp held fuel t cs = some (.lit (.string b), p)) : cs = [.string ⟨b.toArray⟩] := by
 cases fuel with
 | zero => simp [DataW.trod] at h
 | succ fuel =>
  unfold DataW.trod at h
  rw [ht] at h
  split at h
  all_goals first
   | (rename_i hu; cases hu; done)
   | (rename_i hu _; cases hu; done)
   | (simp at h; done)
   | skip
  rename_i s hu
  split at h
  ·simp only [Option.some.injEq, Prod.mk.injEq, DataW.lit.injEq, Lit.string.injEq] at h
   rw [← h.1]
  ·cases h

theorem trod_u64 {H : Type} {enc : TypeId × Value → H} {P : Program} {w : World} {base : Nat} {sp : Nat → Bool} {held : Bool} {fuel : Nat} {t : TypeId} (ht : P.underlying t = some (.int .u64)) {cs : List Value} {z : Int} {p : List MemPlace}
  (h : DataW.trod enc P w base sp held fuel t cs = some (.lit (.int .u64 z), p)) : cs = [.int .u64 z] := by
 cases fuel with
 | zero => simp [DataW.trod] at h
 | succ fuel =>
  unfold DataW.trod at h
  rw [ht] at h
  split at h
  all_goals first
   | (rename_i hu; cases hu; done)
   | (rename_i hu _; cases hu; done)
   | (simp at h; done)
   | skip
  all_goals (try split at h)
  all_goals first
   | (cases h; done)
   | (simp at h; done)
   | skip
  all_goals simp_all

theorem arr_cells {W : World} {l : List (String × DataW Unit)} (h : laidMet Tryz.prog l W) {name : String} {g : Nat} {t e : TypeId} {len : Nat} {ds : List (DataW Unit)} (hm : (name, DataW.agg ds) ∈ l)
  (hg : Tryz.prog.globalNamed name = some g) (ht : (Tryz.prog.globals[g]?).map (·.type) = some t) (hu : Tryz.prog.underlying t = some (.array len e)) (hc : Tryz.prog.cellsOf e = 1) :
  ∃ cs T fr, W.heap[g]? = some (.cells cs T fr) ∧ ∀ (j : Nat) d, ds[j]? = some d → ∃ fuel p, DataW.trod (fun _ => ()) Tryz.prog W 0 (fun _ => true) false fuel e ((cs.toList.drop j).take 1) = some (d, p) := by
 obtain ⟨ps, hL, _, _⟩ := h
 obtain ⟨g', t', cs, fuel, p, h1, h2, h3, h4⟩ := laid_mem hL name _ hm
 rw [hg] at h1
 cases h1
 rw [ht] at h2
 cases h2
 have hvar : ∃ T fr, W.heap[g]? = some (.cells cs T fr) := by
  unfold World.var? at h3
  rw [hg] at h3
  simp only [Option.bind_some] at h3
  split at h3
  ·rename_i c T fr hh
   cases h3
   exact ⟨T, fr, hh⟩
  ·cases h3
 obtain ⟨T, fr, hblk⟩ := hvar
 refine ⟨cs, T, fr, hblk, ?_⟩
 cases fuel with
 | zero => simp [DataW.trod] at h4
 | succ fuel =>
  unfold DataW.trod at h4
  rw [hu] at h4
  simp only at h4
  split at h4
  ·rw [Option.map_eq_some_iff] at h4
   obtain ⟨xs, hm', hx⟩ := h4
   simp only [Prod.mk.injEq, DataW.agg.injEq] at hx
   obtain ⟨hl, hg'⟩ := mapM_get hm'
   intro j d hj
   rw [← hx.1, List.getElem?_map, Option.map_eq_some_iff] at hj
   obtain ⟨⟨d', p'⟩, hj, rfl⟩ := hj
   have hjl : j < xs.length := (List.getElem?_eq_some_iff.1 hj).1
   have hr : (List.range len)[j]? = some j := by
    rw [List.getElem?_range]
    rw [hl, List.length_range] at hjl
    exact hjl
   have := hg' j j hr
   rw [hj, hc, Nat.mul_one] at this
   exact ⟨fuel, p', this⟩
  ·cases h4

theorem take1 {cs : Array Value} {j : Nat} {v : Value} (h : (cs.toList.drop j).take 1 = [v]) : cs[j]? = some v := by
 have := congrArg (·[0]?) h
 simp only [List.getElem?_take, List.getElem?_drop] at this
 simpa using this

theorem gl0 {W : World} {l : List (String × DataW Unit)} (h : laidMet Tryz.prog l W) (hm : ("caddis/stmt.types", Rows.laid_caddis_stmt_types) ∈ l) : Rv W U0 rhoN (.eptr [.str [73, 78, 84], .str [84, 69, 88, 84], .str [66, 79, 79, 76]] 0) (.pointer (some ⟨0, 0, none⟩)) := by
 obtain ⟨cs, T, fr, hb, hd⟩ := arr_cells h (g := 0) (t := 233) (e := 9) (len := 3) hm (by kernel_rfl) (by kernel_rfl) (by kernel_rfl) (by kernel_rfl)
 have hs9 : Tryz.prog.underlying 9 = some .string := by kernel_rfl
 have hcell : ∀ j, W.cell? ⟨0, j, none⟩ = cs[j]? := by
  intro j
  unfold World.cell?
  rw [hb]
  rfl
 obtain ⟨_, _, g0⟩ := hd 0 _ rfl
 obtain ⟨_, _, g1⟩ := hd 1 _ rfl
 obtain ⟨_, _, g2⟩ := hd 2 _ rfl
 have w0 := take1 (trod_string hs9 g0)
 have w1 := take1 (trod_string hs9 g1)
 have w2 := take1 (trod_string hs9 g2)
 refine .eptr [.str [73, 78, 84], .str [84, 69, 88, 84], .str [66, 79, 79, 76]] 0 0 0 (fun j => match j with
  | 0 => .string ⟨#[73, 78, 84]⟩
  | 1 => .string ⟨#[84, 69, 88, 84]⟩
  | _ => .string ⟨#[66, 79, 79, 76]⟩) (cell_lt (by rw [hcell]; exact w0)) (fun h => h) ?_ ?_ ?_
 ·intro j hj
  match j, hj with
  | 0, _ => rw [hcell]; exact w0
  | 1, _ => rw [hcell]; exact w1
  | 2, _ => rw [hcell]; exact w2
 ·intro j hj
  match j, hj with
  | 0, _ => rfl
  | 1, _ => rfl
  | 2, _ => rfl
 ·intro j c hc
  match j, hc with
  | 0, hc => simp at hc; subst hc; exact .str [73, 78, 84] (by simp [maxStr])
  | 1, hc => simp at hc; subst hc; exact .str [84, 69, 88, 84] (by simp [maxStr])
  | 2, hc => simp at hc; subst hc; exact .str [66, 79, 79, 76] (by simp [maxStr])
  | j + 3, hc => simp at hc

set_option maxRecDepth 100000 in
theorem gl2 {W : World} (h : W.ShapedOpen Tryz.prog) : Rv W U0 rhoN .gint (.pointer (some ⟨2, 0, none⟩)) := by
 have h0 : ((begin Tryz.prog (fun _ _ => 0) default).world.heap[2]?).bind Obj.row? = some (#[.int .i64 0], 3) := by kernel_rfl
 obtain ⟨cs, hh, hs, hr⟩ := h.1 2 _ _ (of_decide_eq_true (by kernel_rfl)) h0
 obtain ⟨ts, hts, _, hall⟩ := hr (by kernel_rfl)
 have hc : Tryz.prog.cellTypes Tryz.prog.depth 3 = some [3] := by kernel_rfl
 rw [hc] at hts
 cases hts
 have h1 : cs.size = 1 := hs
 obtain ⟨u, hu, hok⟩ := hall 0 cs[0] (by simp)
 have : u = 3 := by simpa using hu.symm
 subst this
 have hi : Tryz.prog.underlying 3 = some (.int .i64) := by kernel_rfl
 unfold Cell.ok at hok
 rw [hi] at hok
 have hcs : cs = #[cs[0]] := by
  apply Array.ext
  ·simp [h1]
  ·intro i h2 h3
   have : i = 0 := by omega
   subst this
   rfl
 cases hv : cs[0] <;> rw [hv] at hok <;> simp at hok
 rename_i k n
 obtain ⟨rfl, hn⟩ := hok
 refine .gint n 2 3 (0, 0) hn ?_ (fun h => h)
 rw [hh, hcs, hv]

theorem gl5 {W : World} {l : List (String × DataW Unit)} (h : laidMet Tryz.prog l W) (hs : W.ShapedOpen Tryz.prog) (hm : ("internal/strconv.uint64pow10", Rows.laid_internal_strconv_uint64pow10) ∈ l) : Rv W U0 rhoN (.tab .u64 pow10L) (.pointer (some ⟨5, 0, none⟩)) := by
 obtain ⟨cs, T, fr, hb, hd⟩ := arr_cells h (g := 5) (t := 297) (e := 279) (len := 20) hm (by kernel_rfl) (by kernel_rfl) (by kernel_rfl) (by kernel_rfl)
 have hu : Tryz.prog.underlying 279 = some (.int .u64) := by kernel_rfl
 have h0 : ((begin Tryz.prog (fun _ _ => 0) default).world.heap[5]?).bind Obj.row? = some (Array.replicate 20 (.int .u64 0), 297) := by kernel_rfl
 obtain ⟨cs', hh, hsz, _⟩ := hs.1 5 _ _ (of_decide_eq_true (by kernel_rfl)) h0
 rw [hb] at hh
 have hcs : cs = cs' := by simp only [Option.some.injEq, Obj.cells.injEq] at hh; exact hh.1
 have hlen : cs.size = 20 := by rw [hcs, hsz]; simp
 have key : cs = (pow10L.map fun z => Value.int .u64 z).toArray := by
  apply Array.ext
  ·rw [hlen]; rfl
  ·intro i h1 h2
   have hd' : ∀ (j : Nat) z, pow10L[j]? = some z → cs[j]? = some (.int .u64 z) := by
    intro j z hz
    obtain ⟨_, _, g⟩ := hd j (.lit (.int .u64 z)) (by
     have : (match (Rows.laid_internal_strconv_uint64pow10 : DataW Unit) with | .agg l => l | _ => []) = pow10L.map fun z => DataW.lit (.int .u64 z) := by kernel_rfl
     have e2 : (match (Rows.laid_internal_strconv_uint64pow10 : DataW Unit) with | .agg l => l | _ => [])[j]? = some (.lit (.int .u64 z)) := by
      rw [this, List.getElem?_map, hz]
      rfl
     exact e2)
    exact take1 (trod_u64 hu g)
   have hi : i < pow10L.length := by simpa using h2
   have := hd' i pow10L[i] (List.getElem?_eq_getElem hi)
   rw [Array.getElem?_eq_getElem h1, Option.some.injEq] at this
   rw [this, List.getElem_toArray, List.getElem_map]
 exact .tab .u64 pow10L 5 T fr (by rw [hb, key]) (fun h => h)

open Go Go.Proofs Go.RowKit Go.ChangeShapes Go.WideShapes Go.ChangeAt Go.Proofs.YthpdpmhdaadgcaaGreatDoor

theorem laidOut0 : laidOutB Tryz.prog = true := by kernel_rfl
theorem ty22 : tyB Tryz.prog 9 22 (.sl shRel) = true := by kernel_rfl
theorem ty34 : tyB Tryz.prog 9 34 shStmt = true := by kernel_rfl
def isStructT (P : Program) (t : TypeId) : Bool := match P.underlying t with
 | some (.struct _) => true
 | _ => false
theorem isStructT_ok {P : Program} {t : TypeId} (h : isStructT P t = true) : ∃ fs, P.underlying t = some (.struct fs) := by
 unfold isStructT at h
 split at h
 ·exact ⟨_, ‹_›⟩
 ·cases h
theorem un34 : ∃ fs, Tryz.prog.underlying 34 = some (.struct fs) := isStructT_ok (by kernel_rfl)
theorem un22 : Tryz.prog.underlying 22 = some (.slice 43) := by kernel_rfl
theorem un4 : Tryz.prog.underlying 4 = some .bool := by kernel_rfl

theorem stays {H : Type} {enc : TypeId × Value → H} {W W' : World} (hsame : ∀ b, b < W.heap.size → W'.heap[b]? = W.heap[b]?) {t : TypeId} {v : Value} {d : DataW H} {ps : List MemPlace} (hr : Tryz.prog.readableRec t = true) (hrow : t < Tryz.prog.types.size)
  (h : DataW.Trod enc Tryz.prog W 0 (fun _ => true) true t v d ps) (hlt : ∀ p ∈ ps, p.block < W.heap.size) {sp : Nat → Bool} (hs : ∀ p ∈ ps, sp p.block = true) : DataW.Trod enc Tryz.prog W' 0 sp true t v d ps :=
 WideElems.Trod_stays laidOut0 hr hrow h (fun p hp => by
  have h1 := hsame p.block (hlt p hp)
  cases p with
  | cell b off => exact World.cell?_of_block h1
  | map b => exact h1) hs

theorem glOk_of {W : World} {l : List (String × DataW Unit)} (hL : laidMet Tryz.prog l W) (hs : W.ShapedOpen Tryz.prog) (h0 : ("caddis/stmt.types", Rows.laid_caddis_stmt_types) ∈ l) (h5 : ("internal/strconv.uint64pow10", Rows.laid_internal_strconv_uint64pow10) ∈ l) : GlOk glOf W U0 := by
 intro g
 match g with
 | 0 => exact gl0 hL h0
 | 1 => exact .any _
 | 2 => exact gl2 hs
 | 3 => exact .any _
 | 4 => exact .any _
 | 5 => exact gl5 hL hs h5
 | g + 6 => exact .any _

def tru2 : FSem := plainT [.sl shRel, shStmt] [.bool] fun _ => (true, ())
theorem tru2_val (db : List (Sem shRel)) (s : Sem shStmt) : (tru2 [.sl shRel db, datum shStmt s] (fun _ => .dead) 0).val = some { val := .bool true } := by kernel_rfl

theorem FOk_true2 {P : Program} {gl : Nat → AV} {k : FuncId} {c : List (Sem shRel) → Sem shStmt → Bool} {g : List (Sem shRel) → Sem shStmt → Bool} (h : FOk P gl k (plainC [.sl shRel, shStmt] [.bool] (fun x => c x.1 x.2.1) fun x => (g x.1 x.2.1, ())))
  (hc : ∀ db s, c db s = true) (hg : ∀ db s, g db s = true) : FOk P gl k tru2 := by
 refine FOk_T ?_
 rwa [show (fun x : HArgs (List.map some [.sl shRel, shStmt]) => c x.1 x.2.1) = fun _ => true from funext fun x => hc x.1 x.2.1,
  show (fun x : HArgs (List.map some [.sl shRel, shStmt]) => ((g x.1 x.2.1, ()) : HArgs (List.map some [Sh.bool]))) = fun _ => (true, ()) from funext fun x => by rw [hg x.1 x.2.1]] at h

set_option maxRecDepth 100000 in
theorem contract2 {k : FuncId} {f : Func} {s : ChangeSpec} (hF : FOk Tryz.prog glOf k tru2) (hpar : f.params = #[22, 34]) (hrt : f.resultTypes = #[4]) (hvars : s.vars = [])
  (hfn : ∀ (H : Type) (d0 d1 : DataW H), s.fn H [d0, d1] = { results := [.lit (.bool true)], args := [d0, d1] })
  {H : Type} {enc : TypeId × Value → H} {W : World} {base : Nat} {args : Array Value} {ds gs : List (DataW H)} {before : List MemPlace}
  (hval : ∀ (j : Nat) t v, f.params[j]? = some t → args[j]? = some v → Value.okWide Tryz.prog W .any base t v)
  (hW : DataW.Whole enc Tryz.prog f.params.toList s.vars false W args.toList ds gs before) (hgl : GlOk glOf W U0) :
  Calls Tryz.prog k args W fun e W' => ∃ v, e = .returned v ∧ s.post enc Tryz.prog f false true false false W args v W' := by
 have hW' := hW
 obtain ⟨p, q, hA0, hV, rfl, hfz, hnd⟩ := hW
 have hA : DataW.TrodAll enc Tryz.prog W 0 (fun _ => true) true f.params.toList args.toList ds p := hA0
 rw [hpar] at hA
 obtain ⟨v0, v1, d0, d1, p0, p1, rfl, rfl, rfl, h0, h1⟩ := trodAll_two hA
 rw [hvars] at hV
 obtain ⟨rfl, rfl⟩ := trodVars_none hV
 have hlt := hW'.lt
 obtain ⟨f34, u34⟩ := un34
 have q0 : f.params[0]? = some 22 := by rw [hpar]; rfl
 have q1 : f.params[1]? = some 34 := by rw [hpar]; rfl
 have e0 : (#[v0, v1] : Array Value)[0]? = some v0 := by simp
 have e1 : (#[v0, v1] : Array Value)[1]? = some v1 := by simp
 have k0 := hval 0 22 v0 q0 e0
 have k1 := hval 1 34 v1 q1 e1
 obtain ⟨db, rd⟩ := got_slice ty22 un22 k0 h0
 obtain ⟨st, rs⟩ := got_struct ty34 rfl u34 k1 h1
 have hrv : RvL W U0 rhoN [.sl shRel db, datum shStmt st] (#[v0, v1] : Array Value).toList := by
  refine ⟨rfl, fun j c v hc hv => ?_⟩
  match j, hc, hv with
  | 0, hc, hv => simp at hc hv; subst hc; subst hv; exact rd
  | 1, hc, hv => simp at hc hv; subst hc; subst hv; exact rs
  | j + 2, hc, _ => simp at hc
 have hc := calls_true hF (args := #[v0, v1]) hgl hrv (tru2_val db st) rfl
 refine hc.mono fun e' W' ⟨he, hext, hsame⟩ => ?_
 subst he
 have hmem : ∀ (p : MemPlace), p ∈ p0 ∨ p ∈ p1 → p ∈ p0 ++ p1 ++ [] := by
  intro p hp
  simp only [List.append_nil, List.mem_append]
  exact hp
 have hf2 : s.fn H ([d0, d1] ++ []) = { results := [.lit (.bool true)], args := [d0, d1] } := hfn H d0 d1
 refine ⟨_, rfl, post_of_old (pa := p0 ++ p1) (pv := []) hW' (fun _ _ _ => ?_) (fun sp hsp => ?_) (fun _ _ => ?_) (by simp) (kept_of_same hext.os hext.out hsame _) hext.fr (ok_one hrt rfl (okWide_bool_mk un4 _))⟩
 ·rw [hf2, hrt]
  exact trodAll_cons_mk (shut_bool un4 _) trodAll_mk0
 ·rw [hf2, hpar]
  exact trodAll_mk2 (stays hsame (by kernel_rfl) (of_decide_eq_true (by kernel_rfl)) h0 (fun p hp => hlt p (hmem p (.inl hp))) (fun p hp => hsp p (hmem p (.inl hp))))
   (stays hsame (by kernel_rfl) (of_decide_eq_true (by kernel_rfl)) h1 (fun p hp => hlt p (hmem p (.inr hp))) (fun p hp => hsp p (hmem p (.inr hp))))
 ·rw [hf2, hvars]
  rfl
open Go Go.Proofs
set_option maxHeartbeats 4000000

theorem awakeC_is : awakeC = true := by unfold awakeC; rw [awake_true]; rfl
theorem awake_is' : awake = true := by unfold awake; rw [awake_true]; rfl

def ColIn (x : Sem shRel) (c : Sem shCol) : Prop := ¬ LT.lt (α := Int) (tPlace x.1 c.1) 0 ∧ (List.getD x.1.2.1 (Int.toNat (tPlace x.1 c.1)) (dflt shCol)).2.1 = c.2.1

def TrueR (r : Raw) : Prop := resOf r.2 [Sh.bool] r.1 = some (true, ())

abbrev pcCols (z : CSem cpP) : List (Sem shCol) := z.1.2.2.2.1.2.1

theorem lc13b (src : List (Sem shRel)) (z : CSem cpP) (i : Nat) (hi : i < List.length (pcCols z)) (hs : src.length ≤ 10) (hc : List.length (pcCols z) ≤ 1000000) (hM : ∃ (k : Nat) (h : k < src.length), ColIn src[k] (pcCols z)[i]) (M : Nat)
  (hk : ∀ n, M ≤ n → ∃ r, iterT t6p n (.h9 src ((i + 1 : Nat) : Int) z) = some r ∧ TrueR r) : ∀ (m j : Nat) (b : Bool) (n : Nat), src.length - j = m → j ≤ src.length → ((∃ (k : Nat) (h : k < src.length), k < j ∧ ColIn src[k] (pcCols z)[i]) → b = true) → 1 + M + m ≤ n →
  ∃ r, iterT t6p n (.h13b src (i : Int) b (j : Int) z) = some r ∧ TrueR r := by
 intro m j b n hm hj hb hn
 refine iter_inv (t := t6p) (β := Bool) src.length (fun b j => .h13b src (i : Int) b (j : Int) z) (fun b j => (∃ (k : Nat) (h : k < src.length), k < j ∧ ColIn src[k] (pcCols z)[i]) → b = true) TrueR (1 + M) ?_ ?_ m j b n hm hj hb hn
 ·intro b j hj hb
  have hci : inB (i : Int) (List.length z.1.2.2.2.1.2.1) = true := inB_of hi
  refine Or.inl ?_
  simp only [t6p, t6p_13b, t6p_13bz, Tr.val, lt_dec hj, inB_of hj, hci, getD_at' _ _ hj, getD_at' _ _ hi, if_true, etaE_eq, Prod.eta, Bool.true_and, Bool.and_true]
  rw [wrap_add j (by unfold maxStr; omega)]
  refine ⟨bif b then true else bif decide (tPlace src[j].1 (pcCols z)[i].1 ≥ 0) then (List.getD src[j].1.2.1 (Int.toNat (tPlace src[j].1 (pcCols z)[i].1)) (dflt shCol)).2.1 == (pcCols z)[i].2.1 else false, ?_, ?_⟩
  ·rintro ⟨k, hk1, hk2, hk3⟩
   by_cases hkj : k = j
   ·subst hkj
    obtain ⟨c1, c2⟩ := hk3
    have e1 : decide (tPlace src[k].1 (pcCols z)[i].1 ≥ 0) = true := decide_eq_true (by show (0 : Int) ≤ tPlace src[k].1 (pcCols z)[i].1; omega)
    rw [e1, c2]
    cases b <;> simp
   ·rw [hb ⟨k, hk1, by omega, hk3⟩]
    rfl
  ·have hg : (bif b then true else bif decide (tPlace src[j].1 (pcCols z)[i].1 ≥ 0) then inB (tPlace src[j].1 (pcCols z)[i].1) (List.length src[j].1.2.1) else true) = true := by
    cases b
    ·cases h : decide (tPlace src[j].1 (pcCols z)[i].1 ≥ 0)
     ·rfl
     ·have h' : (0 : Int) ≤ tPlace src[j].1 (pcCols z)[i].1 := of_decide_eq_true h
      exact inB_place (by omega)
    ·rfl
   rw [if_pos hg]
 ·intro b n hb hn
  obtain ⟨n, rfl⟩ : ∃ k, n = k + 1 := ⟨n - 1, by omega⟩
  obtain ⟨k, hk1, hk2⟩ := hM
  have hbt : b = true := hb ⟨k, hk1, hk1, hk2⟩
  subst hbt
  rw [iterT_val]
  simp only [t6p, t6p_13b, t6p_13bz, Tr.val, lt_dec', Bool.not_true, Bool.false_eq_true, if_false]
  rw [wrap_add i (by unfold maxStr; omega)]
  exact hk n (by omega)

theorem lc13 (src : List (Sem shRel)) (z : CSem cpP) (i : Nat) (hi : i < List.length (pcCols z)) (hs0 : 0 < src.length) (hs : src.length ≤ 10) (hc : List.length (pcCols z) ≤ 1000000) (hM : ∃ (k : Nat) (h : k < src.length), ColIn src[k] (pcCols z)[i]) (M : Nat)
  (hk : ∀ n, M ≤ n → ∃ r, iterT t6p n (.h9 src ((i + 1 : Nat) : Int) z) = some r ∧ TrueR r) (n : Nat) (hn : 2 + M + src.length ≤ n) :
  ∃ r, iterT t6p n (.h13 src (i : Int) 0 z) = some r ∧ TrueR r := by
 obtain ⟨n, rfl⟩ : ∃ k, n = k + 1 := ⟨n - 1, by omega⟩
 have hci : inB (i : Int) (List.length z.1.2.2.2.1.2.1) = true := inB_of hi
 rw [iterT_val]
 have e0 : (0 : Int) = ((0 : Nat) : Int) := rfl
 have hv : (t6p (.h13 src (i : Int) ((0 : Nat) : Int) z)).val = some (.inl (.h13b src (i : Int) (bif decide (tPlace src[0].1 (pcCols z)[i].1 ≥ 0) then (List.getD src[0].1.2.1 (Int.toNat (tPlace src[0].1 (pcCols z)[i].1)) (dflt shCol)).2.1 == (pcCols z)[i].2.1 else false) ((1 : Nat) : Int) z)) := by
  simp only [t6p, t6p_13, t6p_13z, Tr.val, lt_dec hs0, inB_of hs0, hci, getD_at' _ _ hs0, getD_at' _ _ hi, if_true, etaE_eq, Prod.eta, Bool.true_and, Bool.and_true]
  rw [wrap_add 0 (by unfold maxStr; omega)]
  have hg : (bif decide (tPlace src[0].1 (pcCols z)[i].1 ≥ 0) then inB (tPlace src[0].1 (pcCols z)[i].1) (List.length src[0].1.2.1) else true) = true := by
   cases h : decide (tPlace src[0].1 (pcCols z)[i].1 ≥ 0)
   ·rfl
   ·have h' : (0 : Int) ≤ tPlace src[0].1 (pcCols z)[i].1 := of_decide_eq_true h
    exact inB_place (by omega)
  rw [if_pos hg]
 rw [e0, hv]
 refine lc13b src z i hi hs hc hM M hk (src.length - 1) 1 _ n rfl (by omega) ?_ (by omega)
 rintro ⟨k, hk1, hk2, c1, c2⟩
 obtain rfl : k = 0 := by omega
 have e1 : decide (tPlace src[0].1 (pcCols z)[i].1 ≥ 0) = true := decide_eq_true (by show (0 : Int) ≤ tPlace src[0].1 (pcCols z)[i].1; omega)
 rw [e1, c2]
 simp

theorem lc9 (src : List (Sem shRel)) (z : CSem cpP) (hs0 : 0 < src.length) (hs : src.length ≤ 10) (hc : List.length (pcCols z) ≤ 1000000) (hM : ∀ i (hi : i < List.length (pcCols z)), ∃ (k : Nat) (h : k < src.length), ColIn src[k] (pcCols z)[i])
  (k : Nat) (hk : k < List.length (pcCols z)) (hkey : z.1.2.2.2.1.2.2.1 = (k : Int)) (hp : ¬ LT.lt (α := Int) (tPlace src[0].1 (pcCols z)[k].1) 0) : ∀ (m i n : Nat), List.length (pcCols z) - i = m → i ≤ List.length (pcCols z) → 1 + m * 20 ≤ n →
  ∃ r, iterT t6p n (.h9 src (i : Int) z) = some r ∧ TrueR r
 | 0, i, n, hm, hi, hn => by
  obtain rfl : i = List.length (pcCols z) := by omega
  obtain ⟨n, rfl⟩ : ∃ k, n = k + 1 := ⟨n - 1, by omega⟩
  rw [iterT_val]
  have e0 : inB 0 src.length = true := inB_of hs0
  have e1 : inB z.1.2.2.2.1.2.2.1 (List.length z.1.2.2.2.1.2.1) = true := by rw [hkey]; exact inB_of hk
  have e2 : List.getD src (Int.toNat 0) (dflt shRel) = src[0] := getD_at' (i := 0) src _ hs0
  have e3 : List.getD z.1.2.2.2.1.2.1 (Int.toNat z.1.2.2.2.1.2.2.1) (dflt shCol) = (pcCols z)[k] := by rw [hkey]; exact getD_at' _ _ hk
  have e4 : decide (tPlace src[0].1 (pcCols z)[k].1 ≥ 0) = true := decide_eq_true (by show (0 : Int) ≤ tPlace src[0].1 (pcCols z)[k].1; omega)
  simp only [t6p, t6p_9, t6p_9z, Tr.val, lt_dec', e0, e1, e2, e3, etaE_eq, Prod.eta, e4, awakeC_is, awake_is', cond_true, Bool.and_true, if_true]
  exact ⟨_, rfl, rfl⟩
 | m + 1, i, n, hm, hi, hn => by
  have hlt : i < List.length (pcCols z) := by omega
  obtain ⟨n, rfl⟩ : ∃ k, n = k + 1 := ⟨n - 1, by omega⟩
  rw [iterT_val]
  have hv : (t6p (.h9 src (i : Int) z)).val = some (.inl (.h13 src (i : Int) 0 z)) := by
   have e : decide ((i : Int) < (List.length z.1.2.2.2.1.2.1 : Int)) = true := lt_dec hlt
   simp only [t6p, t6p_9, t6p_9z, Tr.val, e, if_true]
  rw [hv]
  exact lc13 src z i hlt hs0 hs hc (hM i hlt) (1 + m * 20) (fun n' hn' => lc9 src z hs0 hs hc hM k hk hkey hp m (i + 1) n' (by omega) (by omega) hn') n (by omega)
open Go Go.Proofs
set_option maxHeartbeats 4000000

theorem i6_eq (x0 : Sem shRel.sl) (x1 : Sem shStmt) : i6p x0 x1 = (let a1 := l5Few x1
  let a3 := pOf (l8Few x0) a1
  let a4 := (List.length a3.1.2.2.2.1.2.1 : Int)
  i6pz x0 x1 x1 a1 a1 a3 a4 (a4 == 0) a3.1 (pTake a3.1 (l8Few x0))) := by
 unfold i6p
 simp only [etaE_eq]

theorem cpy_of {x : Sem shRel} (h1 : ShortC x) (h2 : OkR x) : cpyC x = true := by
 obtain ⟨_, _, _, hc, _⟩ := may_facts h2.may
 have a1 := h1.sh.uq
 have a2 := h1.sh.rf
 have a3 := h1.sh.rw
 unfold cpyC
 simp only [Bool.and_eq_true, decide_eq_true_eq, List.all_eq_true]
 refine ⟨⟨⟨⟨⟨by omega, by omega⟩, by omega⟩, h1.cp⟩, by omega⟩, fun r hr => ?_⟩
 rw [h2.len r hr]
 omega

theorem col_in {ns : List Str} {x : Sem shRel} (hm : tMay x.1 = true) {c d : Sem shCol} (hd : d ∈ x.1.2.1) (h1 : c.1 = d.1) (h2 : c.2.1 = d.2.1) : ColIn (tkR ns x) c := by
 obtain ⟨j, hj, p1, p2⟩ := mem_place hm hd
 have p3 : tPlace (tkR ns x).1 c.1 = (j : Int) := by rw [h1]; exact p1
 refine ⟨by rw [p3]; omega, ?_⟩
 rw [p3, h2]
 show (List.getD x.1.2.1 (Int.toNat (j : Int)) (dflt shCol)).2.1 = _
 rw [getD_at' _ _ hj, p2]

theorem lColumns_ok (x0 : Sem shRel.sl) (x1 : Sem shStmt) : lColumnsO x0 x1 = some (true, ()) := by
  obtain ⟨db, d1, d2, d3⟩ := l8Few_okC x0
  obtain ⟨s, s1, s2⟩ := l5Few_ok x1
  have hdb : l8Few x0 = db := by unfold l8Few; rw [d1]; rfl
  have hdc : l8FewC x0 = true := by unfold l8FewC; rw [d1]; rfl
  have hs : l5Few x1 = s := by unfold l5Few; rw [s1]; rfl
  have hsc : l5FewC x1 = true := by unfold l5FewC; rw [s1]; rfl
  obtain ⟨p, e, h1, _, h3, h4⟩ := pOf_ok (fun x hx => (d3 x hx).sh) d2 s2
  have hp : pOf db s = (p, e) := by unfold pOf; rw [h1]; rfl
  have hpc : pOfC db s = true := by unfold pOfC; rw [h1]; rfl
  unfold lColumnsO outT runT
  rw [i6_eq]
  simp only [i6pz, Tr.val, hdb, hdc, hs, hsc, hp, hpc, awakeC_is, awake_is', if_true]
  by_cases he : e = 0
  · have heb : (e != 0) = false := by simp [he]
    obtain ⟨hok, hparts, y, z, hsrc, n1, n2, k3, hk, hch, hA, hpz⟩ := h4 he
    obtain ⟨_, hrels⟩ := bCheck_rels hok
    have hcp : ∀ x ∈ db, cpyC x = true := fun x hx => cpy_of (d3 x hx) (rCheck_ok (hrels x hx))
    have kF : y.2.2.2.2.2.1 = s.2.2.1 := by rw [k3]
    have kW : y.2.2.2.2.2.2.1 = s.2.2.2.2.2.2.2.2.2.2.2.2 := by rw [k3]
    have pF : p.2.1 = s.2.2.1 := by rw [hpz]; exact hk.2.2.2.2.2.1.trans kF
    have pW : p.2.2.1 = s.2.2.2.2.2.2.2.2.2.2.2.2 := by rw [hpz]; exact hk.2.2.2.2.2.2.1.trans kW
    have f1 : (0 : Int) ≤ bFind db s.2.2.1 := hsrc.1
    have f2 : s.2.2.2.2.2.2.2.2.2.2.2.2 = [] ∨ (0 : Int) ≤ bFind db s.2.2.2.2.2.2.2.2.2.2.2.2 := hsrc.2.1
    have hfrom : y.2.2.1 = (List.getD db (Int.toNat (bFind db s.2.2.1)) (dflt shRel)).1 := hsrc.2.2.2.2.1
    have hwith : y.2.2.2.1 = (if s.2.2.2.2.2.2.2.2.2.2.2.2 = [] then ([], [], 0, [], [], ExprT.mk [] (0, 0, []) [] []) else (List.getD db (Int.toNat (bFind db s.2.2.2.2.2.2.2.2.2.2.2.2)) (dflt shRel)).1) := hsrc.2.2.2.2.2
    have hps : pSources p = if (s.2.2.2.2.2.2.2.2.2.2.2.2 == []) = true then [s.2.2.1] else [s.2.2.1, s.2.2.2.2.2.2.2.2.2.2.2.2] := by unfold pSources; rw [pF, pW]
    have hf : ∀ n ∈ pSources p, (0 : Int) ≤ bFind db n := by
      intro n hn
      rw [hps] at hn
      split at hn
      · rw [List.mem_singleton] at hn; rw [hn]; exact f1
      · rename_i hw
        simp only [List.mem_cons, List.not_mem_nil, or_false] at hn
        rcases hn with rfl | rfl
        · exact f1
        · exact f2.resolve_left (by simpa using hw)
    have ht := pTake_ok hcp hf
    have htp : pTake p db = ((pSources p).map (tkAt (pSources p) db), 0) := by unfold pTake; rw [ht]; rfl
    have htc : pTakeC p db = true := by unfold pTakeC; rw [ht]; rfl
    have hl0 : 0 < List.length (pSources p) ∧ List.length (pSources p) ≤ 2 := by rw [hps]; split <;> simp
    have hmayF := (rCheck_ok (hrels _ (find_mem (db := db) (s := s.2.2.1) f1))).may
    obtain ⟨k, hkl, hkey, dk, hdk, hdn⟩ := hA.key
    have pc : p.2.2.2.1.2.1 = z.2.2.2.2.2.2.2.2.1 := by rw [hpz]
    have pk : p.2.2.2.1.2.2.1 = (k : Int) := by rw [hpz]; exact hkey
    have pu : p.2.2.2.1.2.2.2.1 = [] := by rw [hpz]
    have pr : p.2.2.2.1.2.2.2.2.1 = [] := by rw [hpz]
    have q1 : decide (p.2.2.2.1.2.2.1 < 0) = false := by rw [pk]; exact decide_eq_false (by show ¬ LT.lt (α := Int) (k : Int) 0; omega)
    have q2 : decide (p.2.2.2.1.2.2.1 ≥ (List.length p.2.2.2.1.2.1 : Int)) = false := by rw [pk, pc]; exact decide_eq_false (by show ¬ ((List.length z.2.2.2.2.2.2.2.2.1 : Int) ≤ (k : Int)); omega)
    have q3 : ((List.length ((pSources p).map (tkAt (pSources p) db)) : Int) == 0) = false := by rw [List.length_map]; simp; intro h; rw [h] at hl0; simp at hl0
    have q4 : (IntKind.i64.wrap ((List.length p.2.2.2.1.2.2.2.1 : Int) + (List.length p.2.2.2.1.2.2.2.2.1 : Int)) != 0) = false := by rw [pu, pr]; rfl
    simp only [heb, htp, htc, q1, q2, q3, q4, bne_self_eq_false, cond_false, Bool.false_eq_true, if_false, if_true]
    have hsl : 0 < List.length ((pSources p).map (tkAt (pSources p) db)) := by rw [List.length_map]; exact hl0.1
    have hs0 : ((pSources p).map (tkAt (pSources p) db))[0] = tkAt (pSources p) db s.2.2.1 := by
      rw [List.getElem_map]
      congr 1
      simp only [hps]
      split <;> rfl
    have hcolF : ∀ (c d : Sem shCol), d ∈ y.2.2.1.2.1 → c.1 = d.1 → c.2.1 = d.2.1 → ColIn ((pSources p).map (tkAt (pSources p) db))[0] c := by
      intro c d hd e1 e2
      rw [hs0]
      exact col_in (x := List.getD db (Int.toNat (bFind db s.2.2.1)) (dflt shRel)) hmayF (by rw [← hfrom]; exact hd) e1 e2
    have hM : ∀ i (hi : i < List.length (pcCols ((p, ()) : CSem cpP))), ∃ (k : Nat) (h : k < List.length ((pSources p).map (tkAt (pSources p) db))), ColIn ((pSources p).map (tkAt (pSources p) db))[k] (pcCols ((p, ()) : CSem cpP))[i] := by
      intro i hi
      have hm : (pcCols ((p, ()) : CSem cpP))[i] ∈ z.2.2.2.2.2.2.2.2.1 := by rw [← pc]; exact List.getElem_mem hi
      obtain ⟨d, hd, e1, e2⟩ := hA.cols _ hm
      rcases hd with hd | ⟨hj, hd⟩
      · exact ⟨0, hsl, hcolF _ d hd e1 e2⟩
      · have hr := join_role hparts (by rw [← n2]; exact hj)
        have hps2 : pSources p = [s.2.2.1, s.2.2.2.2.2.2.2.2.2.2.2.2] := by rw [hps, if_neg (by simpa using hr)]
        have f3 := f2.resolve_left hr
        have hmayW := (rCheck_ok (hrels _ (find_mem (db := db) (s := s.2.2.2.2.2.2.2.2.2.2.2.2) f3))).may
        refine ⟨1, by rw [List.length_map, hps2]; simp, ?_⟩
        have hs1 : ((pSources p).map (tkAt (pSources p) db))[1]'(by rw [List.length_map, hps2]; simp) = tkAt (pSources p) db s.2.2.2.2.2.2.2.2.2.2.2.2 := by
          rw [List.getElem_map]
          congr 1
          simp only [hps2]
          rfl
        rw [hs1]
        refine col_in (x := List.getD db (Int.toNat (bFind db s.2.2.2.2.2.2.2.2.2.2.2.2)) (dflt shRel)) hmayW ?_ e1 e2
        rw [hwith, if_neg hr] at hd
        exact hd
    have hkl' : k < List.length (pcCols ((p, ()) : CSem cpP)) := by show k < List.length p.2.2.2.1.2.1; rw [pc]; exact hkl
    have hkp : ¬ LT.lt (α := Int) (tPlace ((pSources p).map (tkAt (pSources p) db))[0].1 (pcCols ((p, ()) : CSem cpP))[k].1) 0 := by
      have hck : (pcCols ((p, ()) : CSem cpP))[k].1 = dk.1 := by
        rw [← hdn]
        congr 1
        simp only [pcCols, pc]
      rw [hck]
      exact (hcolF dk dk hdk rfl rfl).1
    obtain ⟨r, r1, r2⟩ := lc9 ((pSources p).map (tkAt (pSources p) db)) ((p, ()) : CSem cpP) hsl (by rw [List.length_map]; omega) (by show List.length p.2.2.2.1.2.1 ≤ _; rw [pc]; exact hA.few) hM k hkl' pk hkp (List.length (pcCols ((p, ()) : CSem cpP))) 0 100000000 rfl (Nat.zero_le _)
      (by have : List.length (pcCols ((p, ()) : CSem cpP)) ≤ 1000000 := by (show List.length p.2.2.2.1.2.1 ≤ _; rw [pc]; exact hA.few)
          omega)
    show (iterT t6p 100000000 _).bind _ = _
    have r1' : iterT t6p 100000000 (.h9 ((pSources p).map (tkAt (pSources p) db)) 0 ((p, ()) : CSem cpP)) = some r := r1
    rw [r1']
    exact r2
  · have heb : (e != 0) = true := by simpa using he
    rw [h3 he]
    simp only [heb, if_true]
    rfl

theorem p98 : env98.P = Tryz.prog := rfl
theorem g98 : env98.gl = glOf := rfl
theorem columns_holds : FOk Tryz.prog glOf 6 tru2 := by
 have h := FOk6p
 rw [p98, g98] at h
 exact FOk_true2 h (fun db s => by unfold lColumnsC; rw [lColumns_ok]; rfl) (fun db s => by unfold lColumns; rw [lColumns_ok]; rfl)
end Cad
