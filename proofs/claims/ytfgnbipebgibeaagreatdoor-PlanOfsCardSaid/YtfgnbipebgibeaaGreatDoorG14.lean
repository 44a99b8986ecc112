/- The document's reader: MIGRATE. The document's parser. Statements of texts. The chapter's examples. The document's comparisons and sums; checks. The document's expressions: values; tables that may be. The document's rows. The document's tables with rows, and references. The document's bases. The same columns, numbers, references. The same tables. The document's sources. The same plans; the document's plans. Texts of values and expressions, and tokens: nothing panics. Tokens: nothing panics. Statements' texts: nothing panics. A MIGRATE may be, or not: nothing panics. -/
import Derived.Test.YtfgnbipebgibeaaGreatDoorG13
import Derived.Test.YtfgnbipebgibeaaGreatDoorG11
namespace Cad
open Go Go.Proofs
open Int (toNat)
open List (getD)
open List (length)
noncomputable section
set_option maxHeartbeats 4000000
abbrev lu:List CP:=[.d .str,.d .str,.d .str,.vec .str,.nil,.d .str,.nil,.nil,.d .expr,.nil,.nil,.d .str,.d zf,.d zf,.d .str,.d .str,.nil,.d .str]
abbrev R0:List CP:=[.d .str,.d .str,.d .str,.vec .str,.nil,.d .str,.nil,.nil,.d .str,.d zf,.d zf,.d .str,.d .str,.nil,.nil,.nil,.d .str,.d zf,.d zf,.d .str,.d .str,.nil,.d .str]

abbrev IS:Nat→aJ:=fun j=>if j=14 then { slots:=[0,1,4],prom:=[(1,some 3,.str)] } else if j=1000000 then { prom:=[(1,some 3,.str)] } else { }
inductive qa where
 | h14 (z0:zo aG) (z1:zo R0)
 | h14b (b4:Sem Sh.bool) (z0:zo aG) (z1:zo R0)
abbrev Gf:qa→Nat×St
 | .h14 z0 z1=>(14,⟨tm 117 [(0,AV.ptr 0 0),(1,AV.ptr 1 0),(4,AV.kb true)],[AO.box (ch [] aG z0),AO.box (ch [2] R0 z1),AO.vec Sh.str z1.2.2.2.1]⟩)
 | .h14b b4 z0 z1=>(14,⟨tm 117 [(0,AV.ptr 0 0),(1,AV.ptr 1 0),(4,AV.bool b4)],[AO.box (ch [] aG z0),AO.box (ch [2] R0 z1),AO.vec Sh.str z1.2.2.2.1]⟩)
theorem X9:zK Gz.P 114 Tryz.f114 2:=bN (by kernel_rfl)
def Ow (y:zo aG) (z:zo ij):Tr (qa ⊕ aF):=
 let a0:=(y.1,y.2.1,y.2.2.1,())
 let a1:=eK a0 [67,79,80,89]
 let a2:=(a1.2.1,a1.2.2.1,a1.2.2.2.1,())
 let a3:=bJ a2
 let a4:=(a3.2.1,a3.2.2.1,a3.2.2.2.1,())
 let a5:=bC a4 [70,82,79,77]
 let a6:=(a5.1,a5.2.1,a5.2.2.1,())
 let a7:=bJ a6
 let a8:=(a7.2.1,a7.2.2.1,a7.2.2.2.1,())
 let a9:=([],z.2.2.2)
 let a10:=bC a8 [44]
 let a11:=(a10.1,a10.2.1,a10.2.2.1,())
 let a12:=bJ a11
 let a13:=(a12.2.1,a12.2.2.1,a12.2.2.2.1,())
 let a14:=bC a13 [79,78]
 let a15:=(a14.1,a14.2.1,a14.2.2.1,())
 let a16:=bJ a15
 let a17:=(a16.2.1,a16.2.2.1,a16.2.2.2.1,())
 let a18:=ei a17 [67,72,69,67,75]
 let a19:=bC a8 [66,89]
 let a20:=(a19.1,a19.2.1,a19.2.2.1,())
 let a21:=bJ a20
 let a22:=[a21.1]
 let a23:=(a21.2.1,a21.2.2.1,a21.2.2.2.1,())
 let a24:=bC a23 [83,85,77]
 let a25:=(a24.1,a24.2.1,a24.2.2.1,())
 let a26:=bJ a25
 let a27:=[a26.1]
 let a28:=(a26.2.1,a26.2.2.1,a26.2.2.2.1,())
 let a29:=ei a28 [67,72,69,67,75]
 let a30:=ei a8 [67,72,69,67,75]
 let a31:=eK a2 [74,79,73,78]
 let a32:=(a31.2.1,a31.2.2.1,a31.2.2.2.1,())
 let a33:=bJ a32
 let a34:=(a33.2.1,a33.2.2.1,a33.2.2.2.1,())
 let a35:=bC a34 [70,82,79,77]
 let a36:=(a35.1,a35.2.1,a35.2.2.1,())
 let a37:=bJ a36
 let a38:=(a37.2.1,a37.2.2.1,a37.2.2.2.1,())
 let a39:=bC a38 [44]
 let a40:=(a39.1,a39.2.1,a39.2.2.1,())
 let a41:=bJ a40
 let a42:=(a41.2.1,a41.2.2.1,a41.2.2.2.1,())
 let a43:=bC a42 [79,78]
 let a44:=(a43.1,a43.2.1,a43.2.2.1,())
 let a45:=bJ a44
 let a46:=(a45.2.1,a45.2.2.1,a45.2.2.2.1,())
 let a47:=ei a46 [67,72,69,67,75]
 let a48:=bC a38 [66,89]
 let a49:=(a48.1,a48.2.1,a48.2.2.1,())
 let a50:=bJ a49
 let a51:=[a50.1]
 let a52:=(a50.2.1,a50.2.2.1,a50.2.2.2.1,())
 let a53:=bC a52 [83,85,77]
 let a54:=(a53.1,a53.2.1,a53.2.2.1,())
 let a55:=bJ a54
 let a56:=[a55.1]
 let a57:=(a55.2.1,a55.2.2.1,a55.2.2.2.1,())
 let a58:=ei a57 [67,72,69,67,75]
 let a59:=ei a38 [67,72,69,67,75]
 let a60:=eK a32 [71,82,79,85,80]
 let a61:=(a60.2.1,a60.2.2.1,a60.2.2.2.1,())
 let a62:=bJ a61
 let a63:=(a62.2.1,a62.2.2.1,a62.2.2.2.1,())
 let a64:=bC a63 [70,82,79,77]
 let a65:=(a64.1,a64.2.1,a64.2.2.1,())
 let a66:=bJ a65
 let a67:=(a66.2.1,a66.2.2.1,a66.2.2.2.1,())
 let a68:=bC a67 [44]
 let a69:=(a68.1,a68.2.1,a68.2.2.1,())
 let a70:=bJ a69
 let a71:=(a70.2.1,a70.2.2.1,a70.2.2.2.1,())
 let a72:=bC a71 [79,78]
 let a73:=(a72.1,a72.2.1,a72.2.2.1,())
 let a74:=bJ a73
 let a75:=(a74.2.1,a74.2.2.1,a74.2.2.2.1,())
 let a76:=ei a75 [67,72,69,67,75]
 let a77:=bC a67 [66,89]
 let a78:=(a77.1,a77.2.1,a77.2.2.1,())
 let a79:=bJ a78
 let a80:=[a79.1]
 let a81:=(a79.2.1,a79.2.2.1,a79.2.2.2.1,())
 let a82:=bC a81 [83,85,77]
 let a83:=(a82.1,a82.2.1,a82.2.2.1,())
 let a84:=bJ a83
 let a85:=[a84.1]
 let a86:=(a84.2.1,a84.2.2.1,a84.2.2.2.1,())
 let a87:=ei a86 [67,72,69,67,75]
 let a88:=ei a67 [67,72,69,67,75]
 let a89:=(a60.2.1,a60.2.2.1,false,())
 let a90:=bJ a89
 let a91:=(a90.2.1,a90.2.2.1,a90.2.2.2.1,())
 let a92:=bC a91 [70,82,79,77]
 let a93:=(a92.1,a92.2.1,a92.2.2.1,())
 let a94:=bJ a93
 let a95:=(a94.2.1,a94.2.2.1,a94.2.2.2.1,())
 let a96:=bC a95 [44]
 let a97:=(a96.1,a96.2.1,a96.2.2.1,())
 let a98:=bJ a97
 let a99:=(a98.2.1,a98.2.2.1,a98.2.2.2.1,())
 let a100:=bC a99 [79,78]
 let a101:=(a100.1,a100.2.1,a100.2.2.1,())
 let a102:=bJ a101
 let a103:=(a102.2.1,a102.2.2.1,a102.2.2.2.1,())
 let a104:=ei a103 [67,72,69,67,75]
 let a105:=bC a95 [66,89]
 let a106:=(a105.1,a105.2.1,a105.2.2.1,())
 let a107:=bJ a106
 let a108:=[a107.1]
 let a109:=(a107.2.1,a107.2.2.1,a107.2.2.2.1,())
 let a110:=bC a109 [83,85,77]
 let a111:=(a110.1,a110.2.1,a110.2.2.1,())
 let a112:=bJ a111
 let a113:=[a112.1]
 let a114:=(a112.2.1,a112.2.2.1,a112.2.2.2.1,())
 let a115:=ei a114 [67,72,69,67,75]
 let a116:=ei a95 [67,72,69,67,75]
 Tr.chk (dv a0 [67,79,80,89])
 (Tr.br a1.1
  (Tr.chk (bf a2) (Tr.chk (aT a4 [70,82,79,77]) (Tr.chk (bf a6) (Tr.br true (Tr.chk (aT a8 [40]) (Tr.to (qa.h14 (bC a8 [40]) ([99,111,112,121],a3.1,a7.1,a9)))) (Tr.br false (Tr.chk (aT a8 [44]) (Tr.chk (bf a11) (Tr.chk (aT a13 [79,78]) (Tr.chk (bf a15) (Tr.chk (dk a17 [67,72,69,67,75]) (Tr.re (AV.tup []) (bT aG lu a18.2
  ([99,111,112,121],a3.1,a7.1,[],a16.1,a18.1,z.2.2.2.2.2.2.2.2.2.1,z.2.2.2.2.2.2.2.2.2.2.1,z.2.2.2.2.2.2.2.2.2.2.2.1,z.2.2.2.2.2.2.2.2.2.2.2.2.1,z.2.2.2.2.2.2.2.2.2.2.2.2.2.1,a12.1,())))))))) (Tr.br false (Tr.chk (aT a8 [66,89]) (Tr.chk (bf a20) (Tr.chk (decide (a22.length≤1073741824)) (Tr.chk (aT a23 [83,85,77]) (Tr.chk (bf a25)
  (Tr.chk (decide (a22.length+a27.length≤1073741824)) (Tr.chk (dk a28 [67,72,69,67,75]) (Tr.re (AV.tup []) (bT aG lu a29.2 ([99,111,112,121],a3.1,a7.1,a22++a27,z.2.2.2.1,a29.1,z.2.2.2.2.2.2.2.2.2)))))))))) (Tr.chk (dk a8 [67,72,69,67,75]) (Tr.re (AV.tup []) (bT aG lu a30.2
  ([99,111,112,121],a3.1,a7.1,[],z.2.2.2.1,a30.1,z.2.2.2.2.2.2.2.2.2))))))))))
  (Tr.chk (dv a2 [74,79,73,78]) (Tr.br a31.1 (Tr.chk (bf a32) (Tr.chk (aT a34 [70,82,79,77]) (Tr.chk (bf a36) (Tr.br false (Tr.chk (aT a38 [40]) (Tr.to (qa.h14 (bC a38 [40]) ([106,111,105,110],a33.1,a37.1,a9)))) (Tr.br true (Tr.chk (aT a38 [44]) (Tr.chk (bf a40) (Tr.chk (aT a42 [79,78]) (Tr.chk (bf a44)
  (Tr.chk (dk a46 [67,72,69,67,75]) (Tr.re (AV.tup []) (bT aG lu a47.2 ([106,111,105,110],a33.1,a37.1,[],a45.1,a47.1,z.2.2.2.2.2.2.2.2.2.1,z.2.2.2.2.2.2.2.2.2.2.1,z.2.2.2.2.2.2.2.2.2.2.2.1,z.2.2.2.2.2.2.2.2.2.2.2.2.1,z.2.2.2.2.2.2.2.2.2.2.2.2.2.1,a41.1,())))))))) (Tr.br false (Tr.chk (aT a38 [66,89]) (Tr.chk (bf a49)
  (Tr.chk (decide (a51.length≤1073741824)) (Tr.chk (aT a52 [83,85,77]) (Tr.chk (bf a54) (Tr.chk (decide (a51.length+a56.length≤1073741824)) (Tr.chk (dk a57 [67,72,69,67,75]) (Tr.re (AV.tup []) (bT aG lu a58.2 ([106,111,105,110],a33.1,a37.1,a51++a56,z.2.2.2.1,a58.1,z.2.2.2.2.2.2.2.2.2)))))))))) (Tr.chk (dk a38 [67,72,69,67,75])
  (Tr.re (AV.tup []) (bT aG lu a59.2 ([106,111,105,110],a33.1,a37.1,[],z.2.2.2.1,a59.1,z.2.2.2.2.2.2.2.2.2)))))))))) (Tr.chk (dv a32 [71,82,79,85,80]) (Tr.br a60.1 (Tr.chk (bf a61) (Tr.chk (aT a63 [70,82,79,77]) (Tr.chk (bf a65) (Tr.br false (Tr.chk (aT a67 [40]) (Tr.to (qa.h14 (bC a67 [40]) ([103,114,111,117,112],a62.1,a66.1,a9))))
  (Tr.br false (Tr.chk (aT a67 [44]) (Tr.chk (bf a69) (Tr.chk (aT a71 [79,78]) (Tr.chk (bf a73) (Tr.chk (dk a75 [67,72,69,67,75]) (Tr.re (AV.tup []) (bT aG lu a76.2 ([103,114,111,117,112],a62.1,a66.1,[],a74.1,a76.1,z.2.2.2.2.2.2.2.2.2.1,z.2.2.2.2.2.2.2.2.2.2.1,z.2.2.2.2.2.2.2.2.2.2.2.1,
  z.2.2.2.2.2.2.2.2.2.2.2.2.1,z.2.2.2.2.2.2.2.2.2.2.2.2.2.1,a70.1,())))))))) (Tr.br true (Tr.chk (aT a67 [66,89]) (Tr.chk (bf a78) (Tr.chk (decide (a80.length≤1073741824)) (Tr.chk (aT a81 [83,85,77]) (Tr.chk (bf a83) (Tr.chk (decide (a80.length+a85.length≤1073741824)) (Tr.chk (dk a86 [67,72,69,67,75]) (Tr.re (AV.tup []) (bT aG lu a87.2
  ([103,114,111,117,112],a62.1,a66.1,a80++a85,z.2.2.2.1,a87.1,z.2.2.2.2.2.2.2.2.2)))))))))) (Tr.chk (dk a67 [67,72,69,67,75]) (Tr.re (AV.tup []) (bT aG lu a88.2 ([103,114,111,117,112],a62.1,a66.1,[],z.2.2.2.1,a88.1,z.2.2.2.2.2.2.2.2.2)))))))))) (Tr.chk (bf a89) (Tr.chk (aT a91 [70,82,79,77]) (Tr.chk (bf a93)
  (Tr.br (z.1==[99,111,112,121]) (Tr.chk (aT a95 [40]) (Tr.to (qa.h14 (bC a95 [40]) (z.1,a90.1,a94.1,a9)))) (Tr.br (z.1==[106,111,105,110]) (Tr.chk (aT a95 [44]) (Tr.chk (bf a97) (Tr.chk (aT a99 [79,78]) (Tr.chk (bf a101) (Tr.chk (dk a103 [67,72,69,67,75]) (Tr.re (AV.tup []) (bT aG lu a104.2
  (z.1,a90.1,a94.1,[],a102.1,a104.1,z.2.2.2.2.2.2.2.2.2.1,z.2.2.2.2.2.2.2.2.2.2.1,z.2.2.2.2.2.2.2.2.2.2.2.1,z.2.2.2.2.2.2.2.2.2.2.2.2.1,z.2.2.2.2.2.2.2.2.2.2.2.2.2.1,a98.1,())))))))) (Tr.br (z.1==[103,114,111,117,112]) (Tr.chk (aT a95 [66,89]) (Tr.chk (bf a106) (Tr.chk (decide (a108.length≤1073741824)) (Tr.chk (aT a109 [83,85,77]) (Tr.chk (bf a111)
  (Tr.chk (decide (a108.length+a113.length≤1073741824)) (Tr.chk (dk a114 [67,72,69,67,75]) (Tr.re (AV.tup []) (bT aG lu a115.2 (z.1,a90.1,a94.1,a108++a113,z.2.2.2.1,a115.1,z.2.2.2.2.2.2.2.2.2)))))))))) (Tr.chk (dk a95 [67,72,69,67,75]) (Tr.re (AV.tup []) (bT aG lu a116.2 (z.1,a90.1,a94.1,[],z.2.2.2.1,a116.1,z.2.2.2.2.2.2.2.2.2)))))))))))))))
theorem Xj (y:zo aG) (z:zo ij):rn Gz 2 IS Tryz.f114 [AV.ptr 0 0,AV.ptr 1 0] (bT aG ij y z)=(Ow y z).map (lf Tryz.f114 Gf):=by kernel_rfl
def Qs:qa→Tr (qa ⊕ aF)
 | .h14 z0 z1=>
  let a0:=(z0.1,z0.2.1,z0.2.2.1,())
  let a1:=bJ a0
  let a2:=[a1.1]
  let a3:=(a1.2.1,a1.2.2.1,a1.2.2.2.1,())
  let a4:=eK a3 [44]
  let a5:=bC a0 [41]
  let a6:=(a5.1,a5.2.1,a5.2.2.1,())
  let a7:=ei a6 [67,72,69,67,75]
  Tr.br z0.2.2.1
  (Tr.chk (bf a0)
   (Tr.chk (decide (z1.2.2.2.1.length+a2.length≤1073741824)) (Tr.chk (dv a3 [44]) (Tr.to (qa.h14b a4.1 a4.2 (z1.1,z1.2.1,z1.2.2.1,z1.2.2.2.1++a2,z1.2.2.2.2))))))
  (Tr.chk (aT a0 [41])
   (Tr.chk (dk a6 [67,72,69,67,75]) (Tr.re (AV.tup []) (bT aG lu a7.2 (z1.1,z1.2.1,z1.2.2.1,z1.2.2.2.1,z1.2.2.2.2.1,a7.1,z1.2.2.2.2.2.2.2.2.2.2)))))
 | .h14b b4 z0 z1=>
  let a0:=(z0.1,z0.2.1,z0.2.2.1,())
  let a1:=bJ a0
  let a2:=[a1.1]
  let a3:=(a1.2.1,a1.2.2.1,a1.2.2.2.1,())
  let a4:=eK a3 [44]
  let a5:=bC a0 [41]
  let a6:=(a5.1,a5.2.1,a5.2.2.1,())
  let a7:=ei a6 [67,72,69,67,75]
  Tr.br (bif b4 then z0.2.2.1 else false)
  (Tr.chk (bf a0)
   (Tr.chk (decide (z1.2.2.2.1.length+a2.length≤1073741824)) (Tr.chk (dv a3 [44]) (Tr.to (qa.h14b a4.1 a4.2 (z1.1,z1.2.1,z1.2.2.1,z1.2.2.2.1++a2,z1.2.2.2.2))))))
  (Tr.chk (aT a0 [41])
   (Tr.chk (dk a6 [67,72,69,67,75]) (Tr.re (AV.tup []) (bT aG lu a7.2 (z1.1,z1.2.1,z1.2.2.1,z1.2.2.2.1,z1.2.2.2.2.1,a7.1,z1.2.2.2.2.2.2.2.2.2.2)))))
theorem Yg:∀ s,run Gz 2 IS (Func.results Tryz.f114).toList 400 (zI Tryz.f114 (Gf s).1) (Gf s).2=(Qs s).map (lf Tryz.f114 Gf)
 | .h14 z0 z1=>by kernel_rfl
 | .h14b b4 z0 z1=>by kernel_rfl
def Qb (y:zo aG) (z:zo ij):Option (zC (List.map some [])×zo aG×zo lu):=KK [] aG lu Qs 100000000 (Ow y z)
def Qa (y:zo aG) (z:zo ij):Bool:=(Qb y z).isSome
def U9 (y:zo aG) (z:zo ij):zo aG×zo lu:=(fun r:zC (List.map some [])×zo aG×zo lu=>r.2) ((Qb y z).getD (cA [],fH aG,fH lu))
def Te:zT:=Nv aG ij [] [] aG lu (fun y z _=>Qa y z) fun y z _=>((),U9 y z)
theorem QV:FK 114 Te:=WK (ps:=aG) (qs:=ij) (ks:=[]) (outs:=[]) (keep:=IS) (gas:=400) (n:=100000000) (e:=Gf) (t:=Qs) (i:=fun y z x=>Ow y z) CC X9 (fun y z x=>Xj y z) Yg (fun _ _ _=>by kernel_rfl) (fun _ _ _=>by kernel_rfl)

def Um:=Gz.add 114 Te
theorem CD:zy Um:=CC.add QV
end
noncomputable section

abbrev zcH:=qm [(17,[2,4,6,7,8]),(25,[2,4,6,7,9])]
inductive Lv where
 | h17 (l4:LF) (z0:zo ij) (z1:zo aG) (z2:zo ij)
 | h25 (l4:LF) (z0:zo ij) (z1:zo aG) (z2:zo ij)
abbrev zeW:Lv→Nat×St
 | .h17 l4 z0 z1 z2=>(17,⟨tm 172 [(2,AV.ptr 0 0),(4,AV.sl zq l4),(6,AV.ptr 1 0),(7,AV.ptr 2 0),(8,AV.kb true)],[AO.box (ch [] ij z0),AO.box (ch [] aG z1),AO.box (ch [] ij z2)]⟩)
 | .h25 l4 z0 z1 z2=>(25,⟨tm 172 [(2,AV.ptr 0 0),(4,AV.sl zq l4),(6,AV.ptr 1 0),(7,AV.ptr 2 0),(9,AV.kb true)],[AO.box (ch [] ij z0),AO.box (ch [] aG z1),AO.box (ch [] ij z2)]⟩)
def zf7 (x0:TS):Tr (Lv ⊕ aF):=
 let a0:=((vZ x0).1,0,true,())
 let a1:=eK a0 [67,82,69,65,84,69]
 let a2:=(a1.2.1,a1.2.2.1,a1.2.2.2.1,())
 let a3:=eK a2 [68,82,79,80]
 let a4:=(a3.2.1,a3.2.2.1,a3.2.2.2.1,())
 let a5:=bC a4 [84,65,66,76,69]
 let a6:=(a5.1,a5.2.1,a5.2.2.1,())
 let a7:=bJ a6
 let a8:=(↑(length (vZ x0).1):Int)
 let a9:=([100,114,111,112],a7.1,[],[],[],[],[],[],ze.mk [] (0,0,[]) [] [],[],[],ze.mk [] (0,0,[]) [] [],[])
 let a10:=ke a9
 let a11:=eK a4 [73,78,83,69,82,84]
 let a12:=(a11.2.1,a11.2.2.1,a11.2.2.2.1,())
 let a13:=bC a12 [73,78,84,79]
 let a14:=(a13.1,a13.2.1,a13.2.2.1,())
 let a15:=bJ a14
 let a16:=(a15.2.1,a15.2.2.1,a15.2.2.2.1,())
 let a17:=bC a16 [86,65,76,85,69,83]
 let a18:=(a17.1,a17.2.1,a17.2.2.1,())
 let a19:=eK a12 [85,80,68,65,84,69]
 let a20:=(a19.2.1,a19.2.2.1,a19.2.2.2.1,())
 let a21:=bJ a20
 let a22:=(a21.2.1,a21.2.2.1,a21.2.2.2.1,())
 let a23:=eK a20 [68,69,76,69,84,69]
 let a24:=(a23.2.1,a23.2.2.1,a23.2.2.2.1,())
 let a25:=bC a24 [70,82,79,77]
 let a26:=(a25.1,a25.2.1,a25.2.2.1,())
 let a27:=bJ a26
 let a28:=(a27.2.1,a27.2.2.1,a27.2.2.2.1,())
 let a29:=ei a28 [87,72,69,82,69]
 let a30:=([100,101,108,101,116,101],a27.1,[],[],[],[],[],[],ze.mk [] (0,0,[]) [] [],[],[],zm a29.1,[])
 let a31:=ke a30
 let a32:=eK a24 [83,69,76,69,67,84]
 let a33:=(a32.2.1,a32.2.2.1,a32.2.2.2.1,())
 let a34:=bC a33 [42]
 let a35:=(a34.1,a34.2.1,a34.2.2.1,())
 let a36:=bC a35 [70,82,79,77]
 let a37:=(a36.1,a36.2.1,a36.2.2.1,())
 let a38:=bJ a37
 let a39:=(a38.2.1,a38.2.2.1,a38.2.2.2.1,())
 let a40:=ei a39 [87,72,69,82,69]
 let a41:=([115,101,108,101,99,116],a38.1,[],[],[],[],[],[],ze.mk [] (0,0,[]) [] [],[],[],zm a40.1,[])
 let a42:=ke a41
 let a43:=eK a33 [71,82,65,78,84]
 let a44:=(a43.2.1,a43.2.2.1,a43.2.2.2.1,())
 let a45:=HG a44 [82,69,65,68]
 let a46:=eK a44 [82,69,86,79,75,69]
 let a47:=(a46.2.1,a46.2.2.1,a46.2.2.2.1,())
 let a48:=HG a47 [82,69,65,68]
 let a49:=eK a47 [77,73,71,82,65,84,69]
 let a50:=(a49.2.1,a49.2.2.1,a49.2.2.2.1,())
 let a51:=U9 a50 ([],[],[],[],[],0,0,[],[],[],0,0,[],[],[],())
 let a52:=(a51.2.1,a51.2.2.1,a51.2.2.2.1,a51.2.2.2.2.1,[],a51.2.2.2.2.2.1,[],[],zm a51.2.2.2.2.2.2.1,[],[],ze.mk a51.2.2.2.2.2.2.2.1 (a51.2.2.2.2.2.2.2.2.1,a51.2.2.2.2.2.2.2.2.2.1,a51.2.2.2.2.2.2.2.2.2.2.1) a51.2.2.2.2.2.2.2.2.2.2.2.1 [],a51.2.2.2.2.2.2.2.2.2.2.2.2.1)
 let a53:=ke a52
 Tr.chk (ET x0)
 (Tr.br (!(vZ x0).2)
  (Tr.re (AV.tup [AV.agg [AV.str [],AV.str [],AV.str [],AV.nils,AV.nils,AV.str [],AV.nils,AV.nils,AV.str [],AV.int .i64 0,AV.int .i64 0,AV.str [],AV.str [],AV.nils,AV.nils,AV.nils,AV.str [],AV.int .i64 0,AV.int .i64 0,AV.str [],AV.str [],AV.nils,AV.str []],AV.kb false]) [])
  (Tr.chk (dv a0 [67,82,69,65,84,69]) (Tr.br a1.1 Tr.err (Tr.chk (dv a2 [68,82,79,80]) (Tr.br a3.1 (Tr.chk (aT a4 [84,65,66,76,69]) (Tr.chk (bf a6) (Tr.br (bif !a7.2.2.2.1 then true else a7.2.2.1 != a8) (Tr.re (AV.tup [AV.agg [AV.str [],AV.str [],AV.str [],AV.nils,AV.nils,AV.str [],AV.nils,AV.nils,AV.str [],AV.int .i64 0,
  AV.int .i64 0,AV.str [],AV.str [],AV.nils,AV.nils,AV.nils,AV.str [],AV.int .i64 0,AV.int .i64 0,AV.str [],AV.str [],AV.nils,AV.str []],AV.kb false]) []) (Tr.chk (gT a9) (Tr.br (!a10.2) (Tr.re (AV.tup [AV.agg [AV.str [],AV.str [],AV.str [],AV.nils,AV.nils,AV.str [],AV.nils,AV.nils,AV.str [],AV.int .i64 0,
  AV.int .i64 0,AV.str [],AV.str [],AV.nils,AV.nils,AV.nils,AV.str [],AV.int .i64 0,AV.int .i64 0,AV.str [],AV.str [],AV.nils,AV.str []],AV.kb false]) []) (Tr.re (AV.tup [AV.agg [AV.str [100,114,111,112],AV.str a7.1,AV.str [],AV.nils,AV.nils,AV.str [],AV.nils,AV.nils,AV.str [],
  AV.int .i64 0,AV.int .i64 0,AV.str [],AV.str [],AV.nils,AV.nils,AV.nils,AV.str [],AV.int .i64 0,AV.int .i64 0,AV.str [],AV.str [],AV.nils,AV.str []],AV.kb true]) [])))))) (Tr.chk (dv a4 [73,78,83,69,82,84]) (Tr.br a11.1 (Tr.chk (aT a12 [73,78,84,79]) (Tr.chk (bf a14) (Tr.chk (aT a16 [86,65,76,85,69,83]) (Tr.chk (aT a18 [40]) (Tr.to
  (Lv.h17 (vZ x0).1 ([],[],[],[],[],0,0,[],[],[],0,0,[],[],[],()) (bC a18 [40]) ([105,110,115,101,114,116],a15.1,[],[],[],0,0,[],[],[],0,0,[],[],[],()))))))) (Tr.chk (dv a12 [85,80,68,65,84,69]) (Tr.br a19.1 (Tr.chk (bf a20) (Tr.chk (aT a22 [83,69,84]) (Tr.to
  (Lv.h25 (vZ x0).1 ([],[],[],[],[],0,0,[],[],[],0,0,[],[],[],()) (bC a22 [83,69,84]) ([117,112,100,97,116,101],a21.1,[],[],[],0,0,[],[],[],0,0,[],[],[],()))))) (Tr.chk (dv a20 [68,69,76,69,84,69]) (Tr.br a23.1 (Tr.chk (aT a24 [70,82,79,77]) (Tr.chk (bf a26) (Tr.chk (dk a28 [87,72,69,82,69])
  (Tr.br (bif !a29.2.2.2.1 then true else a29.2.2.1 != a8) (Tr.re (AV.tup [AV.agg [AV.str [],AV.str [],AV.str [],AV.nils,AV.nils,AV.str [],AV.nils,AV.nils,AV.str [],AV.int .i64 0,AV.int .i64 0,AV.str [],AV.str [],AV.nils,AV.nils,AV.nils,AV.str [],AV.int .i64 0,AV.int .i64 0,AV.str [],AV.str [],AV.nils,AV.str []],AV.kb false]) []) (Tr.chk (gT a30) (Tr.br (!a31.2)
  (Tr.re (AV.tup [AV.agg [AV.str [],AV.str [],AV.str [],AV.nils,AV.nils,AV.str [],AV.nils,AV.nils,AV.str [],AV.int .i64 0,AV.int .i64 0,AV.str [],AV.str [],AV.nils,AV.nils,AV.nils,AV.str [],AV.int .i64 0,AV.int .i64 0,AV.str [],AV.str [],AV.nils,AV.str []],AV.kb false]) []) (Tr.re (AV.tup [AV.agg
  [AV.str [100,101,108,101,116,101],AV.str a27.1,AV.str [],AV.nils,AV.nils,AV.str [],AV.nils,AV.nils,AV.str [],AV.int .i64 0,AV.int .i64 0,AV.str [],AV.str [],AV.nils,AV.nils,AV.nils,AV.str (ze.op a29.1),AV.int .i64 (ze.v a29.1).1,AV.int .i64 (ze.v a29.1).2.1,AV.str (ze.v a29.1).2.2,AV.str (ze.s a29.1),AV.sl Sh.expr (ze.l a29.1),AV.str []],
  AV.kb true]) []))))))) (Tr.chk (dv a24 [83,69,76,69,67,84]) (Tr.br a32.1 (Tr.chk (aT a33 [42]) (Tr.chk (aT a35 [70,82,79,77]) (Tr.chk (bf a37) (Tr.chk (dk a39 [87,72,69,82,69]) (Tr.br (bif !a40.2.2.2.1 then true else a40.2.2.1 != a8) (Tr.re (AV.tup [AV.agg
  [AV.str [],AV.str [],AV.str [],AV.nils,AV.nils,AV.str [],AV.nils,AV.nils,AV.str [],AV.int .i64 0,AV.int .i64 0,AV.str [],AV.str [],AV.nils,AV.nils,AV.nils,AV.str [],AV.int .i64 0,AV.int .i64 0,AV.str [],AV.str [],AV.nils,AV.str []],AV.kb false]) []) (Tr.chk (gT a41) (Tr.br (!a42.2) (Tr.re (AV.tup [AV.agg
  [AV.str [],AV.str [],AV.str [],AV.nils,AV.nils,AV.str [],AV.nils,AV.nils,AV.str [],AV.int .i64 0,AV.int .i64 0,AV.str [],AV.str [],AV.nils,AV.nils,AV.nils,AV.str [],AV.int .i64 0,AV.int .i64 0,AV.str [],AV.str [],AV.nils,AV.str []],AV.kb false]) []) (Tr.re (AV.tup [AV.agg
  [AV.str [115,101,108,101,99,116],AV.str a38.1,AV.str [],AV.nils,AV.nils,AV.str [],AV.nils,AV.nils,AV.str [],AV.int .i64 0,AV.int .i64 0,AV.str [],AV.str [],AV.nils,AV.nils,AV.nils,AV.str (ze.op a40.1),AV.int .i64 (ze.v a40.1).1,AV.int .i64 (ze.v a40.1).2.1,AV.str (ze.v a40.1).2.2,AV.str (ze.s a40.1),AV.sl Sh.expr (ze.l a40.1),AV.str []],
  AV.kb true]) [])))))))) (Tr.chk (dv a33 [71,82,65,78,84]) (Tr.br a43.1 (Tr.chk (E1 a44 [82,69,65,68]) (Tr.br a45.1 Tr.err Tr.err)) (Tr.chk (dv a44 [82,69,86,79,75,69]) (Tr.br a46.1 (Tr.chk (E1 a47 [82,69,65,68]) (Tr.br a48.1 Tr.err Tr.err)) (Tr.chk (dv a47 [77,73,71,82,65,84,69]) (Tr.br a49.1
  (Tr.chk (Qa a50 ([],[],[],[],[],0,0,[],[],[],0,0,[],[],[],())) (Tr.br (bif !a51.1.2.2.1 then true else a51.1.2.1 != a8) (Tr.re (AV.tup [AV.agg [AV.str [],AV.str [],AV.str [],AV.nils,AV.nils,AV.str [],AV.nils,AV.nils,AV.str [],AV.int .i64 0,AV.int .i64 0,AV.str [],AV.str [],AV.nils,AV.nils,AV.nils,AV.str [],
  AV.int .i64 0,AV.int .i64 0,AV.str [],AV.str [],AV.nils,AV.str []],AV.kb false]) []) (Tr.chk (gT a52) (Tr.br (!a53.2) (Tr.re (AV.tup [AV.agg [AV.str [],AV.str [],AV.str [],AV.nils,AV.nils,AV.str [],AV.nils,AV.nils,AV.str [],AV.int .i64 0,AV.int .i64 0,AV.str [],AV.str [],AV.nils,AV.nils,AV.nils,
  AV.str [],AV.int .i64 0,AV.int .i64 0,AV.str [],AV.str [],AV.nils,AV.str []],AV.kb false]) []) (Tr.re (AV.tup [AV.agg [AV.str a51.2.1,AV.str a51.2.2.1,AV.str a51.2.2.2.1,AV.vec 0,AV.nils,AV.str a51.2.2.2.2.2.1,AV.nils,AV.nils,AV.str (ze.op a51.2.2.2.2.2.2.1),AV.int .i64 (ze.v a51.2.2.2.2.2.2.1).1,AV.int .i64 (ze.v a51.2.2.2.2.2.2.1).2.1,
  AV.str (ze.v a51.2.2.2.2.2.2.1).2.2,AV.str (ze.s a51.2.2.2.2.2.2.1),AV.sl Sh.expr (ze.l a51.2.2.2.2.2.2.1),AV.nils,AV.nils,AV.str a51.2.2.2.2.2.2.2.1,AV.int .i64 a51.2.2.2.2.2.2.2.2.1,AV.int .i64 a51.2.2.2.2.2.2.2.2.2.1,AV.str a51.2.2.2.2.2.2.2.2.2.2.1,AV.str a51.2.2.2.2.2.2.2.2.2.2.2.1,AV.nils,AV.str a51.2.2.2.2.2.2.2.2.2.2.2.2.1],AV.kb true])
  [AO.vec Sh.str a51.2.2.2.2.1]))))) (Tr.br (bif !a49.2.2.2.1 then true else a49.2.2.1 != a8) (Tr.re (AV.tup [AV.agg [AV.str [],AV.str [],AV.str [],AV.nils,AV.nils,AV.str [],AV.nils,AV.nils,AV.str [],AV.int .i64 0,AV.int .i64 0,AV.str [],AV.str [],AV.nils,AV.nils,AV.nils,AV.str [],AV.int .i64 0,AV.int .i64 0,AV.str [],AV.str [],AV.nils,AV.str []],AV.kb false]) [])
  (Tr.chk true (Tr.br true (Tr.re (AV.tup [AV.agg [AV.str [],AV.str [],AV.str [],AV.nils,AV.nils,AV.str [],AV.nils,AV.nils,AV.str [],AV.int .i64 0,AV.int .i64 0,AV.str [],AV.str [],AV.nils,AV.nils,AV.nils,AV.str [],AV.int .i64 0,AV.int .i64 0,AV.str [],AV.str [],AV.nils,AV.str []],AV.kb false]) []) (Tr.re (AV.tup [AV.agg
  [AV.str [],AV.str [],AV.str [],AV.nils,AV.nils,AV.str [],AV.nils,AV.nils,AV.str [],AV.int .i64 0,AV.int .i64 0,AV.str [],AV.str [],AV.nils,AV.nils,AV.nils,AV.str [],AV.int .i64 0,AV.int .i64 0,AV.str [],AV.str [],AV.nils,AV.str []],AV.kb true]) [])))))))))))))))))))))))
def zgD:Lv→Tr (Lv ⊕ aF)
 | .h17 l4 _ z1 z2=>
  let a0:=(z1.1,z1.2.1,z1.2.2.1,())
  let a1:=bC a0 [41]
  let a2:=(z2.1,z2.2.1,z2.2.2.1,[],[],z2.2.2.2.1,[],[],ze.mk z2.2.2.2.2.1 (z2.2.2.2.2.2.1,z2.2.2.2.2.2.2.1,z2.2.2.2.2.2.2.2.1) z2.2.2.2.2.2.2.2.2.1 [],[],[],ze.mk z2.2.2.2.2.2.2.2.2.2.1 (z2.2.2.2.2.2.2.2.2.2.2.1,z2.2.2.2.2.2.2.2.2.2.2.2.1,z2.2.2.2.2.2.2.2.2.2.2.2.2.1) z2.2.2.2.2.2.2.2.2.2.2.2.2.2.1 [],z2.2.2.2.2.2.2.2.2.2.2.2.2.2.2.1)
  let a3:=ke a2
  Tr.br z1.2.2.1 Tr.err
  (Tr.chk (aT a0 [41])
   (Tr.br (bif !a1.2.2.1 then true else a1.2.1 != (↑l4.length:Int)) (Tr.re (AV.tup [AV.agg [AV.str [],AV.str [],AV.str [],AV.nils,AV.nils,AV.str [],AV.nils,AV.nils,AV.str [],AV.int .i64 0,AV.int .i64 0,AV.str [],AV.str [],AV.nils,AV.nils,AV.nils,AV.str [],AV.int .i64 0,AV.int .i64 0,AV.str [],AV.str [],AV.nils,AV.str []],AV.kb false]) []) (Tr.chk (gT a2)
   (Tr.br (!a3.2) (Tr.re (AV.tup [AV.agg [AV.str [],AV.str [],AV.str [],AV.nils,AV.nils,AV.str [],AV.nils,AV.nils,AV.str [],AV.int .i64 0,AV.int .i64 0,AV.str [],AV.str [],AV.nils,AV.nils,AV.nils,AV.str [],AV.int .i64 0,AV.int .i64 0,AV.str [],AV.str [],AV.nils,AV.str []],AV.kb false]) []) (Tr.re (AV.tup [AV.agg
   [AV.str z2.1,AV.str z2.2.1,AV.str z2.2.2.1,AV.nils,AV.nils,AV.str z2.2.2.2.1,AV.nils,AV.nils,AV.str z2.2.2.2.2.1,AV.int .i64 z2.2.2.2.2.2.1,AV.int .i64 z2.2.2.2.2.2.2.1,AV.str z2.2.2.2.2.2.2.2.1,AV.str z2.2.2.2.2.2.2.2.2.1,AV.nils,AV.nils,AV.nils,AV.str z2.2.2.2.2.2.2.2.2.2.1,AV.int .i64 z2.2.2.2.2.2.2.2.2.2.2.1,
   AV.int .i64 z2.2.2.2.2.2.2.2.2.2.2.2.1,AV.str z2.2.2.2.2.2.2.2.2.2.2.2.2.1,AV.str z2.2.2.2.2.2.2.2.2.2.2.2.2.2.1,AV.nils,AV.str z2.2.2.2.2.2.2.2.2.2.2.2.2.2.2.1],AV.kb true]) [])))))
 | .h25 l4 _ z1 z2=>
  let a0:=(z1.1,z1.2.1,z1.2.2.1,())
  let a1:=bJ a0
  let a2:=ei a0 [87,72,69,82,69]
  let a3:=(z2.1,z2.2.1,z2.2.2.1,[],[],z2.2.2.2.1,[],[],ze.mk z2.2.2.2.2.1 (z2.2.2.2.2.2.1,z2.2.2.2.2.2.2.1,z2.2.2.2.2.2.2.2.1) z2.2.2.2.2.2.2.2.2.1 [],[],[],zm a2.1,z2.2.2.2.2.2.2.2.2.2.2.2.2.2.2.1)
  let a4:=ke a3
  Tr.br z1.2.2.1 (Tr.chk (bf a0) (Tr.chk (aT (a1.2.1,a1.2.2.1,a1.2.2.2.1,()) [61]) Tr.err))
  (Tr.chk (dk a0 [87,72,69,82,69])
   (Tr.br (bif !a2.2.2.2.1 then true else a2.2.2.1 != (↑l4.length:Int)) (Tr.re (AV.tup [AV.agg [AV.str [],AV.str [],AV.str [],AV.nils,AV.nils,AV.str [],AV.nils,AV.nils,AV.str [],AV.int .i64 0,AV.int .i64 0,AV.str [],AV.str [],AV.nils,AV.nils,AV.nils,AV.str [],AV.int .i64 0,AV.int .i64 0,AV.str [],AV.str [],AV.nils,AV.str []],AV.kb false]) []) (Tr.chk (gT a3)
   (Tr.br (!a4.2) (Tr.re (AV.tup [AV.agg [AV.str [],AV.str [],AV.str [],AV.nils,AV.nils,AV.str [],AV.nils,AV.nils,AV.str [],AV.int .i64 0,AV.int .i64 0,AV.str [],AV.str [],AV.nils,AV.nils,AV.nils,AV.str [],AV.int .i64 0,AV.int .i64 0,AV.str [],AV.str [],AV.nils,AV.str []],AV.kb false]) []) (Tr.re (AV.tup [AV.agg
   [AV.str z2.1,AV.str z2.2.1,AV.str z2.2.2.1,AV.nils,AV.nils,AV.str z2.2.2.2.1,AV.nils,AV.nils,AV.str z2.2.2.2.2.1,AV.int .i64 z2.2.2.2.2.2.1,AV.int .i64 z2.2.2.2.2.2.2.1,AV.str z2.2.2.2.2.2.2.2.1,AV.str z2.2.2.2.2.2.2.2.2.1,AV.nils,AV.nils,AV.nils,AV.str (ze.op a2.1),AV.int .i64 (ze.v a2.1).1,AV.int .i64 (ze.v a2.1).2.1,
   AV.str (ze.v a2.1).2.2,AV.str (ze.s a2.1),AV.sl Sh.expr (ze.l a2.1),AV.str z2.2.2.2.2.2.2.2.2.2.2.2.2.2.2.1],AV.kb true]) [])))))
def AC (x0:TS):=aA [zk,Sh.bool] zgD 100000000 (zf7 x0)
def P8 (x0:TS):=(AC x0).isSome
def cw (x0:TS):=o2 (AC x0)
def ZG:=FT [Sh.str] [zk,Sh.bool] fun x=>AC x.1
theorem Wo:FK 65 ZG:=CD.T1 (f:=Tryz.f65) (keep:=zcH) (e:=zeW)

def Un:=Um.add 65 ZG
theorem CE:zy Un:=CD.add Wo
end

noncomputable def zf4 (x0:TS):Tr (Empty ⊕ aF):=
 Tr.chk (P8 x0)
 (Tr.re
  (AV.agg [AV.str (cw x0).1.1,AV.str (cw x0).1.2.1,AV.str (cw x0).1.2.2.1,AV.sl Sh.str (cw x0).1.2.2.2.1,AV.sl zh (cw x0).1.2.2.2.2.1,AV.str (cw x0).1.2.2.2.2.2.1,AV.sl Sh.str (cw x0).1.2.2.2.2.2.2.1,AV.sl (Sh.str.pr Sh.str) (cw x0).1.2.2.2.2.2.2.2.1,AV.str (ze.op (cw x0).1.2.2.2.2.2.2.2.2.1),
  AV.int .i64 (ze.v (cw x0).1.2.2.2.2.2.2.2.2.1).1,AV.int .i64 (ze.v (cw x0).1.2.2.2.2.2.2.2.2.1).2.1,AV.str (ze.v (cw x0).1.2.2.2.2.2.2.2.2.1).2.2,AV.str (ze.s (cw x0).1.2.2.2.2.2.2.2.2.1),AV.sl Sh.expr (ze.l (cw x0).1.2.2.2.2.2.2.2.2.1),AV.sl zg (cw x0).1.2.2.2.2.2.2.2.2.2.1,AV.sl (Sh.str.pr Sh.expr) (cw x0).1.2.2.2.2.2.2.2.2.2.2.1,
  AV.str (ze.op (cw x0).1.2.2.2.2.2.2.2.2.2.2.2.1),AV.int .i64 (ze.v (cw x0).1.2.2.2.2.2.2.2.2.2.2.2.1).1,AV.int .i64 (ze.v (cw x0).1.2.2.2.2.2.2.2.2.2.2.2.1).2.1,AV.str (ze.v (cw x0).1.2.2.2.2.2.2.2.2.2.2.2.1).2.2,AV.str (ze.s (cw x0).1.2.2.2.2.2.2.2.2.2.2.2.1),AV.sl Sh.expr (ze.l (cw x0).1.2.2.2.2.2.2.2.2.2.2.2.1),
  AV.str (cw x0).1.2.2.2.2.2.2.2.2.2.2.2.2])
  [])
noncomputable def zcU (x0:TS):=aA [zk] t0 100000000 (zf4 x0)
noncomputable def Zh:=FT [Sh.str] [zk] fun x=>zcU x.1
theorem VU:FK 29 Zh:=CE.T1 (f:=Tryz.f29) (keep:=k0) (e:=e0)

noncomputable def Uo:=Un.add 29 Zh
theorem CF:zy Uo:=CE.add VU

noncomputable def zf3:Tr (Empty ⊕ aF):=
 Tr.chk true (Tr.chk true (Tr.chk true (Tr.chk true (Tr.chk true (Tr.chk true (Tr.chk true (Tr.re (AV.bool true) [])))))))
noncomputable def DG:=aA [Sh.bool] t0 100000000 (zf3)
noncomputable def DF:=(DG).isSome
noncomputable def J5:=o1 (DG)
noncomputable def YN:=FT [] [Sh.bool] fun _=>DG
theorem Vn:FK 10 YN:=CF.T1 (f:=Tryz.f10) (keep:=k0) (e:=e0)

noncomputable def Up:=Uo.add 10 YN
theorem jE:zy Up:=CF.add Vn
noncomputable section

def UD (x0:Sem zg) (x1:Sem zg):Tr (Empty ⊕ aF):=
 let a0:=x0.1==x1.1&&(x0.2.1==x1.2.1&&(x0.2.2==x1.2.2&&true))
 let a1:=aS a0
 Tr.chk (lL x0 x1)
 (Tr.br (pm x0 x1) (Tr.re (AV.agg [AV.int .i64 0,AV.int .i64 0,AV.str []]) [])
  (Tr.chk (kc a0) (Tr.re (AV.agg [AV.int .i64 a1.1,AV.int .i64 a1.2.1,AV.str a1.2.2]) [])))
def oh (x0:Sem zg) (x1:Sem zg):=aA [zg] t0 100000000 (UD x0 x1)
def sO (x0:Sem zg) (x1:Sem zg):=(oh x0 x1).isSome
def pk (x0:Sem zg) (x1:Sem zg):=o1 (oh x0 x1)
def TE:=FT [zg,zg] [zg] fun x=>oh x.1 x.2.1
theorem Rk:FK 146 TE:=jE.T1 (f:=Tryz.f146) (keep:=k0) (e:=e0)

def UE (x0:Sem zg) (x1:Sem zg):Tr (Empty ⊕ aF):=
 let a0:=Op.bytesLess x0.2.2 x1.2.2
 let a1:=aS a0
 Tr.chk (lL x0 x1)
 (Tr.br (pm x0 x1) (Tr.re (AV.agg [AV.int .i64 0,AV.int .i64 0,AV.str []]) [])
  (Tr.br (decide (x0.2.1 < x1.2.1)) (Tr.chk true (Tr.re (AV.agg [AV.int .i64 (aS true).1,AV.int .i64 (aS true).2.1,AV.str (aS true).2.2]) [])) (Tr.chk (kc a0) (Tr.re (AV.agg [AV.int .i64 a1.1,AV.int .i64 a1.2.1,AV.str a1.2.2]) []))))
def sP (x0:Sem zg) (x1:Sem zg):=aA [zg] t0 100000000 (UE x0 x1)
def wI (x0:Sem zg) (x1:Sem zg):=(sP x0 x1).isSome
def uP (x0:Sem zg) (x1:Sem zg):=o1 (sP x0 x1)
def TF:=FT [zg,zg] [zg] fun x=>sP x.1 x.2.1
theorem Rl:FK 147 TF:=jE.T1 (f:=Tryz.f147) (keep:=k0) (e:=e0)

def UF (x0:Sem zg) (x1:Sem zg):Tr (Empty ⊕ aF):=
 let a0:=IntKind.i64.wrap (9223372036854775807 - x1.2.1)
 let a1:=IntKind.i64.wrap (-9223372036854775808 - x1.2.1)
 let a2:=bif decide (x1.2.1 < 0) then decide (x0.2.1 < a1) else false
 Tr.chk (lL x0 x1)
 (Tr.br (bif pm x0 x1 then true else x0.1 != 1) (Tr.re (AV.agg [AV.int .i64 0,AV.int .i64 0,AV.str []]) [])
  (Tr.br (bif decide (x1.2.1 > 0) then bif decide (x0.2.1 > a0) then true else a2 else a2) (Tr.re (AV.agg [AV.int .i64 0,AV.int .i64 0,AV.str []]) []) (Tr.re (AV.agg [AV.int .i64 1,AV.int .i64 (IntKind.i64.wrap (x0.2.1+x1.2.1)),AV.str []]) [])))
def sS (x0:Sem zg) (x1:Sem zg):=aA [zg] t0 100000000 (UF x0 x1)
def wJ (x0:Sem zg) (x1:Sem zg):=(sS x0 x1).isSome
def uQ (x0:Sem zg) (x1:Sem zg):=o1 (sS x0 x1)
def TG:=FT [zg,zg] [zg] fun x=>sS x.1 x.2.1
theorem Rm:FK 148 TG:=jE.T1 (f:=Tryz.f148) (keep:=k0) (e:=e0)

def UG (x0:Sem zg) (x1:Sem zg):Tr (Empty ⊕ aF):=
 let a0:=IntKind.i64.wrap (-9223372036854775808+x1.2.1)
 let a1:=IntKind.i64.wrap (9223372036854775807+x1.2.1)
 let a2:=bif decide (x1.2.1 < 0) then decide (x0.2.1 > a1) else false
 Tr.chk (lL x0 x1)
 (Tr.br (bif pm x0 x1 then true else x0.1 != 1) (Tr.re (AV.agg [AV.int .i64 0,AV.int .i64 0,AV.str []]) [])
  (Tr.br (bif decide (x1.2.1 > 0) then bif decide (x0.2.1 < a0) then true else a2 else a2) (Tr.re (AV.agg [AV.int .i64 0,AV.int .i64 0,AV.str []]) []) (Tr.re (AV.agg [AV.int .i64 1,AV.int .i64 (IntKind.i64.wrap (x0.2.1 - x1.2.1)),AV.str []]) [])))
def om (x0:Sem zg) (x1:Sem zg):=aA [zg] t0 100000000 (UG x0 x1)
def sQ (x0:Sem zg) (x1:Sem zg):=(om x0 x1).isSome
def pl (x0:Sem zg) (x1:Sem zg):=o1 (om x0 x1)
def TH:=FT [zg,zg] [zg] fun x=>om x.1 x.2.1
theorem Rn:FK 149 TH:=jE.T1 (f:=Tryz.f149) (keep:=k0) (e:=e0)

def Us (x0:Sem Sh.expr) (x1:Sem zh.sl):Tr (Empty ⊕ aF):=
 Tr.br (ze.op x0==[])
 (Tr.chk (eP (zm x0) (ze.mk [] (0,0,[]) [] []))
  (Tr.br (!da (zm x0) (ze.mk [] (0,0,[]) [] [])) (Tr.re (AV.int .i64 1) []) (Tr.re (AV.int .i64 0) [])))
 (Tr.chk (uR (zm x0))
  (Tr.br (!C9 (zm x0)) (Tr.re (AV.int .i64 1) []) (Tr.chk (mK (zm x0) x1) (Tr.br ((gQ (zm x0) x1).2 != 0) (Tr.re (AV.int .i64 (gQ (zm x0) x1).2) []) (Tr.br (bif (gQ (zm x0) x1).1 != 0 then (gQ (zm x0) x1).1 != 3 else false) (Tr.re (AV.int .i64 5) []) (Tr.re (AV.int .i64 0) []))))))
def ow (x0:Sem Sh.expr) (x1:Sem zh.sl):=aA [zf] t0 100000000 (Us x0 x1)
def Ar (x0:Sem Sh.expr) (x1:Sem zh.sl):=(ow x0 x1).isSome
def EK (x0:Sem Sh.expr) (x1:Sem zh.sl):=o1 (ow x0 x1)
def S4:=FT [Sh.expr,zh.sl] [zf] fun x=>ow x.1 x.2.1
theorem QL:FK 100 S4:=jE.T1 (f:=Tryz.f100) (keep:=k0) (e:=e0)

def DY:=Up.addL [(146,TE),(147,TF),(148,TG),(149,TH),(100,S4)]
theorem qV:zy DY:=jE.addL <| fc Rk <| fc Rl <| fc Rm <| fc Rn <| fc QL jp
end
noncomputable section

def xZ (g:Sem Sh.expr→Sem (Sh.sl zh)→Sem (Sh.sl zg)→Sem zg) (c:Sem Sh.expr→Sem (Sh.sl zh)→Sem (Sh.sl zg)→Bool):bS:=DY.add 103 (zN [Sh.expr,Sh.sl zh,Sh.sl zg] [zg] (fun x=>c x.1 x.2.1 x.2.2.1) fun x=>(g x.1 x.2.1 x.2.2.1,()))
theorem Il {g:Sem Sh.expr→Sem (Sh.sl zh)→Sem (Sh.sl zg)→Sem zg} {c:Sem Sh.expr→Sem (Sh.sl zh)→Sem (Sh.sl zg)→Bool} (hg:FK 103 (zN [Sh.expr,Sh.sl zh,Sh.sl zg] [zg] (fun x=>c x.1 x.2.1 x.2.2.1) fun x=>(g x.1 x.2.1 x.2.2.1,()))):zy (xZ g c):=qV.add hg
abbrev IR:Nat→aJ:=fun j=>if j=6 then { slots:=[1,2,3,6,7] } else { }
inductive BR where
 | h6 (l1:LC) (l2:LV) (i7:Int) (z0:zo [CP.d Sh.expr]) (z1:zo [CP.d zg])
abbrev Ge:BR→Nat×St
 | .h6 l1 l2 i7 z0 z1=>(6,⟨tm 103 [(1,AV.sl zh l1),(2,AV.sl zg l2),(3,AV.ptr 0 0),(6,AV.ptr 1 0),(7,AV.int .i64 i7)],[AO.box (ch [] [CP.d Sh.expr] z0),AO.box (ch [] [CP.d zg] z1)]⟩)
theorem X3 (g:Sem Sh.expr→Sem zh.sl→Sem zg.sl→Sem zg) (c:Sem Sh.expr→Sem zh.sl→Sem zg.sl→Bool):zK (xZ g c).P 103 Tryz.f103 3:=bN (by kernel_rfl)
def nR (g:Sem Sh.expr→Sem zh.sl→Sem zg.sl→Sem zg) (c:Sem Sh.expr→Sem zh.sl→Sem zg.sl→Bool) (x0:Sem Sh.expr) (x1:Sem zh.sl) (x2:Sem zg.sl):Tr (BR ⊕ aF):=
 let a0:=zm ((ze.l x0).getD (toNat 0) (zi Sh.expr))
 let a1:=g a0 x1 x2
 let a2:=C4 a1
 let a3:=a1.1==0
 let a4:=aS a3
 let a5:=zm ((ze.l x0).getD (toNat 1) (zi Sh.expr))
 let a6:=g a5 x1 x2
 let a7:=C2 a1 a6
 let a8:=Mv a1 a6
 let a9:=pk a1 a6
 let a10:=uP a1 a6
 let a11:=uQ a1 a6
 let a12:=pl a1 a6
 Tr.br (ze.op x0==[108,105,116])
 (Tr.re (AV.agg [AV.int .i64 (ze.v x0).1,AV.int .i64 (ze.v x0).2.1,AV.str (ze.v x0).2.2]) [])
 (Tr.br (ze.op x0==[99,111,108]) (Tr.to (BR.h6 x1 x2 0 (x0,()) ((0,0,[]),())))
  (Tr.chk (zR 0 (ze.l x0).length) (Tr.chk (c a0 x1 x2) (Tr.br (ze.op x0==[110,111,116]) (Tr.chk (Ez a1) (Tr.re (AV.agg [AV.int .i64 a2.1,AV.int .i64 a2.2.1,AV.str a2.2.2]) [])) (Tr.br (ze.op x0==[110,117,108,108]) (Tr.chk (kY a1) (Tr.br (!qy a1) (Tr.chk true
  (Tr.re (AV.agg [AV.int .i64 (aS true).1,AV.int .i64 (aS true).2.1,AV.str (aS true).2.2]) [])) (Tr.chk (kc a3) (Tr.re (AV.agg [AV.int .i64 a4.1,AV.int .i64 a4.2.1,AV.str a4.2.2]) [])))) (Tr.chk (zR 1 (ze.l x0).length) (Tr.chk (c a5 x1 x2) (Tr.br (ze.op x0==[97,110,100])
  (Tr.chk (Ew a1 a6) (Tr.re (AV.agg [AV.int .i64 a7.1,AV.int .i64 a7.2.1,AV.str a7.2.2]) [])) (Tr.br (ze.op x0==[111,114]) (Tr.chk (KS a1 a6) (Tr.re (AV.agg [AV.int .i64 a8.1,AV.int .i64 a8.2.1,AV.str a8.2.2]) [])) (Tr.br (ze.op x0==[61]) (Tr.chk (sO a1 a6) (Tr.re (AV.agg [AV.int .i64 a9.1,AV.int .i64 a9.2.1,AV.str a9.2.2]) [])) (Tr.br (ze.op x0==[60])
  (Tr.chk (wI a1 a6) (Tr.re (AV.agg [AV.int .i64 a10.1,AV.int .i64 a10.2.1,AV.str a10.2.2]) [])) (Tr.br (ze.op x0==[43]) (Tr.chk (wJ a1 a6) (Tr.re (AV.agg [AV.int .i64 a11.1,AV.int .i64 a11.2.1,AV.str a11.2.2]) [])) (Tr.chk (sQ a1 a6) (Tr.re (AV.agg [AV.int .i64 a12.1,AV.int .i64 a12.2.1,AV.str a12.2.2]) []))))))))))))))
theorem Xd (g:Sem Sh.expr→Sem zh.sl→Sem zg.sl→Sem zg) (c:Sem Sh.expr→Sem zh.sl→Sem zg.sl→Bool) (x0:Sem Sh.expr) (x1:Sem zh.sl) (x2:Sem zg.sl):rn (xZ g c) 0 IR Tryz.f103 [zF Sh.expr x0,zF zh.sl x1,zF zg.sl x2] []=(nR g c x0 x1 x2).map (lf Tryz.f103 Ge):=by kernel_rfl
def wc (_:Sem Sh.expr→Sem zh.sl→Sem zg.sl→Sem zg) (_:Sem Sh.expr→Sem zh.sl→Sem zg.sl→Bool):BR→Tr (BR ⊕ aF)
 | .h6 l1 l2 i7 z0 z1=>
  let a0:=l1.getD i7.toNat (zi zh)
  let a1:=l2.getD i7.toNat (zi zg)
  Tr.br (decide (i7 < (↑l1.length:Int)))
  (Tr.chk (zR i7 l1.length)
   (Tr.br (a0.1==ze.s z0.1) (Tr.br (decide (i7 < (↑l2.length:Int))) (Tr.chk (zR i7 l2.length) (Tr.re (AV.agg [AV.int .i64 a1.1,AV.int .i64 a1.2.1,AV.str a1.2.2]) [])) (Tr.re (AV.agg [AV.int .i64 0,AV.int .i64 0,AV.str []]) [])) (Tr.to (BR.h6 l1 l2 (IntKind.i64.wrap (i7+1)) z0 z1))))
  (Tr.re (AV.agg [AV.int .i64 0,AV.int .i64 0,AV.str []]) [])
theorem Yf (g:Sem Sh.expr→Sem zh.sl→Sem zg.sl→Sem zg) (c:Sem Sh.expr→Sem zh.sl→Sem zg.sl→Bool):∀ s,run (xZ g c) 0 IR (Func.results Tryz.f103).toList 400 (zI Tryz.f103 (Ge s).1) (Ge s).2=(wc g c s).map (lf Tryz.f103 Ge)
 | .h6 l1 l2 i7 z0 z1=>by kernel_rfl
def gf (o:Option (zC (List.map some [zg]))):Sem zg:=(fun r:zC (List.map some [zg])=>r.1) (o.getD (cA [zg]))
def KU (g:Sem Sh.expr→Sem zh.sl→Sem zg.sl→Sem zg) (c:Sem Sh.expr→Sem zh.sl→Sem zg.sl→Bool) (x0:Sem Sh.expr) (x1:Sem zh.sl) (x2:Sem zg.sl):Option (zC (List.map some [zg])):=aA [zg] (wc g c) 100000000 (nR g c x0 x1 x2)
def bU:Nat→Sem Sh.expr→Sem zh.sl→Sem zg.sl→Option (zC (List.map some [zg]))
 | 0=>fun _ _ _=>none
 | n+1=>KU (fun x0 x1 x2=>gf (bU n x0 x1 x2)) fun x0 x1 x2=>(bU n x0 x1 x2).isSome
theorem OJ:zK DY.P 103 Tryz.f103 3:=bN (by kernel_rfl)
theorem FE:∀ n,FK 103 (zN [Sh.expr,zh.sl,zg.sl] [zg] (fun x=>(bU n x.1 x.2.1 x.2.2.1).isSome) fun x=>(gf (bU n x.1 x.2.1 x.2.2.1),()))
 | 0=>eW ⟨Tryz.f103,OJ.1,OJ.2.1,OJ.2.2.1⟩ (fun _=>rfl)
 | n+1=>mf (E:=xZ (fun x0 x1 x2=>gf (bU n x0 x1 x2)) (fun x0 x1 x2=>(bU n x0 x1 x2).isSome)) (ks:=[Sh.expr,zh.sl,zg.sl]) (outs:=[zg]) (keep:=IR) (gas:=400) (n:=100000000) (e:=Ge) (t:=wc (fun x0 x1 x2=>gf (bU n x0 x1 x2)) (fun x0 x1 x2=>(bU n x0 x1 x2).isSome)) (i:=fun x=>nR (fun x0 x1 x2=>gf (bU n x0 x1 x2)) (fun x0 x1 x2=>(bU n x0 x1 x2).isSome) x.1 x.2.1 x.2.2.1) (Il (FE n)) (X3 _ _) (fun x=>Xd _ _ x.1 x.2.1 x.2.2.1) (Yf _ _) (fun _=>by kernel_rfl) (fun _=>by kernel_rfl)
def wM (x0:Sem Sh.expr) (x1:Sem zh.sl) (x2:Sem zg.sl):Option (zC (List.map some [zg])):=bU 16 x0 x1 x2
def wL (x0:Sem Sh.expr) (x1:Sem zh.sl) (x2:Sem zg.sl):Bool:=(wM x0 x1 x2).isSome
def EB (x0:Sem Sh.expr) (x1:Sem zh.sl) (x2:Sem zg.sl):Sem zg:=gf (wM x0 x1 x2)
def S7:zT:=zN [Sh.expr,zh.sl,zg.sl] [zg] (fun x=>wL x.1 x.2.1 x.2.2.1) fun x=>(EB x.1 x.2.1 x.2.2.1,())
theorem QO:FK 103 S7:=FE 16

abbrev zcD:=qm [(5,[1,3,4]),(11,[1,3,6]),(16,[1,3,7])]
inductive Bs where
 | h5 (i3:Int) (i4:Int) (z0:zo [CP.d zl])
 | h11 (i3:Int) (i6:Int) (z0:zo [CP.d zl])
 | h16 (i3:Int) (i7:Int) (z0:zo [CP.d zl])
abbrev zeS:Bs→Nat×St
 | .h5 i3 i4 z0=>(5,⟨tm 139 [(1,AV.ptr 0 0),(3,AV.int .i64 i3),(4,AV.int .i64 i4)],[AO.box (ch [] [CP.d zl] z0)]⟩)
 | .h11 i3 i6 z0=>(11,⟨tm 139 [(1,AV.ptr 0 0),(3,AV.int .i64 i3),(6,AV.int .i64 i6)],[AO.box (ch [] [CP.d zl] z0)]⟩)
 | .h16 i3 i7 z0=>(16,⟨tm 139 [(1,AV.ptr 0 0),(3,AV.int .i64 i3),(7,AV.int .i64 i7)],[AO.box (ch [] [CP.d zl] z0)]⟩)
def XF (x0:Sem zl):Tr (Bs ⊕ aF):=
 let a0:=(↑(length x0.2.1):Int)
 let a1:=decide (a0 < 1)
 let a2:=decide (a0 > 8)
 let a3:=decide (x0.2.2.1 < 0)
 let a4:=decide (x0.2.2.1 ≥ a0)
 let a5:=getD x0.2.1 (toNat x0.2.2.1) (zi zh)
 Tr.chk
 (dj x0.1&&
  bif !bj x0.1 then true
  else bif a1 then true else bif a2 then true else bif a3 then true else bif a4 then true else zR x0.2.2.1 (length x0.2.1))
 (Tr.br (bif !bj x0.1 then true else bif a1 then true else bif a2 then true else bif a3 then true else bif a4 then true else !a5.2.2)
  (Tr.re (AV.kb false) []) (Tr.to (Bs.h5 a0 0 (x0,()))))
def pY:Bs→Tr (Bs ⊕ aF)
 | .h5 i3 i4 z0=>
  let a0:=getD z0.1.2.1 i4.toNat (zi zh)
  let a1 := !bj a0.1
  let a2:=decide (a0.2.1 < 1)
  let a3:=decide (a0.2.1 > 3)
  Tr.br (decide (i4 < i3))
  (Tr.chk (zR i4 (length z0.1.2.1))
   (Tr.chk (dj a0.1&&bif a1 then true else bif a2 then true else bif a3 then true else dc z0.1.2.1 a0.1) (Tr.br (bif a1 then true else bif a2 then true else bif a3 then true else ef z0.1.2.1 a0.1 != i4) (Tr.re (AV.kb false) []) (Tr.to (Bs.h5 i3 (IntKind.i64.wrap (i4+1)) z0)))))
  (Tr.to (Bs.h11 i3 0 z0))
 | .h11 i3 i6 z0=>
  let a0:=(↑(length z0.1.2.2.2.1):Int)
  let a1:=zR i6 (length z0.1.2.2.2.1)
  let a2:=getD z0.1.2.2.2.1 i6.toNat (zi zf)
  let a3:=decide (a2 < 0)
  Tr.br (decide (i6 < a0))
  (Tr.chk (a1&&bif a3 then true else a1)
   (Tr.br (bif a3 then true else decide (a2 ≥ i3)) (Tr.re (AV.kb false) []) (Tr.to (Bs.h11 i3 (IntKind.i64.wrap (i6+1)) z0))))
  (Tr.to (Bs.h16 i3 0 z0))
 | .h16 i3 i7 z0=>
  let a0:=(↑(length z0.1.2.2.2.2.1):Int)
  let a1:=zR i7 (length z0.1.2.2.2.2.1)
  let a2:=getD z0.1.2.2.2.2.1 i7.toNat (zi zq)
  let a3:=decide (a2.1 < 0)
  let a4:=decide (a2.1 ≥ i3)
  let a5:=zm z0.1.2.2.2.2.2
  Tr.br (decide (i7 < a0))
  (Tr.chk (a1&&bif a3 then true else a1&&bif a4 then true else a1&&dj a2.2)
   (Tr.br (bif a3 then true else bif a4 then true else !bj a2.2) (Tr.re (AV.kb false) []) (Tr.to (Bs.h16 i3 (IntKind.i64.wrap (i7+1)) z0))))
  (Tr.chk (Ar a5 z0.1.2.1) (Tr.re (AV.bool (EK a5 z0.1.2.1==0)) []))
def EJ (x0:Sem zl):=aA [Sh.bool] pY 100000000 (XF x0)
def uS (x0:Sem zl):=(EJ x0).isSome
def Dc (x0:Sem zl):=o1 (EJ x0)
def ZA:=FT [zl] [Sh.bool] fun x=>EJ x.1
theorem Wh:FK 59 ZA:=qV.T1 (f:=Tryz.f59) (keep:=zcD) (e:=zeS)

def NR:=DY.addL [(103,S7),(59,ZA)]
theorem jU:zy NR:=qV.addL <| fc QO <| fc Wh jp
end
noncomputable section

abbrev zcE:=qm [(4,[1,2,5]),(9,[1,2,6])]
inductive Dy where
 | h4 (l1:LV) (i5:Int) (z0:zo [CP.d zl])
 | h9 (l1:LV) (i6:Int) (z0:zo [CP.d zl])
abbrev zeT:Dy→Nat×St
 | .h4 l1 i5 z0=>(4,⟨tm 83 [(1,AV.sl zg l1),(2,AV.ptr 0 0),(5,AV.int .i64 i5)],[AO.box (ch [] [CP.d zl] z0)]⟩)
 | .h9 l1 i6 z0=>(9,⟨tm 83 [(1,AV.sl zg l1),(2,AV.ptr 0 0),(6,AV.int .i64 i6)],[AO.box (ch [] [CP.d zl] z0)]⟩)
def XG (x0:Sem zl) (x1:Sem zg.sl):Tr (Dy ⊕ aF):=
 let a0:=(x0.1,x0.2.1,x0.2.2.1,x0.2.2.2.1,x0.2.2.2.2.1,zm x0.2.2.2.2.2)
 Tr.chk (uS a0)
 (Tr.br (bif !Dc a0 then true else (↑(length x1):Int) != (↑(length x0.2.1):Int)) (Tr.re (AV.int .i64 1) [])
  (Tr.to (Dy.h4 x1 0 (x0,()))))
def Ba:Dy→Tr (Dy ⊕ aF)
 | .h4 l1 i5 z0=>
  let a0:=l1.getD i5.toNat (zi zg)
  Tr.br (decide (i5 < (↑l1.length:Int)))
  (Tr.chk (zR i5 l1.length) (Tr.chk (kY a0) (Tr.br (!qy a0) (Tr.re (AV.int .i64 1) []) (Tr.to (Dy.h4 l1 (IntKind.i64.wrap (i5+1)) z0)))))
  (Tr.to (Dy.h9 l1 0 z0))
 | .h9 l1 i6 z0=>
  let a0:=l1.getD i6.toNat (zi zg)
  let a1:=a0.1==0
  let a2:=zR i6 (length z0.1.2.1)
  let a3:=getD z0.1.2.1 i6.toNat (zi zh)
  let a4:=a0.1 != 0
  let a5 := !ze.op z0.1.2.2.2.2.2==[]
  let a6:=zm z0.1.2.2.2.2.2
  let a7:=EB a6 z0.1.2.1 l1
  Tr.br (decide (i6 < (↑l1.length:Int)))
  (Tr.chk (zR i6 l1.length&&bif a1 then a2 else true)
   (Tr.br (bif a1 then a3.2.2 else false) (Tr.re (AV.int .i64 8) []) (Tr.chk (zR i6 l1.length&&bif a4 then zR i6 l1.length&&a2 else true) (Tr.br (bif a4 then a0.1 != a3.2.1 else false) (Tr.re (AV.int .i64 5) []) (Tr.to (Dy.h9 l1 (IntKind.i64.wrap (i6+1)) z0))))))
  (Tr.chk (bif a5 then wL a6 z0.1.2.1 l1&&lK a7 false else true)
   (Tr.br (bif a5 then ol a7 false else false) (Tr.re (AV.int .i64 9) []) (Tr.re (AV.int .i64 0) [])))
def wR (x0:Sem zl) (x1:Sem zg.sl):=aA [zf] Ba 100000000 (XG x0 x1)
def EI (x0:Sem zl) (x1:Sem zg.sl):=(wR x0 x1).isSome
def Jk (x0:Sem zl) (x1:Sem zg.sl):=o1 (wR x0 x1)
def ZB:=FT [zl,zg.sl] [zf] fun x=>wR x.1 x.2.1
theorem Wi:FK 60 ZB:=jU.T1 (f:=Tryz.f60) (keep:=zcE) (e:=zeT)

abbrev zcF:=qm [(2,[0,1,5]),(5,[0,1,5,6])]
inductive FN where
 | h2 (l0:List (Sem zg.sl)) (i1:Sem zf) (i5:Int)
 | h5 (l0:List (Sem zg.sl)) (i1:Sem zf) (i5:Int) (i6:Int)
abbrev zeU:FN→Nat×St
 | .h2 l0 i1 i5=>(2,⟨tm 44 [(0,AV.sl zg.sl l0),(1,AV.int .i64 i1),(5,AV.int .i64 i5)],[]⟩)
 | .h5 l0 i1 i5 i6=>(5,⟨tm 44 [(0,AV.sl zg.sl l0),(1,AV.int .i64 i1),(5,AV.int .i64 i5),(6,AV.int .i64 i6)],[]⟩)
def zca (x0:Sem zg.sl.sl) (x1:Sem zf):Tr (FN ⊕ aF):=
 Tr.to (FN.h2 x0 x1 0)
def BK:FN→Tr (FN ⊕ aF)
 | .h2 l0 i1 i5=>
  Tr.br (decide (i5 < (↑l0.length:Int))) (Tr.to (FN.h5 l0 i1 i5 0)) (Tr.re (AV.kb false) [])
 | .h5 l0 i1 i5 i6=>
  let a0:=l0.getD i5.toNat (zi zg.sl)
  let a1:=zR i1 (length a0)
  let a2:=getD a0 (toNat i1) (zi zg)
  let a3:=a2.1 != 0
  let a4:=l0.getD i6.toNat (zi zg.sl)
  let a5:=getD a4 (toNat i1) (zi zg)
  Tr.br (decide (i6 < i5))
  (Tr.chk (zR i5 l0.length&&(a1&&bif a3 then zR i5 l0.length&&(a1&&(zR i6 l0.length&&zR i1 (length a4))) else true))
   (Tr.br (bif a3 then a2.1==a5.1&&(a2.2.1==a5.2.1&&(a2.2.2==a5.2.2&&true)) else false) (Tr.re (AV.kb true) []) (Tr.to (FN.h5 l0 i1 i5 (IntKind.i64.wrap (i6+1))))))
  (Tr.to (FN.h2 l0 i1 (IntKind.i64.wrap (i5+1))))
def ta (x0:Sem zg.sl.sl) (x1:Sem zf):=aA [Sh.bool] BK 100000000 (zca x0 x1)
def lR (x0:Sem zg.sl.sl) (x1:Sem zf):=(ta x0 x1).isSome
def pD (x0:Sem zg.sl.sl) (x1:Sem zf):=o1 (ta x0 x1)
def ZC:=FT [zg.sl.sl,zf] [Sh.bool] fun x=>ta x.1 x.2.1
theorem Wj:FK 61 ZC:=jU.T1 (f:=Tryz.f61) (keep:=zcF) (e:=zeU)

def zcc (x0:Sem zl) (x1:Sem zg.sl):Tr (Empty ⊕ aF):=
 let a0:=(x0.1,x0.2.1,x0.2.2.1,x0.2.2.2.1,x0.2.2.2.2.1,zm x0.2.2.2.2.2)
 let a1:=getD x1 (toNat x0.2.2.1) (zi zg)
 Tr.chk (uS a0)
 (Tr.br (bif Dc a0 then decide (x0.2.2.1 < (↑(length x1):Int)) else false)
  (Tr.chk (zR x0.2.2.1 (length x1)) (Tr.re (AV.agg [AV.int .i64 a1.1,AV.int .i64 a1.2.1,AV.str a1.2.2]) []))
  (Tr.re (AV.agg [AV.int .i64 0,AV.int .i64 0,AV.str []]) []))
def Av (x0:Sem zl) (x1:Sem zg.sl):=aA [zg] t0 100000000 (zcc x0 x1)
def EO (x0:Sem zl) (x1:Sem zg.sl):=(Av x0 x1).isSome
def KY (x0:Sem zl) (x1:Sem zg.sl):=o1 (Av x0 x1)
def ZE:=FT [zl,zg.sl] [zg] fun x=>Av x.1 x.2.1
theorem Wm:FK 63 ZE:=jU.T1 (f:=Tryz.f63) (keep:=k0) (e:=e0)

abbrev zcG:=qm [(2,[2,3,5])]
inductive Lu where
 | h2 (i5:Int) (z0:zo [CP.d zj]) (z1:zo [CP.d zg])
abbrev zeV:Lu→Nat×St
 | .h2 i5 z0 z1=>(2,⟨tm 43 [(2,AV.ptr 0 0),(3,AV.ptr 1 0),(5,AV.int .i64 i5)],[AO.box (ch [] [CP.d zj] z0),AO.box (ch [] [CP.d zg] z1)]⟩)
def zcd (x0:Sem zj) (x1:Sem zg):Tr (Lu ⊕ aF):=
 Tr.to (Lu.h2 0 (x0,()) (x1,()))
def Qt:Lu→Tr (Lu ⊕ aF)
 | .h2 i5 z0 z1=>
  let a0:=(↑(length z0.1.2):Int)
  let a1:=decide (i5 < a0)
  let a2:=(z0.1.1.1,z0.1.1.2.1,z0.1.1.2.2.1,z0.1.1.2.2.2.1,z0.1.1.2.2.2.2.1,zm z0.1.1.2.2.2.2.2)
  let a3:=zR i5 (length z0.1.2)
  let a4:=getD z0.1.2 i5.toNat (zi zg.sl)
  let a5:=(↑(length a4):Int)
  let a6:=decide (z0.1.1.2.2.1 < a5)
  let a7:=getD a4 (toNat z0.1.1.2.2.1) (zi zg)
  Tr.chk (bif a1 then uS a2 else true)
  (Tr.br (bif a1 then Dc a2 else false)
   (Tr.chk (a3&&bif a6 then a3&&zR z0.1.1.2.2.1 (length a4) else true) (Tr.br (bif a6 then a7.1==z1.1.1&&(a7.2.1==z1.1.2.1&&(a7.2.2==z1.1.2.2&&true)) else false) (Tr.re (AV.int .i64 i5) []) (Tr.to (Lu.h2 (IntKind.i64.wrap (i5+1)) z0 z1))))
   (Tr.re (AV.int .i64 (-1)) []))
def wT (x0:Sem zj) (x1:Sem zg):=aA [zf] Qt 100000000 (zcd x0 x1)
def EN (x0:Sem zj) (x1:Sem zg):=(wT x0 x1).isSome
def Jm (x0:Sem zj) (x1:Sem zg):=o1 (wT x0 x1)
def ZF:=FT [zj,zg] [zf] fun x=>wT x.1 x.2.1
theorem Wn:FK 64 ZF:=jU.T1 (f:=Tryz.f64) (keep:=zcG) (e:=zeV)

def NS:=NR.addL [(60,ZB),(61,ZC),(63,ZE),(64,ZF)]
theorem qW:zy NS:=jU.addL <| fc Wi <| fc Wj <| fc Wm <| fc Wn jp
end
noncomputable section

abbrev zcq:=qm [(6,[1,3]),(14,[1,5]),(19,[1,6])]
inductive Bp where
 | h6 (i3:Int) (z0:zo [CP.d zj])
 | h14 (i5:Int) (z0:zo [CP.d zj])
 | h19 (i6:Int) (z0:zo [CP.d zj])
abbrev zeL:Bp→Nat×St
 | .h6 i3 z0=>(6,⟨tm 82 [(1,AV.ptr 0 0),(3,AV.int .i64 i3)],[AO.box (ch [] [CP.d zj] z0)]⟩)
 | .h14 i5 z0=>(14,⟨tm 82 [(1,AV.ptr 0 0),(5,AV.int .i64 i5)],[AO.box (ch [] [CP.d zj] z0)]⟩)
 | .h19 i6 z0=>(19,⟨tm 82 [(1,AV.ptr 0 0),(6,AV.int .i64 i6)],[AO.box (ch [] [CP.d zj] z0)]⟩)
def OA (x0:Sem zj):Tr (Bp ⊕ aF):=
 let a0:=(x0.1.1,x0.1.2.1,x0.1.2.2.1,x0.1.2.2.2.1,x0.1.2.2.2.2.1,zm x0.1.2.2.2.2.2)
 Tr.chk (uS a0)
 (Tr.br (!Dc a0) (Tr.re (AV.int .i64 1) [])
  (Tr.br (decide ((↑(length x0.2):Int) > 200)) (Tr.re (AV.int .i64 13) []) (Tr.to (Bp.h6 0 (x0,())))))
def oC:Bp→Tr (Bp ⊕ aF)
 | .h6 i3 z0=>
  let a0:=(↑(length z0.1.2):Int)
  let a1:=(z0.1.1.1,z0.1.1.2.1,z0.1.1.2.2.1,z0.1.1.2.2.2.1,z0.1.1.2.2.2.2.1,zm z0.1.1.2.2.2.2.2)
  let a2:=getD z0.1.2 i3.toNat (zi zg.sl)
  let a3:=Jk a1 a2
  Tr.br (decide (i3 < a0))
  (Tr.chk (zR i3 (length z0.1.2))
   (Tr.chk (EI a1 a2) (Tr.br (a3 != 0) (Tr.re (AV.int .i64 a3) []) (Tr.to (Bp.h6 (IntKind.i64.wrap (i3+1)) z0)))))
  (Tr.chk (lR z0.1.2 z0.1.1.2.2.1)
   (Tr.br (pD z0.1.2 z0.1.1.2.2.1) (Tr.re (AV.int .i64 7) []) (Tr.to (Bp.h14 0 z0))))
 | .h14 i5 z0=>
  let a0:=(↑(length z0.1.1.2.2.2.1):Int)
  let a1:=getD z0.1.1.2.2.2.1 i5.toNat (zi zf)
  Tr.br (decide (i5 < a0))
  (Tr.chk (zR i5 (length z0.1.1.2.2.2.1))
   (Tr.chk (lR z0.1.2 a1) (Tr.br (pD z0.1.2 a1) (Tr.re (AV.int .i64 7) []) (Tr.to (Bp.h14 (IntKind.i64.wrap (i5+1)) z0)))))
  (Tr.to (Bp.h19 1 z0))
 | .h19 i6 z0=>
  let a0:=(↑(length z0.1.2):Int)
  let a1:=IntKind.i64.wrap (i6 - 1)
  let a2:=(z0.1.1.1,z0.1.1.2.1,z0.1.1.2.2.1,z0.1.1.2.2.2.1,z0.1.1.2.2.2.2.1,zm z0.1.1.2.2.2.2.2)
  let a3:=getD z0.1.2 a1.toNat (zi zg.sl)
  let a4:=getD z0.1.2 i6.toNat (zi zg.sl)
  let a5:=KY a2 a3
  let a6:=KY a2 a4
  let a7:=EA a5 a6
  Tr.br (decide (i6 < a0))
  (Tr.chk (zR a1 (length z0.1.2))
   (Tr.chk (EO a2 a3) (Tr.chk (zR i6 (length z0.1.2)) (Tr.chk (EO a2 a4) (Tr.chk (Ah a5 a6) (Tr.br (decide (a7 > 0)) (Tr.re (AV.int .i64 15) []) (Tr.to (Bp.h19 (IntKind.i64.wrap (i6+1)) z0))))))))
  (Tr.re (AV.int .i64 0) [])
def lQ (x0:Sem zj):=aA [zf] oC 100000000 (OA x0)
def At (x0:Sem zj):=(lQ x0).isSome
def EL (x0:Sem zj):=o1 (lQ x0)
def Zf:=FT [zj] [zf] fun x=>lQ x.1
theorem VS:FK 27 Zf:=qW.T1 (f:=Tryz.f27) (keep:=zcq) (e:=zeL)

abbrev zcr:=qm [(2,[0,3]),(5,[0,3,4]),(12,[0,3,4,5,6,7])]
inductive Bq where
 | h2 (l0:List (Sem zj)) (i3:Int)
 | h5 (l0:List (Sem zj)) (i3:Int) (i4:Int)
 | h12 (l0:List (Sem zj)) (i3:Int) (i4:Int) (i6:Sem zf) (i7:Int) (z0:zo [CP.d zq])
abbrev zeM:Bq→Nat×St
 | .h2 l0 i3=>(2,⟨tm 75 [(0,AV.sl zj l0),(3,AV.int .i64 i3)],[]⟩)
 | .h5 l0 i3 i4=>(5,⟨tm 75 [(0,AV.sl zj l0),(3,AV.int .i64 i3),(4,AV.int .i64 i4)],[]⟩)
 | .h12 l0 i3 i4 i6 i7 z0=>(12,⟨tm 75 [(0,AV.sl zj l0),(3,AV.int .i64 i3),(4,AV.int .i64 i4),(5,AV.ptr 0 0),(6,AV.int .i64 i6),(7,AV.int .i64 i7)],[AO.box (ch [] [CP.d zq] z0)]⟩)
def zb7 (x0:Sem zj.sl):Tr (Bq ⊕ aF):=
 Tr.to (Bq.h2 x0 0)
def pX:Bq→Tr (Bq ⊕ aF)
 | .h2 l0 i3=>
  Tr.br (decide (i3 < (↑l0.length:Int))) (Tr.to (Bq.h5 l0 i3 0)) (Tr.re (AV.kb true) [])
 | .h5 l0 i3 i4=>
  let a0:=l0.getD i3.toNat (zi zj)
  let a1:=(↑(length a0.1.2.2.2.2.1):Int)
  let a2:=getD a0.1.2.2.2.2.1 i4.toNat (zi zq)
  let a3:=mQ l0 a2.2
  Tr.chk (zR i3 l0.length)
  (Tr.br (decide (i4 < a1))
   (Tr.chk (zR i3 l0.length) (Tr.chk (zR i4 (length a0.1.2.2.2.2.1)) (Tr.br (decide (a3 < 0)) (Tr.re (AV.kb false) []) (Tr.to (Bq.h12 l0 i3 i4 a3 0 (a2,()))))))
   (Tr.to (Bq.h2 l0 (IntKind.i64.wrap (i3+1)))))
 | .h12 l0 i3 i4 i6 i7 z0=>
  let a0:=l0.getD i3.toNat (zi zj)
  let a1:=(↑(length a0.2):Int)
  let a2:=getD a0.2 i7.toNat (zi zg.sl)
  let a3:=getD a2 (toNat z0.1.1) (zi zg)
  let a4:=a3.1 != 0
  let a5:=l0.getD (toNat i6) (zi zj)
  let a6:=((a5.1.1,a5.1.2.1,a5.1.2.2.1,a5.1.2.2.2.1,a5.1.2.2.2.2.1,zm a5.1.2.2.2.2.2),a5.2)
  let a7:=Jm a6 a3
  Tr.chk (zR i3 l0.length)
  (Tr.br (decide (i7 < a1))
   (Tr.chk (zR i3 l0.length) (Tr.chk (zR i7 (length a0.2)) (Tr.chk (zR z0.1.1 (length a2)) (Tr.chk (bif a4 then zR i6 l0.length&&EN a6 a3 else true) (Tr.br (bif a4 then decide (a7 < 0) else false) (Tr.re (AV.kb false) []) (Tr.to (Bq.h12 l0 i3 i4 i6 (IntKind.i64.wrap (i7+1)) z0)))))))
   (Tr.to (Bq.h5 l0 i3 (IntKind.i64.wrap (i4+1)))))
def td (x0:Sem zj.sl):=aA [Sh.bool] pX 100000000 (zb7 x0)
def Aw (x0:Sem zj.sl):=(td x0).isSome
def EP (x0:Sem zj.sl):=o1 (td x0)
def Zg:=FT [zj.sl] [Sh.bool] fun x=>td x.1
theorem VT:FK 28 Zg:=qW.T1 (f:=Tryz.f28) (keep:=zcr) (e:=zeM)

def NT:=NS.addL [(27,Zf),(28,Zg)]
theorem yh:zy NT:=qW.addL <| fc VS <| fc VT jp
end
noncomputable section

abbrev zgt:=qm [(4,[0,3]),(9,[0,4])]
inductive T5 where
 | h4 (l0:List (Sem zj)) (i3:Int)
 | h9 (l0:List (Sem zj)) (i4:Int)
abbrev e9p:T5→Nat×St
 | .h4 l0 i3=>(4,⟨tm 46 [(0,AV.sl zj l0),(3,AV.int .i64 i3)],[]⟩)
 | .h9 l0 i4=>(9,⟨tm 46 [(0,AV.sl zj l0),(4,AV.int .i64 i4)],[]⟩)
def i9p (x0:Sem zj.sl):Tr (T5 ⊕ aF):=
 Tr.br (decide ((↑(length x0):Int) > 12)) (Tr.re (AV.int .i64 13) []) (Tr.to (T5.h4 x0 1))
def Qu:T5→Tr (T5 ⊕ aF)
 | .h4 l0 i3=>
  let a0:=IntKind.i64.wrap (i3 - 1)
  let a1:=l0.getD a0.toNat (zi zj)
  let a2:=l0.getD i3.toNat (zi zj)
  Tr.br (decide (i3 < (↑l0.length:Int)))
  (Tr.chk (zR a0 l0.length)
   (Tr.chk (zR i3 l0.length) (Tr.br (!Op.bytesLess a1.1.1 a2.1.1) (Tr.re (AV.int .i64 15) []) (Tr.to (T5.h4 l0 (IntKind.i64.wrap (i3+1)))))))
  (Tr.to (T5.h9 l0 0))
 | .h9 l0 i4=>
  let a0:=l0.getD i4.toNat (zi zj)
  let a1:=((a0.1.1,a0.1.2.1,a0.1.2.2.1,a0.1.2.2.2.1,a0.1.2.2.2.2.1,zm a0.1.2.2.2.2.2),a0.2)
  let a2:=EL a1
  Tr.br (decide (i4 < (↑l0.length:Int)))
  (Tr.chk (zR i4 l0.length) (Tr.chk (At a1) (Tr.br (a2 != 0) (Tr.re (AV.int .i64 a2) []) (Tr.to (T5.h9 l0 (IntKind.i64.wrap (i4+1)))))))
  (Tr.chk (Aw l0) (Tr.br (!EP l0) (Tr.re (AV.int .i64 10) []) (Tr.re (AV.int .i64 0) [])))
def ox (x0:Sem zj.sl):=aA [zf] Qu 100000000 (i9p x0)
def Ax (x0:Sem zj.sl):=(ox x0).isSome
def ER (x0:Sem zj.sl):=o1 (ox x0)
def F9p:=FT [zj.sl] [zf] fun x=>ox x.1
theorem zbb:FK 9 F9p:=yh.T1 (f:=Tryz.f9) (keep:=zgt) (e:=e9p)

def NU:=NT.add 9 F9p
theorem ms:zy NU:=yh.add zbb
end
noncomputable section

abbrev zcy:=qm [(4,[0,1,12,13])]
inductive Lt where
 | h4 (l0:List (Sem zf)) (l1:List (Sem zf)) (i12:Int) (i13:Int)
abbrev zeR:Lt→Nat×St
 | .h4 l0 l1 i12 i13=>(4,⟨tm 26 [(0,AV.sl zf l0),(1,AV.sl zf l1),(12,AV.int .i64 i12),(13,AV.int .i64 i13)],[]⟩)
def Si (x0:Sem zf.sl) (x1:Sem zf.sl):Tr (Lt ⊕ aF):=
 Tr.br ((↑(length x0):Int) != (↑(length x1):Int)) (Tr.re (AV.kb false) []) (Tr.to (Lt.h4 x0 x1 (↑(length x0):Int) 0))
def zee:Lt→Tr (Lt ⊕ aF)
 | .h4 l0 l1 i12 i13=>
  Tr.br (decide (i13 < i12))
  (Tr.chk (zR i13 l0.length)
   (Tr.chk (zR i13 l1.length) (Tr.br (l0.getD i13.toNat (zi zf) != l1.getD i13.toNat (zi zf)) (Tr.re (AV.kb false) []) (Tr.to (Lt.h4 l0 l1 i12 (IntKind.i64.wrap (i13+1)))))))
  (Tr.re (AV.kb true) [])
def Fc (x0:Sem zf.sl) (x1:Sem zf.sl):=aA [Sh.bool] zee 100000000 (Si x0 x1)
def Fb (x0:Sem zf.sl) (x1:Sem zf.sl):=(Fc x0 x1).isSome
def nh (x0:Sem zf.sl) (x1:Sem zf.sl):=o1 (Fc x0 x1)
def Zw:=FT [zf.sl,zf.sl] [Sh.bool] fun x=>Fc x.1 x.2.1
theorem Wb:FK 45 Zw:=ms.T1 (f:=Tryz.f45) (keep:=zcy) (e:=zeR)

abbrev zcR:=qm [(4,[0,1,12,13])]
inductive Ly where
 | h4 (l0:List (Sem zh)) (l1:List (Sem zh)) (i12:Int) (i13:Int)
abbrev ze3:Ly→Nat×St
 | .h4 l0 l1 i12 i13=>(4,⟨tm 26 [(0,AV.sl zh l0),(1,AV.sl zh l1),(12,AV.int .i64 i12),(13,AV.int .i64 i13)],[]⟩)
def Sl (x0:Sem zh.sl) (x1:Sem zh.sl):Tr (Ly ⊕ aF):=
 Tr.br ((↑(length x0):Int) != (↑(length x1):Int)) (Tr.re (AV.kb false) []) (Tr.to (Ly.h4 x0 x1 (↑(length x0):Int) 0))
def zeg:Ly→Tr (Ly ⊕ aF)
 | .h4 l0 l1 i12 i13=>
  let a0:=l0.getD i13.toNat (zi zh)
  let a1:=l1.getD i13.toNat (zi zh)
  Tr.br (decide (i13 < i12))
  (Tr.chk (zR i13 l0.length)
   (Tr.chk (zR i13 l1.length) (Tr.br (!(a0.1==a1.1&&(a0.2.1==a1.2.1&&(a0.2.2==a1.2.2&&true)))) (Tr.re (AV.kb false) []) (Tr.to (Ly.h4 l0 l1 i12 (IntKind.i64.wrap (i13+1)))))))
  (Tr.re (AV.kb true) [])
def E9 (x0:Sem zh.sl) (x1:Sem zh.sl):=aA [Sh.bool] zeg 100000000 (Sl x0 x1)
def Jy (x0:Sem zh.sl) (x1:Sem zh.sl):=(E9 x0 x1).isSome
def v8 (x0:Sem zh.sl) (x1:Sem zh.sl):=o1 (E9 x0 x1)
def ZW:=FT [zh.sl,zh.sl] [Sh.bool] fun x=>E9 x.1 x.2.1
theorem WE:FK 85 ZW:=ms.T1 (f:=Tryz.f85) (keep:=zcR) (e:=ze3)

abbrev zcS:=qm [(4,[0,1,12,13])]
inductive Lz where
 | h4 (l0:List (Sem zq)) (l1:List (Sem zq)) (i12:Int) (i13:Int)
abbrev ze4:Lz→Nat×St
 | .h4 l0 l1 i12 i13=>(4,⟨tm 26 [(0,AV.sl zq l0),(1,AV.sl zq l1),(12,AV.int .i64 i12),(13,AV.int .i64 i13)],[]⟩)
def Sm (x0:Sem zq.sl) (x1:Sem zq.sl):Tr (Lz ⊕ aF):=
 Tr.br ((↑(length x0):Int) != (↑(length x1):Int)) (Tr.re (AV.kb false) []) (Tr.to (Lz.h4 x0 x1 (↑(length x0):Int) 0))
def zeh:Lz→Tr (Lz ⊕ aF)
 | .h4 l0 l1 i12 i13=>
  let a0:=l0.getD i13.toNat (zi zq)
  let a1:=l1.getD i13.toNat (zi zq)
  Tr.br (decide (i13 < i12))
  (Tr.chk (zR i13 l0.length)
   (Tr.chk (zR i13 l1.length) (Tr.br (!(a0.1==a1.1&&(a0.2==a1.2&&true))) (Tr.re (AV.kb false) []) (Tr.to (Lz.h4 l0 l1 i12 (IntKind.i64.wrap (i13+1)))))))
  (Tr.re (AV.kb true) [])
def Fa (x0:Sem zq.sl) (x1:Sem zq.sl):=aA [Sh.bool] zeh 100000000 (Sm x0 x1)
def Jz (x0:Sem zq.sl) (x1:Sem zq.sl):=(Fa x0 x1).isSome
def wa (x0:Sem zq.sl) (x1:Sem zq.sl):=o1 (Fa x0 x1)
def ZX:=FT [zq.sl,zq.sl] [Sh.bool] fun x=>Fa x.1 x.2.1
theorem WF:FK 86 ZX:=ms.T1 (f:=Tryz.f86) (keep:=zcS) (e:=ze4)

def NX:=NU.addL [(45,Zw),(85,ZW),(86,ZX)]
theorem yk:zy NX:=ms.addL <| fc Wb <| fc WE <| fc WF jp
end

noncomputable def zb9 (x0:Sem zl) (x1:Sem zl):Tr (Empty ⊕ aF):=
 let a0:=x0.1==x1.1
 let a1:=x0.2.2.1==x1.2.2.1
 let a2:=v8 x0.2.1 x1.2.1
 let a3:=nh x0.2.2.2.1 x1.2.2.2.1
 let a4:=wa x0.2.2.2.2.1 x1.2.2.2.2.1
 let a5:=zm x0.2.2.2.2.2
 let a6:=zm x1.2.2.2.2.2
 Tr.chk
 (bif a0 then
  bif a1 then Jy x0.2.1 x1.2.1&&bif a2 then Fb x0.2.2.2.1 x1.2.2.2.1&&bif a3 then Jz x0.2.2.2.2.1 x1.2.2.2.2.1&&bif a4 then gW 16 a5 a6 else true else true else true
  else true
 else true)
 (Tr.re (AV.bool (bif a0 then bif a1 then bif a2 then bif a3 then bif a4 then eQ 16 a5 a6 else false else false else false else false else false)) [])
noncomputable def Fu (x0:Sem zl) (x1:Sem zl):=aA [Sh.bool] t0 100000000 (zb9 x0 x1)
noncomputable def Ft (x0:Sem zl) (x1:Sem zl):=(Fu x0 x1).isSome
noncomputable def qE (x0:Sem zl) (x1:Sem zl):=o1 (Fu x0 x1)
noncomputable def Zv:=FT [zl,zl] [Sh.bool] fun x=>Fu x.1 x.2.1
theorem Wa:FK 44 Zv:=yk.T1 (f:=Tryz.f44) (keep:=k0) (e:=e0)

noncomputable def NY:=NX.add 44 Zv
theorem Iq:zy NY:=yk.add Wa
noncomputable section
def Xa:bS:={ R3 with own:=true }
theorem Is:zy Xa:=⟨⟨r7.sh⟩,r7.fs,r7.mix⟩

def Xz (x0:Sem aB):Tr (Empty ⊕ aF):=
 let a0:=[x0.2.1]
 let a1:=[x0.2.2.1]
 Tr.br (!x0.2.2.1==[]) (Tr.chk (decide (a0.length+a1.length≤1073741824)) (Tr.re (AV.vec 0) [AO.vec Sh.str (a0++a1)]))
 (Tr.re (AV.vec 0) [AO.vec Sh.str a0])
def kN (x0:Sem aB):=aA [Sh.str.sl] t0 100000000 (Xz x0)
def iT (x0:Sem aB):=(kN x0).isSome
def j8 (x0:Sem aB):=o1 (kN x0)
def Vi:=FT [aB] [Sh.str.sl] fun x=>kN x.1
theorem VK:FK 17 Vi:=Is.T1 (f:=Tryz.f17) (keep:=k0) (e:=e0)

theorem VL:FK 17 Vi:=VK
def NZ:=NY.add 17 Vi
theorem qX:zy NZ:=Iq.add VL

end
noncomputable section
abbrev jb:List CP:=[.d .str,.d .str,.d .str,.d .str,.nil,.d zf,.nil,.nil,.d .str,.d zf,.d zf,.d .str,.d .str,.nil,.nil,.d zf]
abbrev Gc:List CP:=[.d .str,.d .str,.d .str,.d .str,.nil,.d zf,.nil,.nil,.d .expr,.nil,.d zf]
abbrev LM:List CP:=[.d .str,.d .str,.d .str,.d .str,.vec zh,.d zf,.nil,.nil,.d .expr,.d (.sl zf),.d zf]
abbrev W6:List CP:=[.d .str,.d .str,.d .str,.d .str,.d (.sl zh),.d zf,.nil,.nil,.d .expr,.d (.sl zf),.d zf]
abbrev Nx:List CP:=[.d .str,.d .str,.d .str,.d .str,.vec zh,.d zf,.nil,.nil,.d .expr,.vec zf,.d zf]

def zb5 (x0:Sem aB) (x1:Sem aB):Tr (Empty ⊕ aF):=
 let a0:=x0.1==x1.1
 let a1:=x0.2.1==x1.2.1
 let a2:=x0.2.2.1==x1.2.2.1
 let a3:=x0.2.2.2.2.2==x1.2.2.2.2.2
 let a4:=(x0.2.2.2.1.1,x0.2.2.2.1.2.1,x0.2.2.2.1.2.2.1,x0.2.2.2.1.2.2.2.1,x0.2.2.2.1.2.2.2.2.1,zm x0.2.2.2.1.2.2.2.2.2)
 let a5:=(x1.2.2.2.1.1,x1.2.2.2.1.2.1,x1.2.2.2.1.2.2.1,x1.2.2.2.1.2.2.2.1,x1.2.2.2.1.2.2.2.2.1,zm x1.2.2.2.1.2.2.2.2.2)
 let a6:=qE a4 a5
 Tr.chk
 (bif a0 then
  bif a1 then bif a2 then bif a3 then Ft a4 a5&&bif a6 then Fb x0.2.2.2.2.1 x1.2.2.2.2.1 else true else true else true else true
 else true)
 (Tr.re
  (AV.bool (bif a0 then bif a1 then bif a2 then bif a3 then bif a6 then nh x0.2.2.2.2.1 x1.2.2.2.2.1 else false else false else false else false else false))
  [])
def Er (x0:Sem aB) (x1:Sem aB):=aA [Sh.bool] t0 100000000 (zb5 x0 x1)
def I7 (x0:Sem aB) (x1:Sem aB):=(Er x0 x1).isSome
def Hd (x0:Sem aB) (x1:Sem aB):=o1 (Er x0 x1)
def Y8:=FT [aB,aB] [Sh.bool] fun x=>Er x.1 x.2.1
theorem VH:FK 15 Y8:=qX.T1 (f:=Tryz.f15) (keep:=k0) (e:=e0)

abbrev zPl:AV:=.agg [AV.str [],AV.str [],AV.str [],AV.str [],AV.nils,AV.int .i64 0,AV.nils,AV.nils,AV.str [],AV.int .i64 0,AV.int .i64 0,AV.str [],AV.str [],AV.nils,AV.nils,AV.int .i64 0]
abbrev rE {σ:Type} (e:Int):Tr (σ ⊕ aF):=.re (.tup [zPl,.int .i64 e]) []
abbrev zcm:Nat→aJ:=fun j=>if j=7 then { slots:=[0,3,4,8,9,10] } else if j=24 then { slots:=[3,4,8,11,13],prom:=[(8,some 4,zh)] } else if j=38 then { slots:=[3,4,8,11,14,15,16] } else if j=48 then { slots:=[3,4,8,14,17],prom:=[(8,some 14,.int .i64)] } else if j=64 then { slots:=[3,4,8,20] } else { }
inductive jM where
 | h7 (l0:List (Sem zj)) (l9:List (Sem Sh.str)) (i10:Int) (z0:zo [CP.d zk]) (z1:zo jb) (z2:zo Gc)
 | h24 (i13:Int) (z0:zo [CP.d zk]) (z1:zo jb) (z2:zo LM) (z3:zo [CP.d zl])
 | h38 (i16:Int) (z0:zo [CP.d zk]) (z1:zo jb) (z2:zo Gc) (z3:zo [CP.d zl]) (z4:zo [CP.d zl])
 | h64 (i20:Int) (z0:zo [CP.d zk]) (z1:zo jb) (z2:zo W6)
 | h64b (i20:Int) (z0:zo [CP.d zk]) (z1:zo jb) (z2:zo Gc)
 | h64bb (i20:Int) (z0:zo [CP.d zk]) (z1:zo jb) (z2:zo LM)
 | h38b (b15:Bool) (i16:Int) (z0:zo [CP.d zk]) (z1:zo jb) (z2:zo Gc) (z3:zo [CP.d zl]) (z4:zo [CP.d zl])
 | h48 (i17:Int) (z0:zo [CP.d zk]) (z1:zo jb) (z2:zo Nx) (z3:zo [CP.d zl])
 | h64bbb (i20:Int) (z0:zo [CP.d zk]) (z1:zo jb) (z2:zo Nx)
abbrev zeJ:jM→Nat×St
 | .h7 l0 l9 i10 z0 z1 z2=>(7,⟨tm 339 [(0,AV.sl zj l0),(3,AV.ptr 0 0),(4,AV.ptr 1 0),(8,AV.ptr 2 0),(9,AV.sl Sh.str l9),(10,AV.int .i64 i10)],[AO.box (ch [] [CP.d zk] z0),AO.box (ch [] jb z1),AO.box (ch [] Gc z2)]⟩)
 | .h24 i13 z0 z1 z2 z3=>(24,⟨tm 339 [(3,AV.ptr 0 0),(4,AV.ptr 1 0),(8,AV.ptr 2 0),(11,AV.ptr 3 0),(13,AV.int .i64 i13)],[AO.box (ch [] [CP.d zk] z0),AO.box (ch [] jb z1),AO.box (ch [4] LM z2),AO.box (ch [] [CP.d zl] z3),AO.vec zh z2.2.2.2.2.1]⟩)
 | .h38 i16 z0 z1 z2 z3 z4=>(38,⟨tm 339 [(3,AV.ptr 0 0),(4,AV.ptr 1 0),(8,AV.ptr 2 0),(11,AV.ptr 3 0),(14,AV.ptr 4 0),(15,AV.kb false),(16,AV.int .i64 i16)],[AO.box (ch [] [CP.d zk] z0),AO.box (ch [] jb z1),AO.box (ch [] Gc z2),AO.box (ch [] [CP.d zl] z3),AO.box (ch [] [CP.d zl] z4)]⟩)
 | .h64 i20 z0 z1 z2=>(64,⟨tm 339 [(3,AV.ptr 0 0),(4,AV.ptr 1 0),(8,AV.ptr 2 0),(20,AV.int .i64 i20)],[AO.box (ch [] [CP.d zk] z0),AO.box (ch [] jb z1),AO.box (ch [] W6 z2)]⟩)
 | .h64b i20 z0 z1 z2=>(64,⟨tm 339 [(3,AV.ptr 0 0),(4,AV.ptr 1 0),(8,AV.ptr 2 0),(20,AV.int .i64 i20)],[AO.box (ch [] [CP.d zk] z0),AO.box (ch [] jb z1),AO.box (ch [] Gc z2)]⟩)
 | .h64bb i20 z0 z1 z2=>(64,⟨tm 339 [(3,AV.ptr 0 0),(4,AV.ptr 1 0),(8,AV.ptr 2 0),(20,AV.int .i64 i20)],[AO.box (ch [] [CP.d zk] z0),AO.box (ch [] jb z1),AO.box (ch [3] LM z2),AO.vec zh z2.2.2.2.2.1]⟩)
 | .h38b b15 i16 z0 z1 z2 z3 z4=>(38,⟨tm 339 [(3,AV.ptr 0 0),(4,AV.ptr 1 0),(8,AV.ptr 2 0),(11,AV.ptr 3 0),(14,AV.ptr 4 0),(15,AV.bool b15),(16,AV.int .i64 i16)],[AO.box (ch [] [CP.d zk] z0),AO.box (ch [] jb z1),AO.box (ch [] Gc z2),AO.box (ch [] [CP.d zl] z3),AO.box (ch [] [CP.d zl] z4)]⟩)
 | .h48 i17 z0 z1 z2 z3=>(48,⟨tm 339 [(3,AV.ptr 0 0),(4,AV.ptr 1 0),(8,AV.ptr 2 0),(14,AV.ptr 3 0),(17,AV.int .i64 i17)],[AO.box (ch [] [CP.d zk] z0),AO.box (ch [] jb z1),AO.box (ch [4,5] Nx z2),AO.box (ch [] [CP.d zl] z3),AO.vec zh z2.2.2.2.2.1,AO.vec zf z2.2.2.2.2.2.2.2.1]⟩)
 | .h64bbb i20 z0 z1 z2=>(64,⟨tm 339 [(3,AV.ptr 0 0),(4,AV.ptr 1 0),(8,AV.ptr 2 0),(20,AV.int .i64 i20)],[AO.box (ch [] [CP.d zk] z0),AO.box (ch [] jb z1),AO.box (ch [3,4] Nx z2),AO.vec zh z2.2.2.2.2.1,AO.vec zf z2.2.2.2.2.2.2.2.1]⟩)
def Md (x0:Sem zj.sl) (x1:Sem zk):Tr (jM ⊕ aF):=
 let a0:=zm x1.2.2.2.2.2.2.2.2.1
 let a1:=(x1.1,x1.2.1,x1.2.2.1,x1.2.2.2.1,x1.2.2.2.2.1,x1.2.2.2.2.2.1,x1.2.2.2.2.2.2.1,x1.2.2.2.2.2.2.2.1,a0,x1.2.2.2.2.2.2.2.2.2.1,x1.2.2.2.2.2.2.2.2.2.2.1,zm x1.2.2.2.2.2.2.2.2.2.2.2.1,x1.2.2.2.2.2.2.2.2.2.2.2.2)
 let a2:=ke a1
 let a3 := !a2.2
 let a4:=(x1.1,x1.2.2.1,x1.2.2.2.2.2.2.2.2.2.2.2.2,(x1.2.1,[],0,[],[],a0),[],0)
 Tr.chk (gT a1)
 (Tr.chk (bif a3 then true else Ax x0)
  (Tr.br (bif a3 then true else bif ER x0 != 0 then true else bif !x1.1==[99,111,112,121] then bif !x1.1==[106,111,105,110] then !x1.1==[103,114,111,117,112] else false else false) (rE 1) (Tr.chk (iT a4) (Tr.to (jM.h7 x0 (j8 a4) 0 (x1,()) ([],[],[],[],0,[],0,0,[],[],0,()) (x1.1,x1.2.2.1,x1.2.2.2.2.2.2.2.2.2.2.2.2,x1.2.1,0,x1.2.2.2.2.2.2.2.2.1,0,()))))))
def cU:jM→Tr (jM ⊕ aF)
 | .h7 l0 l9 i10 z0 z1 z2=>
  let a0:=mQ l0 (l9.getD i10.toNat (zi Sh.str))
  let a1:=mQ l0 z0.1.2.1
  let a2:=mQ l0 z0.1.2.2.1
  let a3:=l0.getD (toNat a2) (zi zj)
  let a4:=mE a3.1.2.1 z0.1.2.2.2.1
  let a5:=pj a3.1.2.1 z0.1.2.2.2.1
  let a6:=a5.2 != 0
  let a7:=(z2.2.2.2.2.2.1,a5.1,z2.2.2.2.2.2.2)
  let a8:=(a3.1,())
  let a9:=mQ l0 z0.1.2.2.2.2.2.2.2.2.2.2.2.2
  let a10:=ef a3.1.2.1 z0.1.2.2.2.2.2.1
  let a11:=l0.getD (toNat a9) (zi zj)
  let a12:=getD a5.1 (toNat 0) (zi zf)
  let a13:=getD a5.1 (toNat 1) (zi zf)
  let a14:=getD a3.1.2.1 (toNat a13) (zi zh)
  let a15:=getD a3.1.2.1 (toNat a12) (zi zh)
  Tr.br (decide (i10 < (↑l9.length:Int)))
  (Tr.chk (zR i10 l9.length) (Tr.br (decide (a0 < 0)) (rE 6) (Tr.to (jM.h7 l0 l9 (IntKind.i64.wrap (i10+1)) z0 z1 z2))))
  (Tr.br (bif decide (a1 ≥ 0) then true else z0.1.2.2.1==z0.1.2.2.2.2.2.2.2.2.2.2.2.2) (rE 7) (Tr.chk (rB l0 l9) (Tr.br (uO l0 l9) (rE 10) (Tr.chk (zR a2 l0.length) (Tr.br (z0.1.1==[99,111,112,121]) (Tr.chk a4 (Tr.br a6 (rE a5.2) (Tr.to (jM.h24 0 z0 z1 (z2.1,z2.2.1,z2.2.2.1,z2.2.2.2.1,[],-1,a7) a8)))) (Tr.br (z0.1.1==[106,111,105,110]) (Tr.chk (zR a9 l0.length)
  (Tr.chk (dc a3.1.2.1 z0.1.2.2.2.2.2.1) (Tr.br (decide (a10 < 0)) (rE 4) (Tr.to
  (jM.h38 0 z0 z1 (z2.1,z2.2.1,z2.2.2.1,z2.2.2.2.1,z2.2.2.2.2.1,z2.2.2.2.2.2.1,a10,()) a8 (a11.1,())))))) (Tr.br (z0.1.1==[103,114,111,117,112]) (Tr.chk a4 (Tr.br a6 (rE a5.2) (Tr.chk (zR 0 (length a5.1)) (Tr.chk (zR a12 (length a3.1.2.1)) (Tr.chk (zR 1 (length a5.1)) (Tr.chk (zR a13 (length a3.1.2.1)) (Tr.br (a14.2.1 != 1) (rE 5) (Tr.to (jM.h64 0 z0 z1 (z2.1,z2.2.1,z2.2.2.1,z2.2.2.2.1,[(a15.1,a15.2.1,true),(a14.1,a14.2.1,false)],z2.2.2.2.2.1,a7)))))))))) (Tr.to (jM.h64b 0 z0 z1 z2)))))))))
 | .h24 i13 z0 z1 z2 z3=>
  let a0:=(↑(length z2.2.2.2.2.2.2.2.1):Int)
  let a1:=zR i13 (length z2.2.2.2.2.2.2.2.1)
  let a2:=getD z2.2.2.2.2.2.2.2.1 i13.toNat (zi zf)
  let a3:=zR a2 (length z3.1.2.1)
  let a4:=[getD z3.1.2.1 (toNat a2) (zi zh)]
  let a5:=decide (z2.2.2.2.2.1.length+a4.length≤1073741824)
  let a6:=IntKind.i64.wrap (i13+1)
  let a7:=z2.2.2.2.2.1++a4
  Tr.br (decide (i13 < a0))
  (Tr.chk a1 (Tr.br (a2==z3.1.2.2.1) (Tr.chk a1 (Tr.chk a3 (Tr.chk a5 (Tr.to (jM.h24 a6 z0 z1 (z2.1,z2.2.1,z2.2.2.1,z2.2.2.2.1,a7,i13,z2.2.2.2.2.2.2) z3))))) (Tr.chk a1 (Tr.chk a3 (Tr.chk a5 (Tr.to (jM.h24 a6 z0 z1 (z2.1,z2.2.1,z2.2.2.1,z2.2.2.2.1,a7,z2.2.2.2.2.2) z3)))))))
  (Tr.br (decide (z2.2.2.2.2.2.1 < 0)) (rE 1) (Tr.to (jM.h64bb 0 z0 z1 z2)))
 | .h38 i16 z0 z1 z2 z3 z4=>
  let a0:=(↑(length z3.1.2.2.2.2.1):Int)
  let a1:=zR i16 (length z3.1.2.2.2.2.1)
  let a2:=getD z3.1.2.2.2.2.1 i16.toNat (zi zq)
  let a3:=a2.1==z2.2.2.2.2.2.2.1
  Tr.br (decide (i16 < a0))
  (Tr.chk (a1&&bif a3 then a1 else true) (Tr.to (jM.h38b (bif a3 then a2.2==z0.1.2.2.2.2.2.2.2.2.2.2.2.2 else false) (IntKind.i64.wrap (i16+1)) z0 z1 z2 z3 z4)))
  (rE 10)
 | .h64 i20 z0 z1 z2=>
  let a0:=(↑(length z2.2.2.2.2.1):Int)
  let a1:=getD z2.2.2.2.2.1 i20.toNat (zi zh)
  let a2:=zm z0.1.2.2.2.2.2.2.2.2.1
  let a3:=uT a2 z2.2.2.2.2.1
  Tr.br (decide (i20 < a0))
  (Tr.chk (zR i20 (length z2.2.2.2.2.1)) (Tr.chk (dc z2.2.2.2.2.1 a1.1) (Tr.br (ef z2.2.2.2.2.1 a1.1 != i20) (rE 7)
  (Tr.to (jM.h64 (IntKind.i64.wrap (i20+1)) z0 z1 z2)))))
  (Tr.chk (pC a2 z2.2.2.2.2.1) (Tr.br (a3 != 0) (rE a3) (Tr.re (AV.tup [AV.agg [AV.str z2.1,AV.str z2.2.1,AV.str z2.2.2.1,AV.str z2.2.2.2.1,
  AV.sl zh z2.2.2.2.2.1,AV.int .i64 z2.2.2.2.2.2.1,AV.nils,AV.nils,AV.str (ze.op z2.2.2.2.2.2.2.1),AV.int .i64 (ze.v z2.2.2.2.2.2.2.1).1,AV.int .i64 (ze.v z2.2.2.2.2.2.2.1).2.1,AV.str (ze.v z2.2.2.2.2.2.2.1).2.2,AV.str (ze.s z2.2.2.2.2.2.2.1),AV.sl Sh.expr (ze.l z2.2.2.2.2.2.2.1),AV.sl zf z2.2.2.2.2.2.2.2.1,AV.int .i64 z2.2.2.2.2.2.2.2.2.1],AV.int .i64 0])
  [])))
 | .h64b i20 z0 _ z2=>
  let a0:=zm z0.1.2.2.2.2.2.2.2.2.1
  let a1:=uT a0 []
  Tr.br (decide (i20 < 0)) Tr.err
  (Tr.chk (pC a0 []) (Tr.br (a1 != 0) (rE a1) (Tr.re (AV.tup [AV.agg
  [AV.str z2.1,AV.str z2.2.1,AV.str z2.2.2.1,AV.str z2.2.2.2.1,AV.nils,AV.int .i64 z2.2.2.2.2.1,AV.nils,AV.nils,AV.str (ze.op z2.2.2.2.2.2.1),AV.int .i64 (ze.v z2.2.2.2.2.2.1).1,AV.int .i64 (ze.v z2.2.2.2.2.2.1).2.1,AV.str (ze.v z2.2.2.2.2.2.1).2.2,AV.str (ze.s z2.2.2.2.2.2.1),AV.sl Sh.expr (ze.l z2.2.2.2.2.2.1),AV.nils,AV.int .i64 z2.2.2.2.2.2.2.1],
  AV.int .i64 0]) [])))
 | .h64bb i20 z0 z1 z2=>
  let a0:=(↑z2.2.2.2.2.1.length:Int)
  let a1:=z2.2.2.2.2.1.getD i20.toNat (zi zh)
  let a2:=zm z0.1.2.2.2.2.2.2.2.2.1
  let a3:=uT a2 z2.2.2.2.2.1
  Tr.br (decide (i20 < a0))
  (Tr.chk (zR i20 z2.2.2.2.2.1.length) (Tr.chk (decide (i20.toNat < z2.2.2.2.2.1.length)) (Tr.chk (dc z2.2.2.2.2.1 a1.1) (Tr.br (ef z2.2.2.2.2.1 a1.1 != i20) (rE 7)
  (Tr.to (jM.h64bb (IntKind.i64.wrap (i20+1)) z0 z1 z2))))))
  (Tr.chk (pC a2 z2.2.2.2.2.1) (Tr.br (a3 != 0) (rE a3) (Tr.re (AV.tup [AV.agg
  [AV.str z2.1,AV.str z2.2.1,AV.str z2.2.2.1,AV.str z2.2.2.2.1,AV.vec 0,AV.int .i64 z2.2.2.2.2.2.1,AV.nils,AV.nils,AV.str (ze.op z2.2.2.2.2.2.2.1),AV.int .i64 (ze.v z2.2.2.2.2.2.2.1).1,AV.int .i64 (ze.v z2.2.2.2.2.2.2.1).2.1,AV.str (ze.v z2.2.2.2.2.2.2.1).2.2,AV.str (ze.s z2.2.2.2.2.2.2.1),AV.sl Sh.expr (ze.l z2.2.2.2.2.2.2.1),
  AV.sl zf z2.2.2.2.2.2.2.2.1,AV.int .i64 z2.2.2.2.2.2.2.2.2.1],AV.int .i64 0]) [AO.vec zh z2.2.2.2.2.1])))
 | .h38b b15 i16 z0 z1 z2 z3 z4=>
  let a0:=(↑(length z3.1.2.2.2.2.1):Int)
  let a1:=zR i16 (length z3.1.2.2.2.2.1)
  let a2:=getD z3.1.2.2.2.2.1 i16.toNat (zi zq)
  let a3:=a2.1==z2.2.2.2.2.2.2.1
  let a4:=IntKind.i64.wrap ((↑(length z3.1.2.1):Int)+(↑(length z4.1.2.1):Int))
  Tr.br (decide (i16 < a0))
  (Tr.chk (bif b15 then true else a1&&bif a3 then a1 else true) (Tr.to (jM.h38b (bif b15 then true else bif a3 then a2.2==z0.1.2.2.2.2.2.2.2.2.2.2.2.2 else false) (IntKind.i64.wrap (i16+1)) z0 z1 z2 z3 z4)))
  (Tr.br (!b15) (rE 10) (Tr.br (decide (a4 > 9)) (rE 13) (Tr.chk (decide (length z3.1.2.1≤1073741824)) (Tr.to (jM.h48 0 z0 z1 (z2.1,z2.2.1,z2.2.2.1,z2.2.2.2.1,z3.1.2.1,z3.1.2.2.1,z2.2.2.2.2.2.1,[],z2.2.2.2.2.2.2) z4)))))
 | .h48 i17 z0 z1 z2 z3=>
  let a0:=(↑(length z3.1.2.1):Int)
  let a1:=[getD z3.1.2.1 i17.toNat (zi zh)]
  let a2:=IntKind.i64.wrap (i17+1)
  Tr.br (decide (i17 < a0))
  (Tr.br (i17 != z3.1.2.2.1) (Tr.chk (decide (z2.2.2.2.2.2.2.2.1.length+[i17].length≤1073741824)) (Tr.chk (zR i17 (length z3.1.2.1)) (Tr.chk (decide (z2.2.2.2.2.1.length+a1.length≤1073741824)) (Tr.to (jM.h48 a2 z0 z1 (z2.1,z2.2.1,z2.2.2.1,z2.2.2.2.1,z2.2.2.2.2.1++a1,z2.2.2.2.2.2.1,z2.2.2.2.2.2.2.1,z2.2.2.2.2.2.2.2.1++[i17],z2.2.2.2.2.2.2.2.2) z3)))))
  (Tr.to (jM.h48 a2 z0 z1 z2 z3)))
  (Tr.to (jM.h64bbb 0 z0 z1 z2))
 | .h64bbb i20 z0 z1 z2=>
  let a0:=(↑z2.2.2.2.2.1.length:Int)
  let a1:=z2.2.2.2.2.1.getD i20.toNat (zi zh)
  let a2:=zm z0.1.2.2.2.2.2.2.2.2.1
  let a3:=uT a2 z2.2.2.2.2.1
  Tr.br (decide (i20 < a0))
  (Tr.chk (zR i20 z2.2.2.2.2.1.length) (Tr.chk (decide (i20.toNat < z2.2.2.2.2.1.length)) (Tr.chk (dc z2.2.2.2.2.1 a1.1) (Tr.br (ef z2.2.2.2.2.1 a1.1 != i20) (rE 7)
  (Tr.to (jM.h64bbb (IntKind.i64.wrap (i20+1)) z0 z1 z2))))))
  (Tr.chk (pC a2 z2.2.2.2.2.1) (Tr.br (a3 != 0) (rE a3) (Tr.re (AV.tup [AV.agg
  [AV.str z2.1,AV.str z2.2.1,AV.str z2.2.2.1,AV.str z2.2.2.2.1,AV.vec 0,AV.int .i64 z2.2.2.2.2.2.1,AV.nils,AV.nils,AV.str (ze.op z2.2.2.2.2.2.2.1),AV.int .i64 (ze.v z2.2.2.2.2.2.2.1).1,AV.int .i64 (ze.v z2.2.2.2.2.2.2.1).2.1,AV.str (ze.v z2.2.2.2.2.2.2.1).2.2,AV.str (ze.s z2.2.2.2.2.2.2.1),AV.sl Sh.expr (ze.l z2.2.2.2.2.2.2.1),AV.vec 1,
  AV.int .i64 z2.2.2.2.2.2.2.2.2.1],AV.int .i64 0]) [AO.vec zh z2.2.2.2.2.1,AO.vec zf z2.2.2.2.2.2.2.2.1])))
def Ac (x0:Sem zj.sl) (x1:Sem zk):=aA [aB,zf] cU 100000000 (Md x0 x1)
def Jb (x0:Sem zj.sl) (x1:Sem zk):=(Ac x0 x1).isSome
def PX (x0:Sem zj.sl) (x1:Sem zk):=o2 (Ac x0 x1)
def Y6:=FT [zj.sl,zk] [aB,zf] fun x=>Ac x.1 x.2.1
theorem VF:FK 14 Y6:=qX.T1 (f:=Tryz.f14) (keep:=zcm) (e:=zeJ)

def W9:=NZ.addL [(15,Y8),(14,Y6)]
theorem Ir:zy W9:=qX.addL <| fc VH <| fc VF <| jp
end

theorem gi {c g:Bool} (h1:c=true) (h2:g=true):(if c=true then g else false)=true:=by rw [if_pos h1]; exact h2
theorem dU {a b:Nat} (h:a≤b):decide (a≤b)=true:=zu h

theorem Ds {v:Sem zg} (h:ce v=true) (h2:(v.1==2)=true):v.2.2.length≤40:=by
 have e:v.1=2:=by simpa using h2
 unfold ce at h
 rw [e] at h
 simp only [show ((2:Int)==0)=false from rfl,show ((2:Int)==1)=false from rfl,show ((2:Int)==2)=true from rfl,zV,if_false,if_true] at h
 cases h1:v.2.1==0
 ·rw [h1] at h; simp at h
 ·rw [h1] at h
  cases h3:decide ((v.2.2.length:Int)≤40)
  ·rw [h3] at h; simp at h
  ·have:=jh h3
   omega

theorem H0 (v:Sem zg):vg v=true:=by
 unfold vg
 split
 ·rfl
 ·rename_i hm
  have hm:ce v=true:=by simpa using hm
  split
  ·rfl
  ·split
   ·rename_i h2
    have hl:=Ds hm h2
    have hr:=kf v.2.2 [39] [39,39]
    have hr2:(Lib.replaceAll v.2.2 [39] [39,39]).length≤200:=by
     simp only [mY,xH] at hr
     omega
    refine gi ?_ (gi (dU ?_) (gi (dU ?_) rfl))
    ·unfold tt
     simp
     omega
    ·simp; omega
    ·simp; omega
   ·rfl

theorem vj (v:Sem zg):(gA v).length≤300:=by
 unfold gA
 split
 ·simp
 ·rename_i hm
  have hm:ce v=true:=by simpa using hm
  split
  ·have:=CS v.2.1
   omega
  ·split
   ·rename_i h2
    have hl:=Ds hm h2
    have hr:=kf v.2.2 [39] [39,39]
    simp only [mY,xH] at hr
    simp
    omega
   ·split
    ·split <;> simp
    ·simp

theorem Dv {s:zw} (h:dC s=true):s.length≤16:=by
 have h:oN s=true:=h
 unfold oN at h
 by_cases h2:(s.length:Int)≤16
 ·omega
 ·exfalso
  rw [ao h2] at h
  cases h1:decide ((s.length:Int) ≥ 1) <;> rw [h1] at h <;> simp at h

theorem Pf {g:ze→Int→Int→Bool×Int} {e:ze} {d n:Int} (h:(wm g e d n).1=true) (hc:e.op=[99,111,108]):e.s.length≤16:=by
 unfold wm at h
 split at h
 ·cases h
 ·split at h
  ·rename_i h1; rw [hc] at h1; simp at h1
  ·split at h
   ·cases h1:aU e.v
    ·rw [h1] at h; simp at h
    ·rw [h1] at h
     cases h2:dC e.s
     ·rw [h2] at h; simp at h
     ·exact Dv h2
   ·rename_i h1; rw [hc] at h1; simp at h1

theorem Fw (s:zw):(Lib.toUpperA s).length=s.length:=by simp [Lib.toUpperA]

theorem xY:∀ (N:Nat) (e:ze) (d n:Int),N≤16→(gB N e d n).1=true→fY N e=true∧(aL N e).length≤400 * 2 ^ N - 100
 | 0,_,_,_,_,h=>by cases h
 | N + 1,e,d,n,hN,h=>by
  rw [gB] at h
  obtain ⟨hl,h2⟩:=uH h
  have hp:2 ^ N≤2 ^ 15:=B3 (by omega) (by omega)
  have hp1:1≤2 ^ N:=Nat.one_le_two_pow
  have hpp:2 ^ (N+1)=2 * 2 ^ N:=by rw [xJ]; omega
  have hparts:∀ x∈e.l,fY N x=true∧(aL N x).length≤400 * 2 ^ N - 100:=by
   intro x hx
   rcases h2 with h2 | h2
   ·exfalso
    have:cE e.op=0:=by
     rcases h2 with h2 | h2 <;> rw [h2] <;> decide
    rw [this] at hl
    have:e.l=[]:=t7 (by omega)
    rw [this] at hx; simp at hx
   ·obtain ⟨m,hm⟩:=sF e.l _ h2 x hx
    exact xY N x _ _ (by omega) hm
  have hget:∀ i,i < e.l.length→e.l.getD i (zi Sh.expr)∈e.l:=by
   intro i hi
   rw [aP,zP hi]
   exact bP hi
  rw [fY,aL]
  unfold wy qU
  rcases kM e.op with ⟨hp0,hop | hop⟩ | ⟨hp0,hop | hop⟩ | ⟨hp0,hop⟩ | hp0
  ·rw [hop]
   simp only [beq_self_eq_true,if_true]
   refine ⟨gi (H0 _) rfl,?_⟩
   have:=vj e.v
   omega
  ·have hs:=Pf h hop
   rw [hop]
   refine ⟨rfl,?_⟩
   show e.s.length≤_
   omega
  ·rw [hp0] at hl
   have hlen:e.l.length=1:=by omega
   obtain ⟨k1,k2⟩:=hparts _ (hget 0 (by omega))
   rw [hop]
   refine ⟨gi ?_ (gi k1 (gi (dU ?_) (gi (dU ?_) rfl))),?_⟩
   ·simp [zR,hlen]
   ·simp at k2 ⊢; omega
   ·simp at k2 ⊢; omega
   ·show ([40,78,79,84,32]++aL N (e.l.getD 0 (zi Sh.expr))++[41]).length≤_
    simp at k2 ⊢; omega
  ·rw [hp0] at hl
   have hlen:e.l.length=1:=by omega
   obtain ⟨k1,k2⟩:=hparts _ (hget 0 (by omega))
   rw [hop]
   refine ⟨gi ?_ (gi k1 (gi (dU ?_) (gi (dU ?_) rfl))),?_⟩
   ·simp [zR,hlen]
   ·simp at k2 ⊢; omega
   ·simp at k2 ⊢; omega
   ·show ([40]++aL N (e.l.getD 0 (zi Sh.expr))++[32,73,83,32,78,85,76,76,41]).length≤_
    simp at k2 ⊢; omega
  ·rw [hp0] at hl
   have hlen:e.l.length=2:=by omega
   obtain ⟨k1,k2⟩:=hparts _ (hget 0 (by omega))
   obtain ⟨k3,k4⟩:=hparts _ (hget 1 (by omega))
   have hu:(decide (e.op.length≤140737488355328)&&e.op.all fun b=>decide (b.toNat < 128))=true:=by
    rcases hop with hop | hop | hop | hop | hop | hop <;> rw [hop] <;> decide
   have hol:e.op.length≤3:=by
    rcases hop with hop | hop | hop | hop | hop | hop <;> rw [hop] <;> simp
   have hul:=Fw e.op
   have n1:(e.op==[108,105,116])=false:=by rcases hop with hop | hop | hop | hop | hop | hop <;> rw [hop] <;> rfl
   have n2:(e.op==[99,111,108])=false:=by rcases hop with hop | hop | hop | hop | hop | hop <;> rw [hop] <;> rfl
   have n3:(e.op==[110,111,116])=false:=by rcases hop with hop | hop | hop | hop | hop | hop <;> rw [hop] <;> rfl
   have n4:(e.op==[110,117,108,108])=false:=by rcases hop with hop | hop | hop | hop | hop | hop <;> rw [hop] <;> rfl
   simp only [n1,n2,n3,n4,zV,if_false]
   refine ⟨gi ?_ (gi k1 (gi (dU ?_) (gi (dU ?_) (gi hu (gi (dU ?_) (gi (dU ?_) (gi ?_ (gi k3 (gi (dU ?_) (gi (dU ?_) rfl)))))))))),?_⟩
   ·simp [zR,hlen]
   all_goals first
    | (simp [zR,hlen]; done)
    | (simp at k2 k4 ⊢; omega)
  ·rw [hp0] at hl
   omega

theorem D9 (e:ze):oY e=true:=by
 unfold oY
 split
 ·rfl
 ·rename_i h
  exact gi (xY 16 e 1 0 (by omega) (by simpa [cM] using h)).1 rfl

theorem IC (e:ze):(mw e).1.length≤30000000:=by
 unfold mw
 split
 ·simp
 ·rename_i h
  have:=(xY 16 e 1 0 (by omega) (by simpa [cM] using h)).2
  show (aL 16 e).length≤_
  omega


theorem wC (p:Int→Bool):∀ s:zw,cy p s≤s.length
 | []=>by simp [cy]
 | c::r=>by
  have:=wC p r
  rw [cy]
  split <;> simp <;> omega
theorem pL (f m:Int→Bool) (s:zw):aI f m s≤s.length:=by
 cases s with
 | nil=>simp [aI]
 | cons c r=>
  have:=wC m r
  rw [aI]
  split <;> simp <;> omega

theorem QB (i:Nat) (h:i≤4000000000):IntKind.i64.wrap (i:Int)=(i:Int):=by
 have:=zt (i - 1) (by unfold zA; omega)
 cases i with
 | zero=>rfl
 | succ i=>simpa using this

theorem oO (i:Nat) (h:i≤4000000000):IntKind.i64.wrap ((i:Int)+1)=((i+1:Nat):Int):=zt i (by unfold zA; omega)

theorem mN:∀ (n:Nat) (s:zw) (i:Nat) (a:Int) (b:zw),1≤i→i≤s.length→s.length+2≤n+i→s.length≤1000000000→iA n s (i:Int) a b=true
 | 0,s,i,a,b,h1,h2,h3,h4=>by omega
 | n + 1,s,i,a,b,h1,h2,h3,h4=>by
  rw [iA]
  split
  ·rename_i hlt
   have hlt:i < s.length:=by have:=jh hlt; omega
   refine gi (zB hlt) ?_
   rw [oO i (by omega)]
   split
   ·exact mN n s (i+1) a b (by omega) (by omega) (by omega) h4
   ·refine gi ?_ ?_
    ·cases hd:decide (((i+1:Nat):Int) < (s.length:Int))
     ·rfl
     ·exact zB (by have:=jh hd; omega)
    ·split
     ·rename_i hh
      have h5:i+1 < s.length:=by
       cases hd:decide (((i+1:Nat):Int) < (s.length:Int))
       ·rw [hd] at hh; simp at hh
       ·have:=jh hd; omega
      rw [oO (i+1) (by omega)]
      exact mN n s (i+1+1) a b (by omega) (by omega) (by omega) h4
     ·refine gi ?_ (gi ?_ rfl)
      ·simp; omega
      ·unfold tt
       simp
       omega
  ·rfl

theorem rC:∀ (n:Nat) (s:zw) (i:Nat) (a:Int) (b:zw),1≤i→i≤s.length→s.length+2≤n+i→s.length≤1000000000→
  (ez n s (i:Int) a b=((0,[]),0))∨∃ k:Nat,(ez n s (i:Int) a b).2=(k:Int)∧1≤k∧k≤s.length
 | 0,s,i,a,b,h1,h2,h3,h4=>by omega
 | n + 1,s,i,a,b,h1,h2,h3,h4=>by
  rw [ez]
  split
  ·rename_i hlt
   have hlt:i < s.length:=by have:=jh hlt; omega
   rw [oO i (by omega)]
   split
   ·exact rC n s (i+1) a b (by omega) (by omega) (by omega) h4
   ·split
    ·rename_i hh
     have h5:i+1 < s.length:=by
      cases hd:decide (((i+1:Nat):Int) < (s.length:Int))
      ·rw [hd] at hh; simp at hh
      ·have:=jh hd; omega
     rw [oO (i+1) (by omega)]
     exact rC n s (i+1+1) a b (by omega) (by omega) (by omega) h4
    ·exact .inr ⟨i+1,rfl,by omega,by omega⟩
  ·exact .inl rfl

theorem Fx (t:Sem bM):pR t=true:=by
 unfold pR
 split
 ·rfl
 ·split
  ·refine gi ?_ rfl
   cases h:((t.2.length:Int)==1)
   ·rfl
   ·have:(t.2.length:Int)=1:=by simpa using h
    simp only [zU,bb]
    omega
  ·simp

theorem Bg (s:zw) (h0:s≠[]) (h1:s.length≤1000000000):jK s=true:=by
 have hl:1≤s.length:=by cases s with | nil=>exact absurd rfl h0 | cons _ _=>simp
 have r1:=pL aH bl s
 have r2:=pL zO zO s
 have hq:jt s=true:=mN (s.length+1) s 1 _ _ (by omega) hl (by omega) h1
 have hb:zR 0 s.length=true:=zB hl
 have d1:(decide ((0:Int)≤0)&&decide (0≤(↑(aI aH bl s):Int))&&decide ((↑(aI aH bl s):Int)≤(↑(length s):Int)))=true:=by simp; omega
 have d2:(decide ((0:Int)≤0)&&decide (0≤(↑(aI zO zO s):Int))&&decide ((↑(aI zO zO s):Int)≤(↑(length s):Int)))=true:=by simp; omega
 have d3:(decide ((0:Int)≤0)&&decide ((0:Int)≤1)&&decide (1≤(↑(length s):Int)))=true:=by simp; omega
 unfold jK
 simp only [hq,hb,if_true,zV,if_false]
 repeat' split
 all_goals first
  | rfl
  | (rename_i h; exfalso; apply h; simp; omega)

theorem tQ (s:zw) (h0:s≠[]) (h1:s.length≤1000000000) (hm:bR (bq s).1=true):∃ k:Nat,(bq s).2=(k:Int)∧1≤k∧k≤s.length:=by
 have hl:1≤s.length:=by cases s with | nil=>exact absurd rfl h0 | cons _ _=>simp
 have r1:=pL aH bl s
 have r2:=pL zO zO s
 have hq:=rC (s.length+1) s 1 0 [] (by omega) hl (by omega) h1
 unfold bq at hm ⊢
 simp only [if_true,zV,if_false] at hm ⊢
 split
 ·rename_i h
  have:=jh h
  exact ⟨_,rfl,by omega,by omega⟩
 ·rename_i h
  rw [if_neg h] at hm
  split
  ·rename_i h2
   have:=jh h2
   exact ⟨_,rfl,by omega,by omega⟩
  ·rename_i h2
   rw [if_neg h2] at hm
   split
   ·rename_i h3
    rw [if_pos h3] at hm
    rcases hq with hq | ⟨k,hk,hk1,hk2⟩
    ·exfalso
     have hqq:dG s=((0,[]),0):=hq
     rw [hqq] at hm
     revert hm
     decide
    ·exact ⟨k,hk,hk1,hk2⟩
   ·exact ⟨1,rfl,by omega,by omega⟩

theorem ud:∀ (n:Nat) (s:zw) (i:Nat) (l:List (Sem zq)),i≤s.length→s.length+1≤n+i→s.length≤1000000000→l.length≤400→qR n s (i:Int) l=true
 | 0,s,i,l,h1,h2,h3,h4=>by omega
 | n + 1,s,i,l,h1,h2,h3,h4=>by
  rw [qR]
  split
  ·rename_i hlt
   have hlt:i < s.length:=by have:=jh hlt; omega
   have e1:List.take ((s.length:Int).toNat - (i:Int).toNat) (List.drop (i:Int).toNat s)=s.drop i:=by
    simp only [bd]
    exact JX (by simp)
   rw [e1]
   refine gi ?_ ?_
   ·rw [zB hlt]
    cases (((s.getD (i:Int).toNat 0).toNat:Int)==32) <;> rfl
   ·split
    ·rw [oO i (by omega)]
     exact ud n s (i+1) l (by omega) (by omega) h3 h4
    ·have hne:s.drop i≠[]:=by
      intro h
      have:=congrArg length h
      simp at this
      omega
     have hdl:(s.drop i).length≤1000000000:=by simp; omega
     refine gi ?_ (gi (Bg _ hne hdl) (gi (Fx _) ?_))
     ·simp; omega
     ·split
      ·rfl
      ·rename_i hh
       have hm:bR (bq (s.drop i)).1=true:=by
        cases hq:bR (bq (s.drop i)).1
        ·rw [hq] at hh; simp at hh
        ·rfl
       have hl4:l.length≠400:=by
        intro h5
        rw [hm,h5] at hh
        simp at hh
       obtain ⟨k,hk,hk1,hk2⟩:=tQ _ hne hdl hm
       have hk3:k≤s.length - i:=by simpa using hk2
       refine gi (dU ?_) ?_
       ·simp; omega
       ·rw [hk,show ((i:Int)+(k:Int))=((i+k:Nat):Int) by omega,QB (i+k) (by omega)]
        exact ud n s (i+k) _ (by omega) (by omega) h3 (by simp; omega)
  ·rfl

theorem NB (s:zw) (h:s.length≤1000000000):NA s=true:=ud (s.length+1) s 0 [] (by omega) (by omega) h (by simp)

structure qJ (s:Sem zk):Prop where
 op:s.1.length≤1000
 table:s.2.1.length≤1000
 other:s.2.2.1.length≤1000
 names:s.2.2.2.1.length≤20∧∀ x∈s.2.2.2.1,length x≤1000
 cols:s.2.2.2.2.1.length≤20∧∀ x∈s.2.2.2.2.1,length x.1≤1000
 key:s.2.2.2.2.2.1.length≤1000
 uniques:s.2.2.2.2.2.2.1.length≤20∧∀ x∈s.2.2.2.2.2.2.1,length x≤1000
 refs:s.2.2.2.2.2.2.2.1.length≤20∧∀ x∈s.2.2.2.2.2.2.2.1,length x.1≤1000∧length x.2≤1000
 row:s.2.2.2.2.2.2.2.2.2.1.length≤20
 sets:s.2.2.2.2.2.2.2.2.2.2.1.length≤20∧∀ x∈s.2.2.2.2.2.2.2.2.2.2.1,length x.1≤1000
 role:s.2.2.2.2.2.2.2.2.2.2.2.2.length≤1000

theorem sC (sep:zw) (B:Nat):∀ l:List zw,(∀ x∈l,x.length≤B)→(Lib.join l sep).length≤l.length * (B+sep.length)
 | [],_=>by simp [Lib.join,List.intercalate]
 | [x],h=>by
  rw [Lib.join_one]
  have:=h x (by simp)
  simp
  omega
 | x::y::r,h=>by
  have ih:=sC sep B (y::r) (fun z hz=>h z (B2 _ hz))
  have hx:=h x (by simp)
  have e:Lib.join (x::y::r) sep=x++sep++Lib.join (y::r) sep:=by simp [Lib.join,List.intercalate,List.intersperse]
  rw [e]
  simp only [iM,mY] at ih ⊢
  rw [gF]
  omega

theorem nT {α:Type} (p:α→Bool):∀ (l:List α) (i:Nat),(!decide (aj p l i ≥ 0))=true→∀ x∈l,p x=false
 | [],_,_,x,hx=>by simp at hx
 | y::r,i,h,x,hx=>by
  rw [aj] at h
  cases hy:p y
  ·rw [hy] at h
   rcases dQ.1 hx with rfl | hx
   ·exact hy
   ·exact nT p r (i+1) (by simpa using h) x hx
  ·exfalso
   rw [hy] at h
   simp at h
   try omega

theorem BO (e:ze):oQ e=true:=gi (D9 e) rfl
theorem wi (e:ze):(g8 e).length≤30000000:=IC e
theorem mq (s:zw) (h:s.length≤10) (e:ze):rW s e=true:=by
 unfold rW
 have:=wi e
 split
 ·rfl
 ·refine gi (dU ?_) (gi (BO e) (gi (dU ?_) (gi (dU ?_) rfl)))
  all_goals (simp; omega)
theorem qP (s:zw) (h:s.length≤10) (e:ze):(jQ s e).length≤30000030:=by
 unfold jQ
 have:=wi e
 split
 ·simp
 ·simp; omega
theorem oB:∀ (l:List (Sem Sh.str)) (i:Int) (acc:List zw),dg l i acc=Lib.join (acc++l.map kQ) [32,44,32]
 | [],i,acc=>by simp [dg]
 | x::r,i,acc=>by rw [dg,oB r]; simp
theorem Fe (B:Nat) (l:List (Sem Sh.str)) (h:∀ x∈l,(kQ x).length≤B):(fV l).length≤l.length * (B+3):=by
 unfold fV
 rw [oB]
 have:=sC [32,44,32] B ([]++l.map kQ) (fun y hy=>by
  simp only [List.nil_append,fQ] at hy
  obtain ⟨x,hx,rfl⟩:=hy
  exact h x hx)
 simpa using this
theorem tI (B:Nat) (hB:B≤100000000):∀ (l:List (Sem Sh.str)) (i:Int) (acc:List zw),(∀ x∈l,(kQ x).length≤B)→(∀ x∈acc,x.length≤B)→acc.length+l.length≤40→dA l i acc=true
 | [],i,acc,_,ha,hl=>by
  rw [dA]
  refine gi ?_ rfl
  have h1:=sC [32,44,32] B acc ha
  have h2:acc.length * (B+3)≤40 * 100000003:=Ca (by simpa using hl) (by omega)
  replace h1:(Lib.join acc [32,44,32]).length≤acc.length * (B+3):=h1
  simp only [aV,aN]
  simp at hl
  exact ⟨by omega,by omega⟩
 | x::r,i,acc,h,ha,hl=>by
  rw [dA]
  have hx:=h x (by simp)
  simp at hl
  refine gi (dU ?_) ?_
  ·simp; omega
  ·refine tI B hB r (i+1) _ (fun y hy=>h y (B2 _ hy)) (fun y hy=>?_) (by simp; omega)
   rcases bK.1 hy with hy | hy
   ·exact ha y hy
   ·simp at hy; subst hy; exact hx

theorem iC {s:Sem zk} {g b:Bool} (hv:(sq s).val=if g=true then some (.inr (.bool b,[])) else none):tB s=g∧gq s=(g&&b):=by
 unfold tB gq xg aA cL
 rw [hv]
 cases g <;> cases b <;> exact ⟨rfl,rfl⟩
theorem SG {x:zw} (o:x=[99,111,112,121]):(x==[99,114,101,97,116,101])=false∧(x==[100,114,111,112])=false∧(x==[105,110,115,101,114,116])=false∧(x==[117,112,100,97,116,101])=false∧(x==[100,101,108,101,116,101])=false∧(x==[115,101,108,101,99,116])=false∧(x==[114,101,97,100])=false∧(x==[119,114,105,116,101])=false∧(x==[117,110,114,101,97,100])=false∧(x==[117,110,119,114,105,116,101])=false∧(x==[99,111,112,121])=true:=by rw [o]; exact ⟨rfl,rfl,rfl,rfl,rfl,rfl,rfl,rfl,rfl,rfl,rfl⟩
theorem SH {x:zw} (o:x=[106,111,105,110]):(x==[99,114,101,97,116,101])=false∧(x==[100,114,111,112])=false∧(x==[105,110,115,101,114,116])=false∧(x==[117,112,100,97,116,101])=false∧(x==[100,101,108,101,116,101])=false∧(x==[115,101,108,101,99,116])=false∧(x==[114,101,97,100])=false∧(x==[119,114,105,116,101])=false∧(x==[117,110,114,101,97,100])=false∧(x==[117,110,119,114,105,116,101])=false∧(x==[99,111,112,121])=false∧(x==[106,111,105,110])=true:=by rw [o]; exact ⟨rfl,rfl,rfl,rfl,rfl,rfl,rfl,rfl,rfl,rfl,rfl,rfl⟩
theorem PI {x:zw} (o:x=[103,114,111,117,112]):(x==[99,114,101,97,116,101])=false∧(x==[100,114,111,112])=false∧(x==[105,110,115,101,114,116])=false∧(x==[117,112,100,97,116,101])=false∧(x==[100,101,108,101,116,101])=false∧(x==[115,101,108,101,99,116])=false∧(x==[114,101,97,100])=false∧(x==[119,114,105,116,101])=false∧(x==[117,110,114,101,97,100])=false∧(x==[117,110,119,114,105,116,101])=false∧(x==[99,111,112,121])=false∧(x==[106,111,105,110])=false∧(x==[103,114,111,117,112])=true:=by rw [o]; exact ⟨rfl,rfl,rfl,rfl,rfl,rfl,rfl,rfl,rfl,rfl,rfl,rfl,rfl⟩
abbrev kK (op:zw):Prop:=op=[99,111,112,121]∨op=[106,111,105,110]∨op=[103,114,111,117,112]

theorem fy {x:Sem zk} (h1:x.2.1.length≤1000) (h2:x.2.2.1.length≤1000) (h3:x.2.2.2.2.2.1.length≤1000) (h4:x.2.2.2.2.2.2.2.2.2.2.2.2.length≤1000):dM x=true:=by
 unfold dM
 refine gi (dU ?_) (gi (dU ?_) (gi (dU ?_) rfl))
 all_goals first | omega | (simp; omega)
theorem xQ {c g:Bool} (h:g=true):(bif c then g else true)=true:=by cases c <;> simp [h]

def tC (s:Sem zk):zw:=[77,73,71,82,65,84,69,32]++[67,79,80,89]++[32]++s.2.1++[32,70,82,79,77,32]++s.2.2.1++[32,40,32]++fV s.2.2.2.1++[32,41]++jQ [32] s.2.2.2.2.2.2.2.2.1
def tJ (s:Sem zk):zw:=[77,73,71,82,65,84,69,32]++[74,79,73,78]++[32]++s.2.1++[32,70,82,79,77,32]++s.2.2.1++[32,44,32]++s.2.2.2.2.2.2.2.2.2.2.2.2++[32,79,78,32]++s.2.2.2.2.2.1++jQ [32] s.2.2.2.2.2.2.2.2.1
def tG (s:Sem zk):zw:=[77,73,71,82,65,84,69,32]++[71,82,79,85,80]++[32]++s.2.1++[32,70,82,79,77,32]++s.2.2.1++[32,66,89,32]++s.2.2.2.1.getD 0 []++[32,83,85,77,32]++s.2.2.2.1.getD 1 []++jQ [32] s.2.2.2.2.2.2.2.2.1
theorem Vc {s:Sem zk} (h:qJ s) (o:s.1=[99,111,112,121]):(vK s).val=some (.inr (.str (tC s),[]))∧(tC s).length≤1000000000:=by
 obtain ⟨p0,p1,p2,p3,p4,p5,p6,p7,p8,p9,p10⟩:=SG o
 have hU:Lib.toUpperA s.1=[67,79,80,89]:=by rw [o]; rfl
 have ha:(decide (length s.1≤140737488355328)&&List.all s.1 fun b=>decide (b.toNat < 128))=true:=by rw [o]; decide
 have ht:=h.table
 have ho:=h.other
 have hr:=h.role
 have hk:=h.key
 have hcC:=mq [32] (by simp) s.2.2.2.2.2.2.2.2.1
 have hcl:=qP [32] (by simp) s.2.2.2.2.2.2.2.2.1
 have hsC:lY s.2.2.2.1=true:=tI 1000 (by omega) s.2.2.2.1 0 [] h.names.2 (by simp) (by have:=h.names.1; simp; omega)
 have hsl:=Fe 1000 s.2.2.2.1 h.names.2
 have hsl:(fV s.2.2.2.1).length≤20 * 1003:=eX hsl (Ca h.names.1 (by omega))
 refine ⟨?_,by unfold tC; simp only [iM,mY,xH]; omega⟩
 unfold tC
 simp only [vK,Tr.val,zn,ha,hU,p0,p1,p2,p3,p4,p5,p6,p7,p8,p9,p10,hsC,hcC,if_true,zV,if_false]
 iterate 9 rw [if_pos (zu (by simp <;> omega))]

theorem Ve {s:Sem zk} (h:qJ s) (o:s.1=[106,111,105,110]):(vK s).val=some (.inr (.str (tJ s),[]))∧(tJ s).length≤1000000000:=by
 obtain ⟨p0,p1,p2,p3,p4,p5,p6,p7,p8,p9,p10,p11⟩:=SH o
 have hU:Lib.toUpperA s.1=[74,79,73,78]:=by rw [o]; rfl
 have ha:(decide (length s.1≤140737488355328)&&List.all s.1 fun b=>decide (b.toNat < 128))=true:=by rw [o]; decide
 have ht:=h.table
 have ho:=h.other
 have hr:=h.role
 have hk:=h.key
 have hcC:=mq [32] (by simp) s.2.2.2.2.2.2.2.2.1
 have hcl:=qP [32] (by simp) s.2.2.2.2.2.2.2.2.1
 refine ⟨?_,by unfold tJ; simp only [iM,mY,xH]; omega⟩
 unfold tJ
 simp only [vK,Tr.val,zn,ha,hU,p0,p1,p2,p3,p4,p5,p6,p7,p8,p9,p10,p11,hcC,if_true,zV,if_false]
 iterate 10 rw [if_pos (zu (by simp <;> omega))]

theorem Vd {s:Sem zk} (h:qJ s) (o:s.1=[103,114,111,117,112]) (hl:s.2.2.2.1.length=2):(vK s).val=some (.inr (.str (tG s),[]))∧(tG s).length≤1000000000:=by
 obtain ⟨p0,p1,p2,p3,p4,p5,p6,p7,p8,p9,p10,p11,_⟩:=PI o
 have hU:Lib.toUpperA s.1=[71,82,79,85,80]:=by rw [o]; rfl
 have ha:(decide (length s.1≤140737488355328)&&List.all s.1 fun b=>decide (b.toNat < 128))=true:=by rw [o]; decide
 have ht:=h.table
 have ho:=h.other
 have hr:=h.role
 have hk:=h.key
 have hcC:=mq [32] (by simp) s.2.2.2.2.2.2.2.2.1
 have hcl:=qP [32] (by simp) s.2.2.2.2.2.2.2.2.1
 have n0:(s.2.2.2.1.getD 0 []).length≤1000:=by
  rw [aP,zP (by omega),cX]
  exact h.names.2 _ (bP _)
 have n1:(s.2.2.2.1.getD 1 []).length≤1000:=by
  rw [aP,zP (by omega),cX]
  exact h.names.2 _ (bP _)
 have i0:zR 0 (length s.2.2.2.1)=true:=by rw [hl]; rfl
 have i1:zR 1 (length s.2.2.2.1)=true:=by rw [hl]; rfl
 have g0:getD s.2.2.2.1 (toNat 0) (zi Sh.str)=s.2.2.2.1.getD 0 []:=rfl
 have g1:getD s.2.2.2.1 (toNat 1) (zi Sh.str)=s.2.2.2.1.getD 1 []:=rfl
 refine ⟨?_,by unfold tG; simp only [iM,mY,xH]; omega⟩
 unfold tG
 simp only [vK,Tr.val,zn,ha,hU,p0,p1,p2,p3,p4,p5,p6,p7,p8,p9,p10,p11,g0,g1,i0,i1,hcC,if_true,zV,if_false]
 generalize s.2.2.2.1.getD 0 []=a0 at n0
 generalize s.2.2.2.1.getD 1 []=a1 at n1
 iterate 10 rw [if_pos (zu (by simp <;> omega))]

theorem gV {s:Sem zk} {t:zw} (h:(vK s).val=some (.inr (.str t,[]))∧t.length≤1000000000):AU s=true∧gU s=t:=by
 unfold AU gU E7 aA cL
 rw [h.1]
 exact ⟨rfl,rfl⟩
theorem E6 {s:Sem zk} (hs:qJ s) (hm:kK s.1):tB s=true:=by
 have t2:=hs.other
 have t3:=hs.key
 have t4:=hs.role
 rcases hm with o | o | o
 ·obtain ⟨p0,p1,p2,p3,p4,p5,p6,p7,p8,p9,p10⟩:=SG o
  obtain ⟨hc,_⟩:=iC (s:=s) (g:=_) (b:=_) (by simp only [sq,Tr.val,p0,p1,p2,p3,p4,p5,p6,p7,p8,p9,p10,if_true,if_false,zV,zn]; exact rfl)
  rw [hc]
  exact xQ (fy (by simp) (by first | exact t2 | simp) (by first | exact t3 | simp) (by first | exact t4 | simp))
 ·obtain ⟨p0,p1,p2,p3,p4,p5,p6,p7,p8,p9,p10,p11⟩:=SH o
  obtain ⟨hc,_⟩:=iC (s:=s) (g:=_) (b:=_) (by simp only [sq,Tr.val,p0,p1,p2,p3,p4,p5,p6,p7,p8,p9,p10,p11,if_true,if_false,zV,zn]; exact rfl)
  rw [hc]
  exact xQ (fy (by simp) (by first | exact t2 | simp) (by first | exact t3 | simp) (by first | exact t4 | simp))
 ·obtain ⟨p0,p1,p2,p3,p4,p5,p6,p7,p8,p9,p10,p11,p12⟩:=PI o
  obtain ⟨hc,_⟩:=iC (s:=s) (g:=_) (b:=_) (by simp only [sq,Tr.val,p0,p1,p2,p3,p4,p5,p6,p7,p8,p9,p10,p11,p12,if_true,if_false,zV,zn]; exact rfl)
  rw [hc]
  exact xQ (fy (by simp) (by first | exact t2 | simp) (by first | exact t3 | simp) (by first | exact t4 | simp))
theorem vJ {s:Sem zk} (h:gq s=true) (o:s.1=[103,114,111,117,112]):s.2.2.2.1.length=2:=by
 obtain ⟨p0,p1,p2,p3,p4,p5,p6,p7,p8,p9,p10,p11,p12⟩:=PI o
 obtain ⟨_,hp⟩:=iC (s:=s) (g:=_) (b:=_) (by simp only [sq,Tr.val,p0,p1,p2,p3,p4,p5,p6,p7,p8,p9,p10,p11,p12,if_true,if_false,zV,zn]; exact rfl)
 rw [hp] at h
 by_cases hl:s.2.2.2.1.length=2
 ·exact hl
 ·exfalso
  have hd:(bif decide ((s.2.2.2.1.length:Int) < 2) then true else decide ((s.2.2.2.1.length:Int) > 2))=true:=by
   rcases Nat.lt_or_gt_of_ne hl with h2 | h2
   ·have:decide ((s.2.2.2.1.length:Int) < 2)=true:=zu (by omega)
    rw [this]; rfl
   ·have:decide ((s.2.2.2.1.length:Int) > 2)=true:=zu (by omega)
    rw [this]; cases decide ((s.2.2.2.1.length:Int) < 2) <;> rfl
  rw [hd] at h
  cases h1:cd s.2.1 <;> cases h2:cd s.2.2.1 <;> rw [h1,h2] at h <;> simp at h
theorem HU {s:Sem zk} (hs:qJ s) (hm:kK s.1):mS s=true:=by
 unfold mS
 refine gi ?_ rfl
 unfold tH
 refine gi (E6 hs hm) ?_
 split
 ·rfl
 ·rename_i h
  have hp:gq s=true:=by simpa using h
  have:AU s=true∧(gU s).length≤1000000000:=by
   rcases hm with o | o | o
   ·have:=Vc hs o; exact ⟨(gV this).1,(gV this).2▸this.2⟩
   ·have:=Ve hs o; exact ⟨(gV this).1,(gV this).2▸this.2⟩
   ·have:=Vd hs o (vJ hp o); exact ⟨(gV this).1,(gV this).2▸this.2⟩
  exact gi this.1 (gi (NB _ this.2) rfl)
end Cad
