/- The document's reader: MIGRATE. The document's parser. Statements of texts. Rows: the sorter. Rows: the sorter compares. Rows: insertion sort. Rows: insertion sort: its contract. Rows: ranges change places. Rows: blocks change places. Rows: merged. Rows: stable sort. Rows: slices.SortStableFunc. Copies of tables with rows. Copies of tables with rows: what they answer. Rows: sorted. Bases: a table as it would be. Bases: insert. schema.copied is its argument, of what is not too deep (its other name). A call that only reads a variable to which a pointer leads: the variable is lent. The table of a statement: places. The table of a statement. Bases: create. Bases: a statement is done. The chapter's examples. The law BaseSelects. -/
import Derived.Test.YtiefilkilbdpgaaGreatDoorK15
import Derived.Test.YtiefilkilbdpgaaGreatDoorK13
import Derived.Test.YtiefilkilbdpgaaGreatDoorK11
import Derived.Test.YtiefilkilbdpgaaGreatDoorK14
namespace Cad
open Go Go.Proofs
open List (getD)
open List (length)
noncomputable section
set_option maxHeartbeats 4000000
abbrev jj:List CP:=[.d .str,.d .str,.d .str,.vec .str,.nil,.d .str,.nil,.nil,.d .expr,.nil,.nil,.d .str,.d zg,.d zg,.d .str,.d .str,.nil,.d .str]
abbrev Mq:List CP:=[.d .str,.d .str,.d .str,.vec .str,.nil,.d .str,.nil,.nil,.d .str,.d zg,.d zg,.d .str,.d .str,.nil,.nil,.nil,.d .str,.d zg,.d zg,.d .str,.d .str,.nil,.d .str]

abbrev C6:Nat→zT:=fun j=>if j=14 then { slots:=[0,1,4],prom:=[(1,some 3,.str)] } else if j=1000000 then { prom:=[(1,some 3,.str)] } else { }
inductive mD where
 | h14 (z0:zr zH) (z1:zr Mq)
 | h14b (b4:Sem Sh.bool) (z0:zr zH) (z1:zr Mq)
abbrev AM:mD→Nat×St
 | .h14 z0 z1=>(14,⟨tm 117 [(0,AV.ptr 0 0),(1,AV.ptr 1 0),(4,AV.kb true)],[AO.box (bu [] zH z0),AO.box (bu [2] Mq z1),AO.vec Sh.str z1.2.2.2.1]⟩)
 | .h14b b4 z0 z1=>(14,⟨tm 117 [(0,AV.ptr 0 0),(1,AV.ptr 1 0),(4,AV.bool b4)],[AO.box (bu [] zH z0),AO.box (bu [2] Mq z1),AO.vec Sh.str z1.2.2.2.1]⟩)
theorem Tb:zz A5.P 115 Tryz.f115 2:=aG (by kernel_rfl)
def IC (y:zr zH) (z:zr dN):Tr (mD ⊕ ag):=
 let a0:=(y.1,y.2.1,y.2.2.1,())
 let a1:=aW a0 [67,79,80,89]
 let a2:=(a1.2.1,a1.2.2.1,a1.2.2.2.1,())
 let a3:=aD a2
 let a4:=(a3.2.1,a3.2.2.1,a3.2.2.2.1,())
 let a5:=zS a4 [70,82,79,77]
 let a6:=(a5.1,a5.2.1,a5.2.2.1,())
 let a7:=aD a6
 let a8:=(a7.2.1,a7.2.2.1,a7.2.2.2.1,())
 let a9:=([],z.2.2.2)
 let a10:=zS a8 [44]
 let a11:=(a10.1,a10.2.1,a10.2.2.1,())
 let a12:=aD a11
 let a13:=(a12.2.1,a12.2.2.1,a12.2.2.2.1,())
 let a14:=zS a13 [79,78]
 let a15:=(a14.1,a14.2.1,a14.2.2.1,())
 let a16:=aD a15
 let a17:=(a16.2.1,a16.2.2.1,a16.2.2.2.1,())
 let a18:=cK a17 [67,72,69,67,75]
 let a19:=zS a8 [66,89]
 let a20:=(a19.1,a19.2.1,a19.2.2.1,())
 let a21:=aD a20
 let a22:=[a21.1]
 let a23:=(a21.2.1,a21.2.2.1,a21.2.2.2.1,())
 let a24:=zS a23 [83,85,77]
 let a25:=(a24.1,a24.2.1,a24.2.2.1,())
 let a26:=aD a25
 let a27:=[a26.1]
 let a28:=(a26.2.1,a26.2.2.1,a26.2.2.2.1,())
 let a29:=cK a28 [67,72,69,67,75]
 let a30:=cK a8 [67,72,69,67,75]
 let a31:=aW a2 [74,79,73,78]
 let a32:=(a31.2.1,a31.2.2.1,a31.2.2.2.1,())
 let a33:=aD a32
 let a34:=(a33.2.1,a33.2.2.1,a33.2.2.2.1,())
 let a35:=zS a34 [70,82,79,77]
 let a36:=(a35.1,a35.2.1,a35.2.2.1,())
 let a37:=aD a36
 let a38:=(a37.2.1,a37.2.2.1,a37.2.2.2.1,())
 let a39:=zS a38 [44]
 let a40:=(a39.1,a39.2.1,a39.2.2.1,())
 let a41:=aD a40
 let a42:=(a41.2.1,a41.2.2.1,a41.2.2.2.1,())
 let a43:=zS a42 [79,78]
 let a44:=(a43.1,a43.2.1,a43.2.2.1,())
 let a45:=aD a44
 let a46:=(a45.2.1,a45.2.2.1,a45.2.2.2.1,())
 let a47:=cK a46 [67,72,69,67,75]
 let a48:=zS a38 [66,89]
 let a49:=(a48.1,a48.2.1,a48.2.2.1,())
 let a50:=aD a49
 let a51:=[a50.1]
 let a52:=(a50.2.1,a50.2.2.1,a50.2.2.2.1,())
 let a53:=zS a52 [83,85,77]
 let a54:=(a53.1,a53.2.1,a53.2.2.1,())
 let a55:=aD a54
 let a56:=[a55.1]
 let a57:=(a55.2.1,a55.2.2.1,a55.2.2.2.1,())
 let a58:=cK a57 [67,72,69,67,75]
 let a59:=cK a38 [67,72,69,67,75]
 let a60:=aW a32 [71,82,79,85,80]
 let a61:=(a60.2.1,a60.2.2.1,a60.2.2.2.1,())
 let a62:=aD a61
 let a63:=(a62.2.1,a62.2.2.1,a62.2.2.2.1,())
 let a64:=zS a63 [70,82,79,77]
 let a65:=(a64.1,a64.2.1,a64.2.2.1,())
 let a66:=aD a65
 let a67:=(a66.2.1,a66.2.2.1,a66.2.2.2.1,())
 let a68:=zS a67 [44]
 let a69:=(a68.1,a68.2.1,a68.2.2.1,())
 let a70:=aD a69
 let a71:=(a70.2.1,a70.2.2.1,a70.2.2.2.1,())
 let a72:=zS a71 [79,78]
 let a73:=(a72.1,a72.2.1,a72.2.2.1,())
 let a74:=aD a73
 let a75:=(a74.2.1,a74.2.2.1,a74.2.2.2.1,())
 let a76:=cK a75 [67,72,69,67,75]
 let a77:=zS a67 [66,89]
 let a78:=(a77.1,a77.2.1,a77.2.2.1,())
 let a79:=aD a78
 let a80:=[a79.1]
 let a81:=(a79.2.1,a79.2.2.1,a79.2.2.2.1,())
 let a82:=zS a81 [83,85,77]
 let a83:=(a82.1,a82.2.1,a82.2.2.1,())
 let a84:=aD a83
 let a85:=[a84.1]
 let a86:=(a84.2.1,a84.2.2.1,a84.2.2.2.1,())
 let a87:=cK a86 [67,72,69,67,75]
 let a88:=cK a67 [67,72,69,67,75]
 let a89:=(a60.2.1,a60.2.2.1,false,())
 let a90:=aD a89
 let a91:=(a90.2.1,a90.2.2.1,a90.2.2.2.1,())
 let a92:=zS a91 [70,82,79,77]
 let a93:=(a92.1,a92.2.1,a92.2.2.1,())
 let a94:=aD a93
 let a95:=(a94.2.1,a94.2.2.1,a94.2.2.2.1,())
 let a96:=zS a95 [44]
 let a97:=(a96.1,a96.2.1,a96.2.2.1,())
 let a98:=aD a97
 let a99:=(a98.2.1,a98.2.2.1,a98.2.2.2.1,())
 let a100:=zS a99 [79,78]
 let a101:=(a100.1,a100.2.1,a100.2.2.1,())
 let a102:=aD a101
 let a103:=(a102.2.1,a102.2.2.1,a102.2.2.2.1,())
 let a104:=cK a103 [67,72,69,67,75]
 let a105:=zS a95 [66,89]
 let a106:=(a105.1,a105.2.1,a105.2.2.1,())
 let a107:=aD a106
 let a108:=[a107.1]
 let a109:=(a107.2.1,a107.2.2.1,a107.2.2.2.1,())
 let a110:=zS a109 [83,85,77]
 let a111:=(a110.1,a110.2.1,a110.2.2.1,())
 let a112:=aD a111
 let a113:=[a112.1]
 let a114:=(a112.2.1,a112.2.2.1,a112.2.2.2.1,())
 let a115:=cK a114 [67,72,69,67,75]
 let a116:=cK a95 [67,72,69,67,75]
 Tr.chk (aF a0 [67,79,80,89])
 (Tr.br a1.1
  (Tr.chk (zW a2) (Tr.chk (zK a4 [70,82,79,77]) (Tr.chk (zW a6) (Tr.br true (Tr.chk (zK a8 [40]) (Tr.to (mD.h14 (zS a8 [40]) ([99,111,112,121],a3.1,a7.1,a9)))) (Tr.br false (Tr.chk (zK a8 [44]) (Tr.chk (zW a11) (Tr.chk (zK a13 [79,78]) (Tr.chk (zW a15) (Tr.chk (bX a17 [67,72,69,67,75]) (Tr.re (AV.tup []) (aK zH jj a18.2
  ([99,111,112,121],a3.1,a7.1,[],a16.1,a18.1,z.2.2.2.2.2.2.2.2.2.1,z.2.2.2.2.2.2.2.2.2.2.1,z.2.2.2.2.2.2.2.2.2.2.2.1,z.2.2.2.2.2.2.2.2.2.2.2.2.1,z.2.2.2.2.2.2.2.2.2.2.2.2.2.1,a12.1,())))))))) (Tr.br false (Tr.chk (zK a8 [66,89]) (Tr.chk (zW a20) (Tr.chk (decide (a22.length≤1073741824)) (Tr.chk (zK a23 [83,85,77]) (Tr.chk (zW a25)
  (Tr.chk (decide (a22.length+a27.length≤1073741824)) (Tr.chk (bX a28 [67,72,69,67,75]) (Tr.re (AV.tup []) (aK zH jj a29.2 ([99,111,112,121],a3.1,a7.1,a22++a27,z.2.2.2.1,a29.1,z.2.2.2.2.2.2.2.2.2)))))))))) (Tr.chk (bX a8 [67,72,69,67,75]) (Tr.re (AV.tup []) (aK zH jj a30.2
  ([99,111,112,121],a3.1,a7.1,[],z.2.2.2.1,a30.1,z.2.2.2.2.2.2.2.2.2))))))))))
  (Tr.chk (aF a2 [74,79,73,78]) (Tr.br a31.1 (Tr.chk (zW a32) (Tr.chk (zK a34 [70,82,79,77]) (Tr.chk (zW a36) (Tr.br false (Tr.chk (zK a38 [40]) (Tr.to (mD.h14 (zS a38 [40]) ([106,111,105,110],a33.1,a37.1,a9)))) (Tr.br true (Tr.chk (zK a38 [44]) (Tr.chk (zW a40) (Tr.chk (zK a42 [79,78]) (Tr.chk (zW a44)
  (Tr.chk (bX a46 [67,72,69,67,75]) (Tr.re (AV.tup []) (aK zH jj a47.2 ([106,111,105,110],a33.1,a37.1,[],a45.1,a47.1,z.2.2.2.2.2.2.2.2.2.1,z.2.2.2.2.2.2.2.2.2.2.1,z.2.2.2.2.2.2.2.2.2.2.2.1,z.2.2.2.2.2.2.2.2.2.2.2.2.1,z.2.2.2.2.2.2.2.2.2.2.2.2.2.1,a41.1,())))))))) (Tr.br false (Tr.chk (zK a38 [66,89]) (Tr.chk (zW a49)
  (Tr.chk (decide (a51.length≤1073741824)) (Tr.chk (zK a52 [83,85,77]) (Tr.chk (zW a54) (Tr.chk (decide (a51.length+a56.length≤1073741824)) (Tr.chk (bX a57 [67,72,69,67,75]) (Tr.re (AV.tup []) (aK zH jj a58.2 ([106,111,105,110],a33.1,a37.1,a51++a56,z.2.2.2.1,a58.1,z.2.2.2.2.2.2.2.2.2)))))))))) (Tr.chk (bX a38 [67,72,69,67,75])
  (Tr.re (AV.tup []) (aK zH jj a59.2 ([106,111,105,110],a33.1,a37.1,[],z.2.2.2.1,a59.1,z.2.2.2.2.2.2.2.2.2)))))))))) (Tr.chk (aF a32 [71,82,79,85,80]) (Tr.br a60.1 (Tr.chk (zW a61) (Tr.chk (zK a63 [70,82,79,77]) (Tr.chk (zW a65) (Tr.br false (Tr.chk (zK a67 [40]) (Tr.to (mD.h14 (zS a67 [40]) ([103,114,111,117,112],a62.1,a66.1,a9))))
  (Tr.br false (Tr.chk (zK a67 [44]) (Tr.chk (zW a69) (Tr.chk (zK a71 [79,78]) (Tr.chk (zW a73) (Tr.chk (bX a75 [67,72,69,67,75]) (Tr.re (AV.tup []) (aK zH jj a76.2 ([103,114,111,117,112],a62.1,a66.1,[],a74.1,a76.1,z.2.2.2.2.2.2.2.2.2.1,z.2.2.2.2.2.2.2.2.2.2.1,z.2.2.2.2.2.2.2.2.2.2.2.1,
  z.2.2.2.2.2.2.2.2.2.2.2.2.1,z.2.2.2.2.2.2.2.2.2.2.2.2.2.1,a70.1,())))))))) (Tr.br true (Tr.chk (zK a67 [66,89]) (Tr.chk (zW a78) (Tr.chk (decide (a80.length≤1073741824)) (Tr.chk (zK a81 [83,85,77]) (Tr.chk (zW a83) (Tr.chk (decide (a80.length+a85.length≤1073741824)) (Tr.chk (bX a86 [67,72,69,67,75]) (Tr.re (AV.tup []) (aK zH jj a87.2
  ([103,114,111,117,112],a62.1,a66.1,a80++a85,z.2.2.2.1,a87.1,z.2.2.2.2.2.2.2.2.2)))))))))) (Tr.chk (bX a67 [67,72,69,67,75]) (Tr.re (AV.tup []) (aK zH jj a88.2 ([103,114,111,117,112],a62.1,a66.1,[],z.2.2.2.1,a88.1,z.2.2.2.2.2.2.2.2.2)))))))))) (Tr.chk (zW a89) (Tr.chk (zK a91 [70,82,79,77]) (Tr.chk (zW a93)
  (Tr.br (z.1==[99,111,112,121]) (Tr.chk (zK a95 [40]) (Tr.to (mD.h14 (zS a95 [40]) (z.1,a90.1,a94.1,a9)))) (Tr.br (z.1==[106,111,105,110]) (Tr.chk (zK a95 [44]) (Tr.chk (zW a97) (Tr.chk (zK a99 [79,78]) (Tr.chk (zW a101) (Tr.chk (bX a103 [67,72,69,67,75]) (Tr.re (AV.tup []) (aK zH jj a104.2
  (z.1,a90.1,a94.1,[],a102.1,a104.1,z.2.2.2.2.2.2.2.2.2.1,z.2.2.2.2.2.2.2.2.2.2.1,z.2.2.2.2.2.2.2.2.2.2.2.1,z.2.2.2.2.2.2.2.2.2.2.2.2.1,z.2.2.2.2.2.2.2.2.2.2.2.2.2.1,a98.1,())))))))) (Tr.br (z.1==[103,114,111,117,112]) (Tr.chk (zK a95 [66,89]) (Tr.chk (zW a106) (Tr.chk (decide (a108.length≤1073741824)) (Tr.chk (zK a109 [83,85,77]) (Tr.chk (zW a111)
  (Tr.chk (decide (a108.length+a113.length≤1073741824)) (Tr.chk (bX a114 [67,72,69,67,75]) (Tr.re (AV.tup []) (aK zH jj a115.2 (z.1,a90.1,a94.1,a108++a113,z.2.2.2.1,a115.1,z.2.2.2.2.2.2.2.2.2)))))))))) (Tr.chk (bX a95 [67,72,69,67,75]) (Tr.re (AV.tup []) (aK zH jj a116.2 (z.1,a90.1,a94.1,[],z.2.2.2.1,a116.1,z.2.2.2.2.2.2.2.2.2)))))))))))))))
theorem R5 (y:zr zH) (z:zr dN):rn A5 2 C6 Tryz.f115 [AV.ptr 0 0,AV.ptr 1 0] (aK zH dN y z)=(IC y z).map (lf Tryz.f115 AM):=by kernel_rfl
def KH:mD→Tr (mD ⊕ ag)
 | .h14 z0 z1=>
  let a0:=(z0.1,z0.2.1,z0.2.2.1,())
  let a1:=aD a0
  let a2:=[a1.1]
  let a3:=(a1.2.1,a1.2.2.1,a1.2.2.2.1,())
  let a4:=aW a3 [44]
  let a5:=zS a0 [41]
  let a6:=(a5.1,a5.2.1,a5.2.2.1,())
  let a7:=cK a6 [67,72,69,67,75]
  Tr.br z0.2.2.1
  (Tr.chk (zW a0)
   (Tr.chk (decide (z1.2.2.2.1.length+a2.length≤1073741824)) (Tr.chk (aF a3 [44]) (Tr.to (mD.h14b a4.1 a4.2 (z1.1,z1.2.1,z1.2.2.1,z1.2.2.2.1++a2,z1.2.2.2.2))))))
  (Tr.chk (zK a0 [41])
   (Tr.chk (bX a6 [67,72,69,67,75]) (Tr.re (AV.tup []) (aK zH jj a7.2 (z1.1,z1.2.1,z1.2.2.1,z1.2.2.2.1,z1.2.2.2.2.1,a7.1,z1.2.2.2.2.2.2.2.2.2.2)))))
 | .h14b b4 z0 z1=>
  let a0:=(z0.1,z0.2.1,z0.2.2.1,())
  let a1:=aD a0
  let a2:=[a1.1]
  let a3:=(a1.2.1,a1.2.2.1,a1.2.2.2.1,())
  let a4:=aW a3 [44]
  let a5:=zS a0 [41]
  let a6:=(a5.1,a5.2.1,a5.2.2.1,())
  let a7:=cK a6 [67,72,69,67,75]
  Tr.br (bif b4 then z0.2.2.1 else false)
  (Tr.chk (zW a0)
   (Tr.chk (decide (z1.2.2.2.1.length+a2.length≤1073741824)) (Tr.chk (aF a3 [44]) (Tr.to (mD.h14b a4.1 a4.2 (z1.1,z1.2.1,z1.2.2.1,z1.2.2.2.1++a2,z1.2.2.2.2))))))
  (Tr.chk (zK a0 [41])
   (Tr.chk (bX a6 [67,72,69,67,75]) (Tr.re (AV.tup []) (aK zH jj a7.2 (z1.1,z1.2.1,z1.2.2.1,z1.2.2.2.1,z1.2.2.2.2.1,a7.1,z1.2.2.2.2.2.2.2.2.2.2)))))
theorem Ts:∀ s,run A5 2 C6 (Func.results Tryz.f115).toList 400 (zw Tryz.f115 (AM s).1) (AM s).2=(KH s).map (lf Tryz.f115 AM)
 | .h14 z0 z1=>by kernel_rfl
 | .h14b b4 z0 z1=>by kernel_rfl
def Kn (y:zr zH) (z:zr dN):Option (zu (List.map some [])×zr zH×zr jj):=BC [] zH jj KH 100000000 (IC y z)
def Km (y:zr zH) (z:zr dN):Bool:=(Kn y z).isSome
def PJ (y:zr zH) (z:zr dN):zr zH×zr jj:=(fun r:zu (List.map some [])×zr zH×zr jj=>r.2) ((Kn y z).getD (bK [],eT zH,eT jj))
def NH:zB:=Ea zH dN [] [] zH jj (fun y z _=>Km y z) fun y z _=>((),PJ y z)
theorem K5:FK 115 NH:=Hl (ps:=zH) (qs:=dN) (ks:=[]) (outs:=[]) (keep:=C6) (gas:=400) (n:=100000000) (e:=AM) (t:=KH) (i:=fun y z x=>IC y z) lT Tb (fun y z x=>R5 y z) Ts (fun _ _ _=>by kernel_rfl) (fun _ _ _=>by kernel_rfl)

end
noncomputable section
def Ii:=O9.add 115 NH
theorem tn:zm Ii:=Gf.add K5

abbrev Zf:Nat→zT:=fun j=>if j=17 then { slots:=[2,4,6,7,8],prom:=[(7,some 14,zf)] } else if j=25 then { slots:=[2,4,6,7,9] } else { }
inductive Aq where
 | h17 (l4:List (Sem zo)) (z0:zr dN) (z1:zr zH) (jc0:List UInt8) (jc1:Sem Sh.str) (jc2:List UInt8) (jc5:List UInt8) (jc8:List UInt8) (jc9:Int) (jc10:Int) (jc11:List UInt8) (jc12:List UInt8) (jc16:List UInt8) (jc17:Int) (jc18:Int) (jc19:List UInt8) (jc20:List UInt8) (jc22:List UInt8) (lh_3:List (Sem zf))
 | h25 (l4:List (Sem zo)) (z0:zr dN) (z1:zr zH) (z2:zr dN)
 | h17b (l4:List (Sem zo)) (b8:Sem Sh.bool) (z0:zr dN) (z1:zr zH) (jc0:List UInt8) (jc1:Sem Sh.str) (jc2:List UInt8) (jc5:List UInt8) (jc8:List UInt8) (jc9:Int) (jc10:Int) (jc11:List UInt8) (jc12:List UInt8) (jc16:List UInt8) (jc17:Int) (jc18:Int) (jc19:List UInt8) (jc20:List UInt8) (jc22:List UInt8) (lh_3:List (Sem zf))
abbrev zby:Aq→Nat×St
 | .h17 l4 z0 z1 jc0 jc1 jc2 jc5 jc8 jc9 jc10 jc11 jc12 jc16 jc17 jc18 jc19 jc20 jc22 lh_3=>(17,⟨tm 172 [(2,AV.ptr 0 0),(4,AV.sl zo l4),(6,AV.ptr 1 0),(7,AV.ptr 2 0),(8,AV.kb true)],[AO.box (bu [] dN z0),AO.box (bu [] zH z1),AO.box [AV.str jc0,AV.str jc1,AV.str jc2,AV.nils,AV.nils,AV.str jc5,AV.nils,AV.nils,AV.str jc8,AV.int .i64 jc9,AV.int .i64 jc10,AV.str jc11,AV.str jc12,AV.nils,AV.vec 3,AV.nils,AV.str jc16,AV.int .i64 jc17,AV.int .i64 jc18,AV.str jc19,AV.str jc20,AV.nils,AV.str jc22],AO.vec zf lh_3]⟩)
 | .h25 l4 z0 z1 z2=>(25,⟨tm 172 [(2,AV.ptr 0 0),(4,AV.sl zo l4),(6,AV.ptr 1 0),(7,AV.ptr 2 0),(9,AV.kb true)],[AO.box (bu [] dN z0),AO.box (bu [] zH z1),AO.box (bu [] dN z2)]⟩)
 | .h17b l4 b8 z0 z1 jc0 jc1 jc2 jc5 jc8 jc9 jc10 jc11 jc12 jc16 jc17 jc18 jc19 jc20 jc22 lh_3=>(17,⟨tm 172 [(2,AV.ptr 0 0),(4,AV.sl zo l4),(6,AV.ptr 1 0),(7,AV.ptr 2 0),(8,AV.bool b8)],[AO.box (bu [] dN z0),AO.box (bu [] zH z1),AO.box [AV.str jc0,AV.str jc1,AV.str jc2,AV.nils,AV.nils,AV.str jc5,AV.nils,AV.nils,AV.str jc8,AV.int .i64 jc9,AV.int .i64 jc10,AV.str jc11,AV.str jc12,AV.nils,AV.vec 3,AV.nils,AV.str jc16,AV.int .i64 jc17,AV.int .i64 jc18,AV.str jc19,AV.str jc20,AV.nils,AV.str jc22],AO.vec zf lh_3]⟩)
def zcV (x0:Sem Sh.str):Tr (Aq ⊕ ag):=
 let a0:=((xe x0).1,0,true,())
 let a1:=aW a0 [67,82,69,65,84,69]
 let a2:=(a1.2.1,a1.2.2.1,a1.2.2.2.1,())
 let a3:=BP a2 ([],[],[],[],[],0,0,[],[],[],0,0,[],[],[],())
 let a4:=(↑(length (xe x0).1):Int)
 let a5:=(a3.2.1,a3.2.2.1,a3.2.2.2.1,[],a3.2.2.2.2.1,a3.2.2.2.2.2.1,a3.2.2.2.2.2.2.1,a3.2.2.2.2.2.2.2.1,zC a3.2.2.2.2.2.2.2.2.1,[],[],ze.mk a3.2.2.2.2.2.2.2.2.2.1 (a3.2.2.2.2.2.2.2.2.2.2.1,a3.2.2.2.2.2.2.2.2.2.2.2.1,a3.2.2.2.2.2.2.2.2.2.2.2.2.1) a3.2.2.2.2.2.2.2.2.2.2.2.2.2.1 [],a3.2.2.2.2.2.2.2.2.2.2.2.2.2.2.1)
 let a6:=lC a5
 let a7:=aW a2 [68,82,79,80]
 let a8:=(a7.2.1,a7.2.2.1,a7.2.2.2.1,())
 let a9:=zS a8 [84,65,66,76,69]
 let a10:=(a9.1,a9.2.1,a9.2.2.1,())
 let a11:=aD a10
 let a12:=([100,114,111,112],a11.1,[],[],[],[],[],[],ze.mk [] (0,0,[]) [] [],[],[],ze.mk [] (0,0,[]) [] [],[])
 let a13:=lC a12
 let a14:=aW a8 [73,78,83,69,82,84]
 let a15:=(a14.2.1,a14.2.2.1,a14.2.2.2.1,())
 let a16:=zS a15 [73,78,84,79]
 let a17:=(a16.1,a16.2.1,a16.2.2.1,())
 let a18:=aD a17
 let a19:=(a18.2.1,a18.2.2.1,a18.2.2.2.1,())
 let a20:=zS a19 [86,65,76,85,69,83]
 let a21:=(a20.1,a20.2.1,a20.2.2.1,())
 let a22:=aW a15 [85,80,68,65,84,69]
 let a23:=(a22.2.1,a22.2.2.1,a22.2.2.2.1,())
 let a24:=aD a23
 let a25:=(a24.2.1,a24.2.2.1,a24.2.2.2.1,())
 let a26:=aW a23 [68,69,76,69,84,69]
 let a27:=(a26.2.1,a26.2.2.1,a26.2.2.2.1,())
 let a28:=zS a27 [70,82,79,77]
 let a29:=(a28.1,a28.2.1,a28.2.2.1,())
 let a30:=aD a29
 let a31:=(a30.2.1,a30.2.2.1,a30.2.2.2.1,())
 let a32:=cK a31 [87,72,69,82,69]
 let a33:=([100,101,108,101,116,101],a30.1,[],[],[],[],[],[],ze.mk [] (0,0,[]) [] [],[],[],zC a32.1,[])
 let a34:=lC a33
 let a35:=aW a27 [83,69,76,69,67,84]
 let a36:=(a35.2.1,a35.2.2.1,a35.2.2.2.1,())
 let a37:=zS a36 [42]
 let a38:=(a37.1,a37.2.1,a37.2.2.1,())
 let a39:=zS a38 [70,82,79,77]
 let a40:=(a39.1,a39.2.1,a39.2.2.1,())
 let a41:=aD a40
 let a42:=(a41.2.1,a41.2.2.1,a41.2.2.2.1,())
 let a43:=cK a42 [87,72,69,82,69]
 let a44:=([115,101,108,101,99,116],a41.1,[],[],[],[],[],[],ze.mk [] (0,0,[]) [] [],[],[],zC a43.1,[])
 let a45:=lC a44
 let a46:=aW a36 [71,82,65,78,84]
 let a47:=(a46.2.1,a46.2.2.1,a46.2.2.2.1,())
 let a48:=lD a47 [82,69,65,68]
 let a49:=aW a47 [82,69,86,79,75,69]
 let a50:=(a49.2.1,a49.2.2.1,a49.2.2.2.1,())
 let a51:=lD a50 [82,69,65,68]
 let a52:=aW a50 [77,73,71,82,65,84,69]
 let a53:=(a52.2.1,a52.2.2.1,a52.2.2.2.1,())
 let a54:=PJ a53 ([],[],[],[],[],0,0,[],[],[],0,0,[],[],[],())
 let a55:=(a54.2.1,a54.2.2.1,a54.2.2.2.1,a54.2.2.2.2.1,[],a54.2.2.2.2.2.1,[],[],zC a54.2.2.2.2.2.2.1,[],[],ze.mk a54.2.2.2.2.2.2.2.1 (a54.2.2.2.2.2.2.2.2.1,a54.2.2.2.2.2.2.2.2.2.1,a54.2.2.2.2.2.2.2.2.2.2.1) a54.2.2.2.2.2.2.2.2.2.2.2.1 [],a54.2.2.2.2.2.2.2.2.2.2.2.2.1)
 let a56:=lC a55
 Tr.chk (Kb x0)
 (Tr.br (!(xe x0).2)
  (Tr.re (AV.tup [AV.agg [AV.str [],AV.str [],AV.str [],AV.nils,AV.nils,AV.str [],AV.nils,AV.nils,AV.str [],AV.int .i64 0,AV.int .i64 0,AV.str [],AV.str [],AV.nils,AV.nils,AV.nils,AV.str [],AV.int .i64 0,AV.int .i64 0,AV.str [],AV.str [],AV.nils,AV.str []],AV.kb false]) [])
  (Tr.chk (aF a0 [67,82,69,65,84,69]) (Tr.br a1.1 (Tr.chk (xf a2 ([],[],[],[],[],0,0,[],[],[],0,0,[],[],[],())) (Tr.br (bif !a3.1.2.2.1 then true else a3.1.2.1 != a4) (Tr.re (AV.tup [AV.agg [AV.str [],AV.str [],AV.str [],AV.nils,AV.nils,AV.str [],AV.nils,AV.nils,AV.str [],AV.int .i64 0,AV.int .i64 0,
  AV.str [],AV.str [],AV.nils,AV.nils,AV.nils,AV.str [],AV.int .i64 0,AV.int .i64 0,AV.str [],AV.str [],AV.nils,AV.str []],AV.kb false]) []) (Tr.chk (iJ a5) (Tr.br (!a6.2) (Tr.re (AV.tup [AV.agg [AV.str [],AV.str [],AV.str [],AV.nils,AV.nils,AV.str [],AV.nils,AV.nils,AV.str [],AV.int .i64 0,AV.int .i64 0,
  AV.str [],AV.str [],AV.nils,AV.nils,AV.nils,AV.str [],AV.int .i64 0,AV.int .i64 0,AV.str [],AV.str [],AV.nils,AV.str []],AV.kb false]) []) (Tr.re (AV.tup [AV.agg [AV.str a3.2.1,AV.str a3.2.2.1,AV.str a3.2.2.2.1,AV.nils,AV.vec 0,AV.str a3.2.2.2.2.2.1,AV.vec 1,AV.vec 2,AV.str (ze.op a3.2.2.2.2.2.2.2.2.1),AV.int .i64 (ze.v a3.2.2.2.2.2.2.2.2.1).1,
  AV.int .i64 (ze.v a3.2.2.2.2.2.2.2.2.1).2.1,AV.str (ze.v a3.2.2.2.2.2.2.2.2.1).2.2,AV.str (ze.s a3.2.2.2.2.2.2.2.2.1),AV.sl Sh.expr (ze.l a3.2.2.2.2.2.2.2.2.1),AV.nils,AV.nils,AV.str a3.2.2.2.2.2.2.2.2.2.1,AV.int .i64 a3.2.2.2.2.2.2.2.2.2.2.1,AV.int .i64 a3.2.2.2.2.2.2.2.2.2.2.2.1,AV.str a3.2.2.2.2.2.2.2.2.2.2.2.2.1,AV.str a3.2.2.2.2.2.2.2.2.2.2.2.2.2.1,AV.nils,
  AV.str a3.2.2.2.2.2.2.2.2.2.2.2.2.2.2.1],AV.kb true]) [AO.vec zi a3.2.2.2.2.1,AO.vec Sh.str a3.2.2.2.2.2.2.1,AO.vec (Sh.str.pr Sh.str) a3.2.2.2.2.2.2.2.1]))))) (Tr.chk (aF a2 [68,82,79,80]) (Tr.br a7.1 (Tr.chk (zK a8 [84,65,66,76,69]) (Tr.chk (zW a10) (Tr.br (bif !a11.2.2.2.1 then true else a11.2.2.1 != a4) (Tr.re (AV.tup [AV.agg
  [AV.str [],AV.str [],AV.str [],AV.nils,AV.nils,AV.str [],AV.nils,AV.nils,AV.str [],AV.int .i64 0,AV.int .i64 0,AV.str [],AV.str [],AV.nils,AV.nils,AV.nils,AV.str [],AV.int .i64 0,AV.int .i64 0,AV.str [],AV.str [],AV.nils,AV.str []],AV.kb false]) []) (Tr.chk (iJ a12) (Tr.br (!a13.2) (Tr.re (AV.tup [AV.agg
  [AV.str [],AV.str [],AV.str [],AV.nils,AV.nils,AV.str [],AV.nils,AV.nils,AV.str [],AV.int .i64 0,AV.int .i64 0,AV.str [],AV.str [],AV.nils,AV.nils,AV.nils,AV.str [],AV.int .i64 0,AV.int .i64 0,AV.str [],AV.str [],AV.nils,AV.str []],AV.kb false]) []) (Tr.re (AV.tup [AV.agg
  [AV.str [100,114,111,112],AV.str a11.1,AV.str [],AV.nils,AV.nils,AV.str [],AV.nils,AV.nils,AV.str [],AV.int .i64 0,AV.int .i64 0,AV.str [],AV.str [],AV.nils,AV.nils,AV.nils,AV.str [],AV.int .i64 0,AV.int .i64 0,AV.str [],AV.str [],AV.nils,AV.str []],AV.kb true]) [])))))) (Tr.chk (aF a8 [73,78,83,69,82,84]) (Tr.br a14.1 (Tr.chk (zK a15 [73,78,84,79])
  (Tr.chk (zW a17) (Tr.chk (zK a19 [86,65,76,85,69,83]) (Tr.chk (zK a21 [40]) (Tr.to (Aq.h17 (xe x0).1 ([],[],[],[],[],0,0,[],[],[],0,0,[],[],[],()) (zS a21 [40]) [105,110,115,101,114,116] a18.1 [] [] [] 0 0 [] [] [] 0 0 [] [] [] [])))))) (Tr.chk (aF a15 [85,80,68,65,84,69]) (Tr.br a22.1 (Tr.chk (zW a23)
  (Tr.chk (zK a25 [83,69,84]) (Tr.to (Aq.h25 (xe x0).1 ([],[],[],[],[],0,0,[],[],[],0,0,[],[],[],()) (zS a25 [83,69,84]) ([117,112,100,97,116,101],a24.1,[],[],[],0,0,[],[],[],0,0,[],[],[],()))))) (Tr.chk (aF a23 [68,69,76,69,84,69]) (Tr.br a26.1 (Tr.chk (zK a27 [70,82,79,77]) (Tr.chk (zW a29)
  (Tr.chk (bX a31 [87,72,69,82,69]) (Tr.br (bif !a32.2.2.2.1 then true else a32.2.2.1 != a4) (Tr.re (AV.tup [AV.agg [AV.str [],AV.str [],AV.str [],AV.nils,AV.nils,AV.str [],AV.nils,AV.nils,AV.str [],AV.int .i64 0,AV.int .i64 0,AV.str [],AV.str [],AV.nils,AV.nils,AV.nils,AV.str [],AV.int .i64 0,AV.int .i64 0,AV.str [],AV.str [],AV.nils,AV.str []],AV.kb false]) [])
  (Tr.chk (iJ a33) (Tr.br (!a34.2) (Tr.re (AV.tup [AV.agg [AV.str [],AV.str [],AV.str [],AV.nils,AV.nils,AV.str [],AV.nils,AV.nils,AV.str [],AV.int .i64 0,AV.int .i64 0,AV.str [],AV.str [],AV.nils,AV.nils,AV.nils,AV.str [],AV.int .i64 0,AV.int .i64 0,AV.str [],AV.str [],AV.nils,AV.str []],AV.kb false]) []) (Tr.re (AV.tup [AV.agg
  [AV.str [100,101,108,101,116,101],AV.str a30.1,AV.str [],AV.nils,AV.nils,AV.str [],AV.nils,AV.nils,AV.str [],AV.int .i64 0,AV.int .i64 0,AV.str [],AV.str [],AV.nils,AV.nils,AV.nils,AV.str (ze.op a32.1),AV.int .i64 (ze.v a32.1).1,AV.int .i64 (ze.v a32.1).2.1,AV.str (ze.v a32.1).2.2,AV.str (ze.s a32.1),AV.sl Sh.expr (ze.l a32.1),AV.str []],
  AV.kb true]) []))))))) (Tr.chk (aF a27 [83,69,76,69,67,84]) (Tr.br a35.1 (Tr.chk (zK a36 [42]) (Tr.chk (zK a38 [70,82,79,77]) (Tr.chk (zW a40) (Tr.chk (bX a42 [87,72,69,82,69]) (Tr.br (bif !a43.2.2.2.1 then true else a43.2.2.1 != a4) (Tr.re (AV.tup [AV.agg
  [AV.str [],AV.str [],AV.str [],AV.nils,AV.nils,AV.str [],AV.nils,AV.nils,AV.str [],AV.int .i64 0,AV.int .i64 0,AV.str [],AV.str [],AV.nils,AV.nils,AV.nils,AV.str [],AV.int .i64 0,AV.int .i64 0,AV.str [],AV.str [],AV.nils,AV.str []],AV.kb false]) []) (Tr.chk (iJ a44) (Tr.br (!a45.2) (Tr.re (AV.tup [AV.agg
  [AV.str [],AV.str [],AV.str [],AV.nils,AV.nils,AV.str [],AV.nils,AV.nils,AV.str [],AV.int .i64 0,AV.int .i64 0,AV.str [],AV.str [],AV.nils,AV.nils,AV.nils,AV.str [],AV.int .i64 0,AV.int .i64 0,AV.str [],AV.str [],AV.nils,AV.str []],AV.kb false]) []) (Tr.re (AV.tup [AV.agg
  [AV.str [115,101,108,101,99,116],AV.str a41.1,AV.str [],AV.nils,AV.nils,AV.str [],AV.nils,AV.nils,AV.str [],AV.int .i64 0,AV.int .i64 0,AV.str [],AV.str [],AV.nils,AV.nils,AV.nils,AV.str (ze.op a43.1),AV.int .i64 (ze.v a43.1).1,AV.int .i64 (ze.v a43.1).2.1,AV.str (ze.v a43.1).2.2,AV.str (ze.s a43.1),AV.sl Sh.expr (ze.l a43.1),AV.str []],
  AV.kb true]) [])))))))) (Tr.chk (aF a36 [71,82,65,78,84]) (Tr.br a46.1 (Tr.chk (iU a47 [82,69,65,68]) (Tr.br a48.1 Tr.err Tr.err)) (Tr.chk (aF a47 [82,69,86,79,75,69]) (Tr.br a49.1 (Tr.chk (iU a50 [82,69,65,68]) (Tr.br a51.1 Tr.err Tr.err)) (Tr.chk (aF a50 [77,73,71,82,65,84,69]) (Tr.br a52.1
  (Tr.chk (Km a53 ([],[],[],[],[],0,0,[],[],[],0,0,[],[],[],())) (Tr.br (bif !a54.1.2.2.1 then true else a54.1.2.1 != a4) (Tr.re (AV.tup [AV.agg [AV.str [],AV.str [],AV.str [],AV.nils,AV.nils,AV.str [],AV.nils,AV.nils,AV.str [],AV.int .i64 0,AV.int .i64 0,AV.str [],AV.str [],AV.nils,AV.nils,AV.nils,AV.str [],
  AV.int .i64 0,AV.int .i64 0,AV.str [],AV.str [],AV.nils,AV.str []],AV.kb false]) []) (Tr.chk (iJ a55) (Tr.br (!a56.2) (Tr.re (AV.tup [AV.agg [AV.str [],AV.str [],AV.str [],AV.nils,AV.nils,AV.str [],AV.nils,AV.nils,AV.str [],AV.int .i64 0,AV.int .i64 0,AV.str [],AV.str [],AV.nils,AV.nils,AV.nils,
  AV.str [],AV.int .i64 0,AV.int .i64 0,AV.str [],AV.str [],AV.nils,AV.str []],AV.kb false]) []) (Tr.re (AV.tup [AV.agg [AV.str a54.2.1,AV.str a54.2.2.1,AV.str a54.2.2.2.1,AV.vec 0,AV.nils,AV.str a54.2.2.2.2.2.1,AV.nils,AV.nils,AV.str (ze.op a54.2.2.2.2.2.2.1),AV.int .i64 (ze.v a54.2.2.2.2.2.2.1).1,AV.int .i64 (ze.v a54.2.2.2.2.2.2.1).2.1,
  AV.str (ze.v a54.2.2.2.2.2.2.1).2.2,AV.str (ze.s a54.2.2.2.2.2.2.1),AV.sl Sh.expr (ze.l a54.2.2.2.2.2.2.1),AV.nils,AV.nils,AV.str a54.2.2.2.2.2.2.2.1,AV.int .i64 a54.2.2.2.2.2.2.2.2.1,AV.int .i64 a54.2.2.2.2.2.2.2.2.2.1,AV.str a54.2.2.2.2.2.2.2.2.2.2.1,AV.str a54.2.2.2.2.2.2.2.2.2.2.2.1,AV.nils,AV.str a54.2.2.2.2.2.2.2.2.2.2.2.2.1],AV.kb true])
  [AO.vec Sh.str a54.2.2.2.2.1]))))) (Tr.br (bif !a52.2.2.2.1 then true else a52.2.2.1 != a4) (Tr.re (AV.tup [AV.agg [AV.str [],AV.str [],AV.str [],AV.nils,AV.nils,AV.str [],AV.nils,AV.nils,AV.str [],AV.int .i64 0,AV.int .i64 0,AV.str [],AV.str [],AV.nils,AV.nils,AV.nils,AV.str [],AV.int .i64 0,AV.int .i64 0,AV.str [],AV.str [],AV.nils,AV.str []],AV.kb false]) [])
  (Tr.chk true (Tr.br true (Tr.re (AV.tup [AV.agg [AV.str [],AV.str [],AV.str [],AV.nils,AV.nils,AV.str [],AV.nils,AV.nils,AV.str [],AV.int .i64 0,AV.int .i64 0,AV.str [],AV.str [],AV.nils,AV.nils,AV.nils,AV.str [],AV.int .i64 0,AV.int .i64 0,AV.str [],AV.str [],AV.nils,AV.str []],AV.kb false]) []) (Tr.re (AV.tup [AV.agg
  [AV.str [],AV.str [],AV.str [],AV.nils,AV.nils,AV.str [],AV.nils,AV.nils,AV.str [],AV.int .i64 0,AV.int .i64 0,AV.str [],AV.str [],AV.nils,AV.nils,AV.nils,AV.str [],AV.int .i64 0,AV.int .i64 0,AV.str [],AV.str [],AV.nils,AV.str []],AV.kb true]) [])))))))))))))))))))))))
def zdz:Aq→Tr (Aq ⊕ ag)
 | .h17 l4 z0 z1 jc0 jc1 jc2 jc5 jc8 jc9 jc10 jc11 jc12 jc16 jc17 jc18 jc19 jc20 jc22 lh_3=>
  let a0:=(z1.1,z1.2.1,z1.2.2.1,())
  let a1:=Fi a0
  let a2:=[a1.1]
  let a3:=(a1.2.1,a1.2.2.1,a1.2.2.2.1,())
  let a4:=aW a3 [44]
  let a5:=zS a0 [41]
  let a6:=(jc0,jc1,jc2,[],[],jc5,[],[],ze.mk jc8 (jc9,jc10,jc11) jc12 [],lh_3,[],ze.mk jc16 (jc17,jc18,jc19) jc20 [],jc22)
  let a7:=lC a6
  Tr.br z1.2.2.1
  (Tr.chk (DB a0) (Tr.chk (decide (lh_3.length+a2.length≤1073741824)) (Tr.chk (aF a3 [44]) (Tr.to (Aq.h17b l4 a4.1 z0 a4.2 jc0 jc1 jc2 jc5 jc8 jc9 jc10 jc11 jc12 jc16 jc17 jc18 jc19 jc20 jc22 (lh_3++a2))))))
  (Tr.chk (zK a0 [41]) (Tr.br (bif !a5.2.2.1 then true else a5.2.1 != (↑l4.length:Int)) (Tr.re (AV.tup [AV.agg [AV.str [],AV.str [],AV.str [],AV.nils,AV.nils,AV.str [],AV.nils,AV.nils,AV.str [],AV.int .i64 0,AV.int .i64 0,AV.str [],AV.str [],AV.nils,AV.nils,AV.nils,AV.str [],AV.int .i64 0,AV.int .i64 0,AV.str [],AV.str [],AV.nils,AV.str []],AV.kb false]) [])
  (Tr.chk (iJ a6) (Tr.br (!a7.2) (Tr.re (AV.tup [AV.agg [AV.str [],AV.str [],AV.str [],AV.nils,AV.nils,AV.str [],AV.nils,AV.nils,AV.str [],AV.int .i64 0,AV.int .i64 0,AV.str [],AV.str [],AV.nils,AV.nils,AV.nils,AV.str [],AV.int .i64 0,AV.int .i64 0,AV.str [],AV.str [],AV.nils,AV.str []],AV.kb false]) []) (Tr.re (AV.tup [AV.agg
  [AV.str jc0,AV.str jc1,AV.str jc2,AV.nils,AV.nils,AV.str jc5,AV.nils,AV.nils,AV.str jc8,AV.int .i64 jc9,AV.int .i64 jc10,AV.str jc11,AV.str jc12,AV.nils,AV.vec 0,AV.nils,AV.str jc16,AV.int .i64 jc17,AV.int .i64 jc18,AV.str jc19,AV.str jc20,AV.nils,AV.str jc22],AV.kb true]) [AO.vec zf lh_3])))))
 | .h25 l4 _ z1 z2=>
  let a0:=(z1.1,z1.2.1,z1.2.2.1,())
  let a1:=aD a0
  let a2:=cK a0 [87,72,69,82,69]
  let a3:=(z2.1,z2.2.1,z2.2.2.1,[],[],z2.2.2.2.1,[],[],ze.mk z2.2.2.2.2.1 (z2.2.2.2.2.2.1,z2.2.2.2.2.2.2.1,z2.2.2.2.2.2.2.2.1) z2.2.2.2.2.2.2.2.2.1 [],[],[],zC a2.1,z2.2.2.2.2.2.2.2.2.2.2.2.2.2.2.1)
  let a4:=lC a3
  Tr.br z1.2.2.1 (Tr.chk (zW a0) (Tr.chk (zK (a1.2.1,a1.2.2.1,a1.2.2.2.1,()) [61]) Tr.err))
  (Tr.chk (bX a0 [87,72,69,82,69]) (Tr.br (bif !a2.2.2.2.1 then true else a2.2.2.1 != (↑l4.length:Int)) (Tr.re (AV.tup [AV.agg [AV.str [],AV.str [],AV.str [],AV.nils,AV.nils,AV.str [],AV.nils,AV.nils,AV.str [],AV.int .i64 0,AV.int .i64 0,AV.str [],AV.str [],AV.nils,AV.nils,AV.nils,AV.str [],AV.int .i64 0,AV.int .i64 0,AV.str [],AV.str [],AV.nils,AV.str []],
  AV.kb false]) []) (Tr.chk (iJ a3) (Tr.br (!a4.2) (Tr.re (AV.tup [AV.agg [AV.str [],AV.str [],AV.str [],AV.nils,AV.nils,AV.str [],AV.nils,AV.nils,AV.str [],AV.int .i64 0,AV.int .i64 0,AV.str [],AV.str [],AV.nils,AV.nils,AV.nils,AV.str [],AV.int .i64 0,AV.int .i64 0,AV.str [],AV.str [],AV.nils,AV.str []],AV.kb false]) []) (Tr.re (AV.tup [AV.agg
  [AV.str z2.1,AV.str z2.2.1,AV.str z2.2.2.1,AV.nils,AV.nils,AV.str z2.2.2.2.1,AV.nils,AV.nils,AV.str z2.2.2.2.2.1,AV.int .i64 z2.2.2.2.2.2.1,AV.int .i64 z2.2.2.2.2.2.2.1,AV.str z2.2.2.2.2.2.2.2.1,AV.str z2.2.2.2.2.2.2.2.2.1,AV.nils,AV.nils,AV.nils,AV.str (ze.op a2.1),AV.int .i64 (ze.v a2.1).1,AV.int .i64 (ze.v a2.1).2.1,
  AV.str (ze.v a2.1).2.2,AV.str (ze.s a2.1),AV.sl Sh.expr (ze.l a2.1),AV.str z2.2.2.2.2.2.2.2.2.2.2.2.2.2.2.1],AV.kb true]) [])))))
 | .h17b l4 b8 z0 z1 jc0 jc1 jc2 jc5 jc8 jc9 jc10 jc11 jc12 jc16 jc17 jc18 jc19 jc20 jc22 lh_3=>
  let a0:=(z1.1,z1.2.1,z1.2.2.1,())
  let a1:=Fi a0
  let a2:=[a1.1]
  let a3:=(a1.2.1,a1.2.2.1,a1.2.2.2.1,())
  let a4:=aW a3 [44]
  let a5:=zS a0 [41]
  let a6:=(jc0,jc1,jc2,[],[],jc5,[],[],ze.mk jc8 (jc9,jc10,jc11) jc12 [],lh_3,[],ze.mk jc16 (jc17,jc18,jc19) jc20 [],jc22)
  let a7:=lC a6
  Tr.br (bif b8 then z1.2.2.1 else false)
  (Tr.chk (DB a0) (Tr.chk (decide (lh_3.length+a2.length≤1073741824)) (Tr.chk (aF a3 [44]) (Tr.to (Aq.h17b l4 a4.1 z0 a4.2 jc0 jc1 jc2 jc5 jc8 jc9 jc10 jc11 jc12 jc16 jc17 jc18 jc19 jc20 jc22 (lh_3++a2))))))
  (Tr.chk (zK a0 [41]) (Tr.br (bif !a5.2.2.1 then true else a5.2.1 != (↑l4.length:Int)) (Tr.re (AV.tup [AV.agg [AV.str [],AV.str [],AV.str [],AV.nils,AV.nils,AV.str [],AV.nils,AV.nils,AV.str [],AV.int .i64 0,AV.int .i64 0,AV.str [],AV.str [],AV.nils,AV.nils,AV.nils,AV.str [],AV.int .i64 0,AV.int .i64 0,AV.str [],AV.str [],AV.nils,AV.str []],AV.kb false]) [])
  (Tr.chk (iJ a6) (Tr.br (!a7.2) (Tr.re (AV.tup [AV.agg [AV.str [],AV.str [],AV.str [],AV.nils,AV.nils,AV.str [],AV.nils,AV.nils,AV.str [],AV.int .i64 0,AV.int .i64 0,AV.str [],AV.str [],AV.nils,AV.nils,AV.nils,AV.str [],AV.int .i64 0,AV.int .i64 0,AV.str [],AV.str [],AV.nils,AV.str []],AV.kb false]) []) (Tr.re (AV.tup [AV.agg
  [AV.str jc0,AV.str jc1,AV.str jc2,AV.nils,AV.nils,AV.str jc5,AV.nils,AV.nils,AV.str jc8,AV.int .i64 jc9,AV.int .i64 jc10,AV.str jc11,AV.str jc12,AV.nils,AV.vec 0,AV.nils,AV.str jc16,AV.int .i64 jc17,AV.int .i64 jc18,AV.str jc19,AV.str jc20,AV.nils,AV.str jc22],AV.kb true]) [AO.vec zf lh_3])))))
def ur (x0:Sem Sh.str):=ap [zx,Sh.bool] zdz 100000000 (zcV x0)
def Kg (x0:Sem Sh.str):=(ur x0).isSome
def bA (x0:Sem Sh.str):=o2 (ur x0)
def Vw:=FT [Sh.str] [zx,Sh.bool] fun x=>ur x.1
theorem Q3:FK 62 Vw:=tn.T1 (f:=Tryz.f62) (keep:=Zf) (e:=zby)

def XW:=Ii.add 62 Vw
theorem Gg:zm XW:=tn.add Q3
end

noncomputable def zcO (x0:Sem Sh.str):Tr (Empty ⊕ ag):=
 Tr.chk (Kg x0)
 (Tr.re
  (AV.agg [AV.str (bA x0).1.1,AV.str (bA x0).1.2.1,AV.str (bA x0).1.2.2.1,AV.sl Sh.str (bA x0).1.2.2.2.1,AV.sl zi (bA x0).1.2.2.2.2.1,AV.str (bA x0).1.2.2.2.2.2.1,AV.sl Sh.str (bA x0).1.2.2.2.2.2.2.1,AV.sl (Sh.str.pr Sh.str) (bA x0).1.2.2.2.2.2.2.2.1,AV.str (ze.op (bA x0).1.2.2.2.2.2.2.2.2.1),
  AV.int .i64 (ze.v (bA x0).1.2.2.2.2.2.2.2.2.1).1,AV.int .i64 (ze.v (bA x0).1.2.2.2.2.2.2.2.2.1).2.1,AV.str (ze.v (bA x0).1.2.2.2.2.2.2.2.2.1).2.2,AV.str (ze.s (bA x0).1.2.2.2.2.2.2.2.2.1),AV.sl Sh.expr (ze.l (bA x0).1.2.2.2.2.2.2.2.2.1),AV.sl zf (bA x0).1.2.2.2.2.2.2.2.2.2.1,AV.sl (Sh.str.pr Sh.expr) (bA x0).1.2.2.2.2.2.2.2.2.2.2.1,
  AV.str (ze.op (bA x0).1.2.2.2.2.2.2.2.2.2.2.2.1),AV.int .i64 (ze.v (bA x0).1.2.2.2.2.2.2.2.2.2.2.2.1).1,AV.int .i64 (ze.v (bA x0).1.2.2.2.2.2.2.2.2.2.2.2.1).2.1,AV.str (ze.v (bA x0).1.2.2.2.2.2.2.2.2.2.2.2.1).2.2,AV.str (ze.s (bA x0).1.2.2.2.2.2.2.2.2.2.2.2.1),AV.sl Sh.expr (ze.l (bA x0).1.2.2.2.2.2.2.2.2.2.2.2.1),
  AV.str (bA x0).1.2.2.2.2.2.2.2.2.2.2.2.2])
  [])
noncomputable def Zr (x0:Sem Sh.str):=ap [zx] t0 100000000 (zcO x0)
noncomputable def Vc:=FT [Sh.str] [zx] fun x=>Zr x.1
theorem QH:FK 32 Vc:=Gg.T1 (f:=Tryz.f32) (keep:=k0) (e:=e0)


noncomputable def NU:zB:=zP (List.replicate 1 none) (bH xZ Tryz.f133 (List.replicate 1 none))
theorem Li:FK 133 NU:=ac _ nc (aG (by kernel_rfl))

noncomputable def Of:zB:=zP (List.replicate 2 none) (bH xZ Tryz.f202 (List.replicate 2 none))
theorem LH:FK 202 Of:=ac _ nc (aG (by kernel_rfl))

noncomputable def CD:=xZ.addL [(133,NU),(202,Of)]
theorem sW:zm CD:=nc.addL <| fc Li <| fc LH <|  g6

noncomputable def NW:zB:=zP (List.replicate 3 none) (bH CD Tryz.f134 (List.replicate 3 none))
theorem Lk:FK 134 NW:=ac _ sW (aG (by kernel_rfl))

noncomputable def sX:=CD.add 134 NW
theorem sY:zm sX:=sW.add Lk

abbrev Ja:=kP [(1,[0,1,2,3,8]),(4,[0,1,2,3,8,9])]
inductive pV where
 | h1 (i1:Int) (i2:Int) (i3f_0_0:Int) (i8:Int) (lh_0:List (Sem zf.sl))
 | h4 (i1:Int) (i2:Int) (i3f_0_0:Int) (i8:Int) (i9:Int) (lh_0:List (Sem zf.sl))
abbrev AR:pV→Nat×St
 | .h1 i1 i2 i3f_0_0 i8 lh_0=>(1,⟨tm 53 [(0,AV.vec 0),(1,AV.int .i64 i1),(2,AV.int .i64 i2),(3,AV.clo (Fn.func 134) [AV.agg [AV.int .i64 i3f_0_0]] []),(8,AV.int .i64 i8)],[AO.vec zf.sl lh_0]⟩)
 | .h4 i1 i2 i3f_0_0 i8 i9 lh_0=>(4,⟨tm 53 [(0,AV.vec 0),(1,AV.int .i64 i1),(2,AV.int .i64 i2),(3,AV.clo (Fn.func 134) [AV.agg [AV.int .i64 i3f_0_0]] []),(8,AV.int .i64 i8),(9,AV.int .i64 i9)],[AO.vec zf.sl lh_0]⟩)
theorem Tl:zz sX.P 248 Tryz.f248 4:=aG (by kernel_rfl)
noncomputable def Ev (l:List (List (Sem zf))) (a:Int) (b:Int) (k:Int):Tr (pV ⊕ ag):=
 Tr.to (pV.h1 a b k (IntKind.i64.wrap (a+1)) l)
theorem Sj (l:List (List (Sem zf))) (a:Int) (b:Int) (k:Int):rn sX 1 Ja Tryz.f248 [AV.vec 0,AV.int .i64 a,AV.int .i64 b,AV.clo (Fn.func 134) [AV.agg [AV.int .i64 k]] []] [AO.vec (Sh.sl zf) l]=(Ev l a b k).map (lf Tryz.f248 AR):=by kernel_rfl
noncomputable def mS:pV→Tr (pV ⊕ ag)
 | .h1 i1 i2 i3f_0_0 i8 lh_0=>
  Tr.br (decide (i8 < i2)) (Tr.to (pV.h4 i1 i2 i3f_0_0 i8 i8 lh_0))
  (Tr.re (AV.tup []) [AO.vec zf.sl lh_0])
 | .h4 i1 i2 i3f_0_0 i8 i9 lh_0=>
  let a0:=decide (i9.toNat < lh_0.length)
  let a1:=IntKind.i64.wrap (i9 - 1)
  let a2:=zJ a1 lh_0.length
  let a3:=decide (a1.toNat < lh_0.length)
  let a4:=decide (i3f_0_0 < 0)
  let a5:=lh_0.getD i9.toNat (zj zf.sl)
  let a6:=(↑(length a5):Int)
  let a7:=bif a4 then true else decide (i3f_0_0 ≥ a6)
  let a8:=lh_0.getD a1.toNat (zj zf.sl)
  let a9:=(↑(length a8):Int)
  let a10:=bif a4 then true else decide (i3f_0_0 ≥ a9)
  let a11:=bif a10 then true else zJ i3f_0_0 (length a8)
  let a12:=getD a8 i3f_0_0.toNat (zj zf)
  let a13:=getD a5 i3f_0_0.toNat (zj zf)
  let a14:=bif a7 then bif a10 then aP (0,0,[]) (0,0,[]) else aP (0,0,[]) a12 else bif a10 then aP a13 (0,0,[]) else aP a13 a12
  let a15:=lh_0.set i9.toNat a8
  Tr.chk (bif decide (i9 > i1) then zJ i9 lh_0.length&&(a0&&(a2&&(a3&&bif a7 then a11 else zJ i3f_0_0 (length a5)&&a11))) else true)
  (Tr.br (bif decide (i9 > i1) then decide (a14 < 0) else false) (Tr.chk a2 (Tr.chk a3 (Tr.chk (zJ i9 lh_0.length) (Tr.chk a0 (Tr.chk (zJ i9 lh_0.length) (Tr.chk a0 (Tr.chk (zJ a1 a15.length) (Tr.chk (decide (a1.toNat < a15.length)) (Tr.to (pV.h4 i1 i2 i3f_0_0 i8 a1 (a15.set a1.toNat a5))))))))))) (Tr.to (pV.h1 i1 i2 i3f_0_0 (IntKind.i64.wrap (i8+1)) lh_0)))
theorem Tw:∀ s,run sX 1 Ja (Func.results Tryz.f248).toList 400 (zw Tryz.f248 (AR s).1) (AR s).2=(mS s).map (lf Tryz.f248 AR):=by intro s; cases s <;> kernel_rfl
noncomputable def C2 (l:List (List (Sem zf))) (a:Int) (b:Int) (k:Int):=cx mS 100000000 (Ev l a b k)


def Ag (r:Option ag):Option (List (List (Sem zf))):=match r with
 | some (.tup [],[.vec (.sl uc) l])=>some l
 | _=>none
theorem mv {r:Option ag} (h:(Ag r).isSome=true):r=some (.tup [],[.vec (.sl zf) ((Ag r).getD [])]):=by
 unfold Ag at h ⊢
 split at h
 ·rfl
 ·cases h
noncomputable def pt (l:List (List (Sem zf))) (a b k:Int):=Ag (C2 l a b k)
noncomputable def OI:cg [none,none,none,none]:=fun x h=>match x,h with
 | (.vec 0,.int .i64 a,.int .i64 b,.clo (.func 134) [.agg [.int .i64 k]] [],_),[.vec (.sl uc) l]=>.chk ((pt l a b k).isSome) (.ok (.tup [],[.vec (.sl zf) ((pt l a b k).getD [])]))
 | _,_=>.err
noncomputable def Oi:zB:=zP [none,none,none,none] OI
theorem LL:FK 248 Oi:=by
 refine fM (ι:=List (List (Sem zf))×Int×Int×Int) (args:=fun y=>[AV.vec 0,AV.int .i64 y.2.1,AV.int .i64 y.2.2.1,AV.clo (Fn.func 134) [AV.agg [AV.int .i64 y.2.2.2]] []]) (heap:=fun y=>[AO.vec zf.sl y.1]) (i:=fun y=>Ev y.1 y.2.1 y.2.2.1 y.2.2.2) (t:=mS) (e:=AR) (n:=100000000) (n0:=1) sY Tl (fun _=>rfl) (fun y=>Sj _ _ _ _) Tw (fun x h res hv=>?_)
 unfold OI at hv
 split at hv
 ·rename_i a b k u l
  simp only [Tr.val] at hv
  split at hv
  ·rename_i h1
   simp only [ae] at hv
   subst hv
   exact ⟨(l,a,b,k),rfl,rfl,mv h1⟩
  ·cases hv
 ·simp at hv

noncomputable def sZ:=sX.add 248 Oi
theorem s9:zm sZ:=sY.add LL
noncomputable section

abbrev Jd:=kP [(1,[0,1,2,3,10])]
inductive vT where
 | h1 (i1:Int) (i2:Int) (i3:Int) (i10:Int) (lh_0:List (Sem zf.sl))
abbrev AU:vT→Nat×St
 | .h1 i1 i2 i3 i10 lh_0=>(1,⟨tm 38 [(0,AV.vec 0),(1,AV.int .i64 i1),(2,AV.int .i64 i2),(3,AV.int .i64 i3),(10,AV.int .i64 i10)],[AO.vec zf.sl lh_0]⟩)
theorem Tn:zz sZ.P 293 Tryz.f293 5:=aG (by kernel_rfl)
def IK (l:List (List (Sem zf))) (a:Int) (b:Int) (n:Int) (_:Int):Tr (vT ⊕ ag):=
 Tr.to (vT.h1 a b n 0 l)
theorem Sp (l:List (List (Sem zf))) (a:Int) (b:Int) (n:Int) (k:Int):rn sZ 1 Jd Tryz.f293 [AV.vec 0,AV.int .i64 a,AV.int .i64 b,AV.int .i64 n,AV.clo (Fn.func 134) [AV.agg [AV.int .i64 k]] []] [AO.vec (Sh.sl zf) l]=(IK l a b n k).map (lf Tryz.f293 AU):=by kernel_rfl
def xn:vT→Tr (vT ⊕ ag)
 | .h1 i1 i2 i3 i10 lh_0=>
  let a0:=IntKind.i64.wrap (i2+i10)
  let a1:=IntKind.i64.wrap (i1+i10)
  let a2:=zJ a1 lh_0.length
  let a3:=decide (a1.toNat < lh_0.length)
  let a4:=lh_0.set a1.toNat (lh_0.getD a0.toNat (zj zf.sl))
  Tr.br (decide (i10 < i3))
  (Tr.chk (zJ a0 lh_0.length) (Tr.chk (decide (a0.toNat < lh_0.length)) (Tr.chk a2 (Tr.chk a3 (Tr.chk a2 (Tr.chk a3 (Tr.chk (zJ a0 a4.length) (Tr.chk (decide (a0.toNat < a4.length)) (Tr.to (vT.h1 i1 i2 i3 (IntKind.i64.wrap (i10+1)) (a4.set a0.toNat (lh_0.getD a1.toNat (zj zf.sl)))))))))))))
  (Tr.re (AV.tup []) [AO.vec zf.sl lh_0])
theorem Tz:∀ s,run sZ 1 Jd (Func.results Tryz.f293).toList 400 (zw Tryz.f293 (AU s).1) (AU s).2=(xn s).map (lf Tryz.f293 AU):=by intro s; cases s <;> kernel_rfl
def zaO (l:List (List (Sem zf))) (a:Int) (b:Int) (n:Int) (k:Int):=cx xn 100000000 (IK l a b n k)

def DK (l:List (List (Sem zf))) (a b n k:Int):=Ag (zaO l a b n k)
def OK:cg [none,none,none,none,none]:=fun x h=>match x,h with
 | (.vec 0,.int .i64 a,.int .i64 b,.int .i64 n,.clo (.func 134) [.agg [.int .i64 k]] [],_),[.vec (.sl uc) l]=>.chk ((DK l a b n k).isSome) (.ok (.tup [],[.vec (.sl zf) ((DK l a b n k).getD [])]))
 | _,_=>.err
def Oq:zB:=zP [none,none,none,none,none] OK
theorem LU:FK 293 Oq:=by
 refine fM (ι:=List (List (Sem zf))×Int×Int×Int×Int) (args:=fun y=>[AV.vec 0,AV.int .i64 y.2.1,AV.int .i64 y.2.2.1,AV.int .i64 y.2.2.2.1,AV.clo (Fn.func 134) [AV.agg [AV.int .i64 y.2.2.2.2]] []]) (heap:=fun y=>[AO.vec zf.sl y.1]) (i:=fun y=>IK y.1 y.2.1 y.2.2.1 y.2.2.2.1 y.2.2.2.2) (t:=xn) (e:=AU) (n:=100000000) (n0:=1) s9 Tn (fun _=>rfl) (fun y=>Sp _ _ _ _ _) Tz (fun x h res hv=>?_)
 unfold OK at hv
 split at hv
 ·rename_i a b n k u l
  simp only [Tr.val] at hv
  split at hv
  ·rename_i h1
   simp only [ae] at hv
   subst hv
   exact ⟨(l,a,b,n,k),rfl,rfl,mv h1⟩
  ·cases hv
 ·simp at hv

def Bc:=sZ.add 293 Oq
theorem wF:zm Bc:=s9.add LU
end
noncomputable section

abbrev Jc:=kP [(2,[0,2,4,10,11])]
inductive rL where
 | h2 (i2:Int) (i4f_0_0:Int) (i10:Int) (i11:Int) (lh_0:List (Sem zf.sl))
abbrev AT:rL→Nat×St
 | .h2 i2 i4f_0_0 i10 i11 lh_0=>(2,⟨tm 58 [(0,AV.vec 0),(2,AV.int .i64 i2),(4,AV.clo (Fn.func 134) [AV.agg [AV.int .i64 i4f_0_0]] []),(10,AV.int .i64 i10),(11,AV.int .i64 i11)],[AO.vec zf.sl lh_0]⟩)
theorem Tm:zz Bc.P 277 Tryz.f277 5:=aG (by kernel_rfl)
def Ew (l:List (List (Sem zf))) (a:Int) (m:Int) (b:Int) (k:Int):Tr (rL ⊕ ag):=
 Tr.to (rL.h2 m k (IntKind.i64.wrap (m - a)) (IntKind.i64.wrap (b - m)) l)
theorem So (l:List (List (Sem zf))) (a:Int) (m:Int) (b:Int) (k:Int):rn Bc 1 Jc Tryz.f277 [AV.vec 0,AV.int .i64 a,AV.int .i64 m,AV.int .i64 b,AV.clo (Fn.func 134) [AV.agg [AV.int .i64 k]] []] [AO.vec (Sh.sl zf) l]=(Ew l a m b k).map (lf Tryz.f277 AT):=by kernel_rfl
def uN:rL→Tr (rL ⊕ ag)
 | .h2 i2 i4f_0_0 i10 i11 lh_0=>
  let a0:=IntKind.i64.wrap (i2 - i10)
  let a1:=DK lh_0 a0 i2 i11 i4f_0_0
  let a2:=DK lh_0 a0 (IntKind.i64.wrap (IntKind.i64.wrap (i2+i11) - i10)) i10 i4f_0_0
  let a3:=DK lh_0 a0 i2 i10 i4f_0_0
  Tr.br (i10 != i11)
  (Tr.br (decide (i10 > i11)) (Tr.chk a1.isSome (Tr.to (rL.h2 i2 i4f_0_0 (IntKind.i64.wrap (i10 - i11)) i11 (a1.getD [])))) (Tr.chk a2.isSome (Tr.to (rL.h2 i2 i4f_0_0 i10 (IntKind.i64.wrap (i11 - i10)) (a2.getD [])))))
  (Tr.chk a3.isSome (Tr.re (AV.tup []) [AO.vec zf.sl (a3.getD [])]))
theorem Ty:∀ s,run Bc 1 Jc (Func.results Tryz.f277).toList 400 (zw Tryz.f277 (AT s).1) (AT s).2=(uN s).map (lf Tryz.f277 AT):=by intro s; cases s <;> kernel_rfl
def TU (l:List (List (Sem zf))) (a:Int) (m:Int) (b:Int) (k:Int):=cx uN 100000000 (Ew l a m b k)

def GQ (l:List (List (Sem zf))) (a m b k:Int):=Ag (TU l a m b k)
def OJ:cg [none,none,none,none,none]:=fun x h=>match x,h with
 | (.vec 0,.int .i64 a,.int .i64 m,.int .i64 b,.clo (.func 134) [.agg [.int .i64 k]] [],_),[.vec (.sl uc) l]=>.chk ((GQ l a m b k).isSome) (.ok (.tup [],[.vec (.sl zf) ((GQ l a m b k).getD [])]))
 | _,_=>.err
def Om:zB:=zP [none,none,none,none,none] OJ
theorem LP:FK 277 Om:=by
 refine fM (ι:=List (List (Sem zf))×Int×Int×Int×Int) (args:=fun y=>[AV.vec 0,AV.int .i64 y.2.1,AV.int .i64 y.2.2.1,AV.int .i64 y.2.2.2.1,AV.clo (Fn.func 134) [AV.agg [AV.int .i64 y.2.2.2.2]] []]) (heap:=fun y=>[AO.vec zf.sl y.1]) (i:=fun y=>Ew y.1 y.2.1 y.2.2.1 y.2.2.2.1 y.2.2.2.2) (t:=uN) (e:=AT) (n:=100000000) (n0:=1) wF Tm (fun _=>rfl) (fun y=>So _ _ _ _ _) Ty (fun x h res hv=>?_)
 unfold OJ at hv
 split at hv
 ·rename_i a m b k u l
  simp only [Tr.val] at hv
  split at hv
  ·rename_i h1
   simp only [ae] at hv
   subst hv
   exact ⟨(l,a,m,b,k),rfl,rfl,mv h1⟩
  ·cases hv
 ·simp at hv

def El:=Bc.add 277 Om
theorem wG:zm El:=wF.add LP
end
noncomputable section
abbrev SM:=List (List (Sem zf))→Int→Int→Int→Int→Option (List (List (Sem zf)))
def GSm (o:SM):cg [none,none,none,none,none]:=fun x h=>match x,h with
 | (.vec 0,.int .i64 a,.int .i64 m,.int .i64 b,.clo (.func 134) [.agg [.int .i64 k]] [],_),[.vec (.sl uc) l]=>.chk ((o l a m b k).isSome) (.ok (.tup [],[.vec (.sl zf) ((o l a m b k).getD [])]))
 | _,_=>.err
def FSm (o:SM):zB:=zP [none,none,none,none,none] (GSm o)
def sG (o:SM):bb:=El.add 249 (FSm o)
theorem CC {o:SM} (h:FK 249 (FSm o)):zm (sG o):=wG.add h

abbrev Jb:=kP [(3,[0,1,4,10,11]),(9,[0,10,13]),(15,[0,2,4,14,15]),(21,[0,14,17]),(33,[0,1,2,3,4,18,19,20,21,22])]
inductive ft where
 | h3 (i1:Int) (i4f_0_0:Int) (i10:Int) (i11:Int) (lh_0:List (Sem zf.sl))
 | h15 (i2:Int) (i4f_0_0:Int) (i14:Int) (i15:Int) (lh_0:List (Sem zf.sl))
 | h33 (i1:Int) (i2:Int) (i3:Int) (i4f_0_0:Int) (i18:Int) (i19:Int) (i20:Int) (i21:Int) (i22:Int) (lh_0:List (Sem zf.sl))
 | h9 (i10:Int) (i13:Int) (lh_0:List (Sem zf.sl))
 | h21 (i14:Int) (i17:Int) (lh_0:List (Sem zf.sl))
abbrev AS:ft→Nat×St
 | .h3 i1 i4f_0_0 i10 i11 lh_0=>(3,⟨tm 220 [(0,AV.vec 0),(1,AV.int .i64 i1),(4,AV.clo (Fn.func 134) [AV.agg [AV.int .i64 i4f_0_0]] []),(10,AV.int .i64 i10),(11,AV.int .i64 i11)],[AO.vec zf.sl lh_0]⟩)
 | .h15 i2 i4f_0_0 i14 i15 lh_0=>(15,⟨tm 220 [(0,AV.vec 0),(2,AV.int .i64 i2),(4,AV.clo (Fn.func 134) [AV.agg [AV.int .i64 i4f_0_0]] []),(14,AV.int .i64 i14),(15,AV.int .i64 i15)],[AO.vec zf.sl lh_0]⟩)
 | .h33 i1 i2 i3 i4f_0_0 i18 i19 i20 i21 i22 lh_0=>(33,⟨tm 220 [(0,AV.vec 0),(1,AV.int .i64 i1),(2,AV.int .i64 i2),(3,AV.int .i64 i3),(4,AV.clo (Fn.func 134) [AV.agg [AV.int .i64 i4f_0_0]] []),(18,AV.int .i64 i18),(19,AV.int .i64 i19),(20,AV.int .i64 i20),(21,AV.int .i64 i21),(22,AV.int .i64 i22)],[AO.vec zf.sl lh_0]⟩)
 | .h9 i10 i13 lh_0=>(9,⟨tm 220 [(0,AV.vec 0),(10,AV.int .i64 i10),(13,AV.int .i64 i13)],[AO.vec zf.sl lh_0]⟩)
 | .h21 i14 i17 lh_0=>(21,⟨tm 220 [(0,AV.vec 0),(14,AV.int .i64 i14),(17,AV.int .i64 i17)],[AO.vec zf.sl lh_0]⟩)
theorem yv (o:SM):zz (sG o).P 249 Tryz.f249 5:=aG (by kernel_rfl)
def qm (_:SM) (l:List (List (Sem zf))) (a:Int) (m:Int) (b:Int) (k:Int):Tr (ft ⊕ ag):=
 let a0:=IntKind.i64.wrap (IntKind.u64.wrap (IntKind.i64.wrap (a+b)) / 2)
 let a1:=IntKind.i64.wrap (a0+m)
 let a2:=IntKind.i64.wrap (a1 - 1)
 Tr.br (IntKind.i64.wrap (m - a)==1) (Tr.to (ft.h3 a k m b l))
 (Tr.br (IntKind.i64.wrap (b - m)==1) (Tr.to (ft.h15 m k a m l))
  (Tr.chk true (Tr.br (decide (m > a0)) (Tr.to (ft.h33 a m b k a0 a1 (IntKind.i64.wrap (a1 - b)) a0 a2 l)) (Tr.to (ft.h33 a m b k a0 a1 a m a2 l)))))
theorem Sk (o:SM) (l:List (List (Sem zf))) (a:Int) (m:Int) (b:Int) (k:Int):rn (sG o) 1 Jb Tryz.f249 [AV.vec 0,AV.int .i64 a,AV.int .i64 m,AV.int .i64 b,AV.clo (Fn.func 134) [AV.agg [AV.int .i64 k]] []] [AO.vec (Sh.sl zf) l]=(qm o l a m b k).map (lf Tryz.f249 AS):=by kernel_rfl
def c5 (o:SM):ft→Tr (ft ⊕ ag)
 | .h3 i1 i4f_0_0 i10 i11 lh_0=>
  let a0:=IntKind.i64.wrap (IntKind.u64.wrap (IntKind.i64.wrap (i10+i11)) / 2)
  let a1:=decide (i4f_0_0 < 0)
  let a2:=lh_0.getD a0.toNat (zj zf.sl)
  let a3:=(↑(length a2):Int)
  let a4:=bif a1 then true else decide (i4f_0_0 ≥ a3)
  let a5:=lh_0.getD i1.toNat (zj zf.sl)
  let a6:=(↑(length a5):Int)
  let a7:=bif a1 then true else decide (i4f_0_0 ≥ a6)
  let a8:=bif a7 then true else zJ i4f_0_0 (length a5)
  let a9:=getD a5 i4f_0_0.toNat (zj zf)
  let a10:=getD a2 i4f_0_0.toNat (zj zf)
  let a11:=bif a4 then bif a7 then aP (0,0,[]) (0,0,[]) else aP (0,0,[]) a9 else bif a7 then aP a10 (0,0,[]) else aP a10 a9
  Tr.br (decide (i10 < i11))
  (Tr.chk true (Tr.chk (zJ a0 lh_0.length) (Tr.chk (decide (a0.toNat < lh_0.length)) (Tr.chk (zJ i1 lh_0.length) (Tr.chk (decide (i1.toNat < lh_0.length)) (Tr.chk (bif a4 then a8 else zJ i4f_0_0 (length a2)&&a8) (Tr.br (decide (a11 < 0)) (Tr.to (ft.h3 i1 i4f_0_0 (IntKind.i64.wrap (a0+1)) i11 lh_0)) (Tr.to (ft.h3 i1 i4f_0_0 i10 a0 lh_0)))))))))
  (Tr.to (ft.h9 i10 i1 lh_0))
 | .h15 i2 i4f_0_0 i14 i15 lh_0=>
  let a0:=IntKind.i64.wrap (IntKind.u64.wrap (IntKind.i64.wrap (i14+i15)) / 2)
  let a1:=decide (i4f_0_0 < 0)
  let a2:=lh_0.getD i2.toNat (zj zf.sl)
  let a3:=(↑(length a2):Int)
  let a4:=bif a1 then true else decide (i4f_0_0 ≥ a3)
  let a5:=lh_0.getD a0.toNat (zj zf.sl)
  let a6:=(↑(length a5):Int)
  let a7:=bif a1 then true else decide (i4f_0_0 ≥ a6)
  let a8:=bif a7 then true else zJ i4f_0_0 (length a5)
  let a9:=getD a5 i4f_0_0.toNat (zj zf)
  let a10:=getD a2 i4f_0_0.toNat (zj zf)
  let a11:=bif a4 then bif a7 then aP (0,0,[]) (0,0,[]) else aP (0,0,[]) a9 else bif a7 then aP a10 (0,0,[]) else aP a10 a9
  Tr.br (decide (i14 < i15))
  (Tr.chk true (Tr.chk (zJ i2 lh_0.length) (Tr.chk (decide (i2.toNat < lh_0.length)) (Tr.chk (zJ a0 lh_0.length) (Tr.chk (decide (a0.toNat < lh_0.length)) (Tr.chk (bif a4 then a8 else zJ i4f_0_0 (length a2)&&a8) (Tr.br (!decide (a11 < 0)) (Tr.to (ft.h15 i2 i4f_0_0 (IntKind.i64.wrap (a0+1)) i15 lh_0)) (Tr.to (ft.h15 i2 i4f_0_0 i14 a0 lh_0)))))))))
  (Tr.to (ft.h21 i14 i2 lh_0))
 | .h33 i1 i2 i3 i4f_0_0 i18 i19 i20 i21 i22 lh_0=>
  let a0:=IntKind.i64.wrap (IntKind.u64.wrap (IntKind.i64.wrap (i20+i21)) / 2)
  let a1:=IntKind.i64.wrap (i22 - a0)
  let a2:=decide (i4f_0_0 < 0)
  let a3:=lh_0.getD a1.toNat (zj zf.sl)
  let a4:=(↑(length a3):Int)
  let a5:=bif a2 then true else decide (i4f_0_0 ≥ a4)
  let a6:=lh_0.getD a0.toNat (zj zf.sl)
  let a7:=(↑(length a6):Int)
  let a8:=bif a2 then true else decide (i4f_0_0 ≥ a7)
  let a9:=bif a8 then true else zJ i4f_0_0 (length a6)
  let a10:=getD a6 i4f_0_0.toNat (zj zf)
  let a11:=getD a3 i4f_0_0.toNat (zj zf)
  let a12:=bif a5 then bif a8 then aP (0,0,[]) (0,0,[]) else aP (0,0,[]) a10 else bif a8 then aP a11 (0,0,[]) else aP a11 a10
  let a13:=IntKind.i64.wrap (i19 - i20)
  let a14:=GQ lh_0 i20 i2 a13 i4f_0_0
  let a15:=bif decide (i1 < i20) then decide (i20 < i18) else false
  let a16:=a14.getD []
  let a17:=o a16 i1 i20 i18 i4f_0_0
  let a18:=bif decide (i18 < a13) then decide (a13 < i3) else false
  let a19:=a17.getD []
  let a20:=o a19 i18 a13 i3 i4f_0_0
  let a21:=o a16 i18 a13 i3 i4f_0_0
  let a22:=o lh_0 i1 i20 i18 i4f_0_0
  let a23:=a22.getD []
  let a24:=o a23 i18 a13 i3 i4f_0_0
  let a25:=o lh_0 i18 a13 i3 i4f_0_0
  Tr.br (decide (i20 < i21))
  (Tr.chk true (Tr.chk (zJ a1 lh_0.length) (Tr.chk (decide (a1.toNat < lh_0.length)) (Tr.chk (zJ a0 lh_0.length) (Tr.chk (decide (a0.toNat < lh_0.length)) (Tr.chk (bif a5 then a9 else zJ i4f_0_0 (length a3)&&a9) (Tr.br (!decide (a12 < 0)) (Tr.to (ft.h33 i1 i2 i3 i4f_0_0 i18 i19 (IntKind.i64.wrap (a0+1)) i21 i22 lh_0))
  (Tr.to (ft.h33 i1 i2 i3 i4f_0_0 i18 i19 i20 a0 i22 lh_0)))))))))
  (Tr.br (bif decide (i20 < i2) then decide (i2 < a13) else false) (Tr.chk a14.isSome (Tr.br a15 (Tr.chk a17.isSome (Tr.br a18 (Tr.chk a20.isSome (Tr.re (AV.tup []) [AO.vec zf.sl (a20.getD [])])) (Tr.re (AV.tup []) [AO.vec zf.sl a19]))) (Tr.br a18 (Tr.chk a21.isSome (Tr.re (AV.tup []) [AO.vec zf.sl (a21.getD [])])) (Tr.re (AV.tup []) [AO.vec zf.sl a16])))) (Tr.br a15
  (Tr.chk a22.isSome (Tr.br a18 (Tr.chk a24.isSome (Tr.re (AV.tup []) [AO.vec zf.sl (a24.getD [])])) (Tr.re (AV.tup []) [AO.vec zf.sl a23]))) (Tr.br a18 (Tr.chk a25.isSome (Tr.re (AV.tup []) [AO.vec zf.sl (a25.getD [])])) (Tr.re (AV.tup []) [AO.vec zf.sl lh_0]))))
 | .h9 i10 i13 lh_0=>
  let a0:=IntKind.i64.wrap (i10 - 1)
  let a1:=IntKind.i64.wrap (i13+1)
  let a2:=decide (i13.toNat < lh_0.length)
  let a3:=lh_0.set i13.toNat (lh_0.getD a1.toNat (zj zf.sl))
  Tr.br (decide (i13 < a0))
  (Tr.chk (zJ a1 lh_0.length) (Tr.chk (decide (a1.toNat < lh_0.length)) (Tr.chk (zJ i13 lh_0.length) (Tr.chk a2 (Tr.chk (zJ i13 lh_0.length) (Tr.chk a2 (Tr.chk (zJ a1 a3.length) (Tr.chk (decide (a1.toNat < a3.length)) (Tr.to (ft.h9 i10 a1 (a3.set a1.toNat (lh_0.getD i13.toNat (zj zf.sl)))))))))))))
  (Tr.re (AV.tup []) [AO.vec zf.sl lh_0])
 | .h21 i14 i17 lh_0=>
  let a0:=IntKind.i64.wrap (i17 - 1)
  let a1:=decide (i17.toNat < lh_0.length)
  let a2:=lh_0.set i17.toNat (lh_0.getD a0.toNat (zj zf.sl))
  Tr.br (decide (i17 > i14))
  (Tr.chk (zJ a0 lh_0.length) (Tr.chk (decide (a0.toNat < lh_0.length)) (Tr.chk (zJ i17 lh_0.length) (Tr.chk a1 (Tr.chk (zJ i17 lh_0.length) (Tr.chk a1 (Tr.chk (zJ a0 a2.length) (Tr.chk (decide (a0.toNat < a2.length)) (Tr.to (ft.h21 i14 a0 (a2.set a0.toNat (lh_0.getD i17.toNat (zj zf.sl)))))))))))))
  (Tr.re (AV.tup []) [AO.vec zf.sl lh_0])
theorem Tx (o:SM):∀ s,run (sG o) 1 Jb (Func.results Tryz.f249).toList 400 (zw Tryz.f249 (AS s).1) (AS s).2=(c5 o s).map (lf Tryz.f249 AS):=by intro s; cases s <;> kernel_rfl

def smS (o:SM):SM:=fun l a m b k=>Ag (cx (c5 o) 100000000 (qm o l a m b k))
def uK:Nat→SM
 | 0=>fun _ _ _ _ _=>none
 | n+1=>smS (uK n)
theorem DY:∀ n,FK 249 (FSm (uK n))
 | 0=>eE (E:=El) ⟨Tryz.f249,(yv (uK 0)).1,(yv (uK 0)).2.1,(yv (uK 0)).2.2.1⟩ fun x h0 res h=>by
  exfalso
  unfold GSm at h
  split at h
  ·simp [uK,Tr.val] at h
  ·simp at h
 | n+1=>by
  refine fM (E:=sG (uK n)) (ι:=List (List (Sem zf))×Int×Int×Int×Int) (args:=fun y=>[AV.vec 0,AV.int .i64 y.2.1,AV.int .i64 y.2.2.1,AV.int .i64 y.2.2.2.1,AV.clo (Fn.func 134) [AV.agg [AV.int .i64 y.2.2.2.2]] []]) (heap:=fun y=>[AO.vec zf.sl y.1]) (i:=fun y=>qm (uK n) y.1 y.2.1 y.2.2.1 y.2.2.2.1 y.2.2.2.2) (t:=c5 (uK n)) (e:=AS) (n:=100000000) (n0:=1) (CC (DY n)) (yv (uK n)) (fun _=>rfl) (fun y=>Sk _ _ _ _ _ _) (Tx (uK n)) (fun x h res hv=>?_)
  unfold GSm at hv
  split at hv
  ·rename_i a m b k u l
   simp only [Tr.val] at hv
   split at hv
   ·rename_i h1
    simp only [ae] at hv
    subst hv
    exact ⟨(l,a,m,b,k),rfl,rfl,mv h1⟩
   ·cases hv
  ·simp at hv
def Oj:zB:=FSm (uK 16)
theorem LM:FK 249 Oj:=DY 16

def Bd:=El.add 249 Oj
theorem wH:zm Bd:=wG.add LM
end
noncomputable section

abbrev I9:=kP [(2,[0,1,2,6,7,8]),(7,[0,1,2,6]),(9,[0,1,2,6,7,8])]
inductive kR where
 | h2 (i1:Int) (i2f_0_0:Int) (i6:Int) (i7:Int) (i8:Int) (lh_0:List (Sem zf.sl))
 | h7 (i1:Int) (i2f_0_0:Int) (i6:Int) (lh_0:List (Sem zf.sl))
 | h9 (i1:Int) (i2f_0_0:Int) (i6:Int) (i7:Int) (i8:Int) (lh_0:List (Sem zf.sl))
abbrev AP:kR→Nat×St
 | .h2 i1 i2f_0_0 i6 i7 i8 lh_0=>(2,⟨tm 63 [(0,AV.vec 0),(1,AV.int .i64 i1),(2,AV.clo (Fn.func 134) [AV.agg [AV.int .i64 i2f_0_0]] []),(6,AV.int .i64 i6),(7,AV.int .i64 i7),(8,AV.int .i64 i8)],[AO.vec zf.sl lh_0]⟩)
 | .h7 i1 i2f_0_0 i6 lh_0=>(7,⟨tm 63 [(0,AV.vec 0),(1,AV.int .i64 i1),(2,AV.clo (Fn.func 134) [AV.agg [AV.int .i64 i2f_0_0]] []),(6,AV.int .i64 i6)],[AO.vec zf.sl lh_0]⟩)
 | .h9 i1 i2f_0_0 i6 i7 i8 lh_0=>(9,⟨tm 63 [(0,AV.vec 0),(1,AV.int .i64 i1),(2,AV.clo (Fn.func 134) [AV.agg [AV.int .i64 i2f_0_0]] []),(6,AV.int .i64 i6),(7,AV.int .i64 i7),(8,AV.int .i64 i8)],[AO.vec zf.sl lh_0]⟩)
theorem Tj:zz Bd.P 201 Tryz.f201 3:=aG (by kernel_rfl)
def II (l:List (List (Sem zf))) (n:Int) (k:Int):Tr (kR ⊕ ag):=
 Tr.to (kR.h2 n k 20 0 20 l)
theorem Sg (l:List (List (Sem zf))) (n:Int) (k:Int):rn Bd 1 I9 Tryz.f201 [AV.vec 0,AV.int .i64 n,AV.clo (Fn.func 134) [AV.agg [AV.int .i64 k]] []] [AO.vec (Sh.sl zf) l]=(II l n k).map (lf Tryz.f201 AP):=by kernel_rfl
def gz:kR→Tr (kR ⊕ ag)
 | .h2 i1 i2f_0_0 i6 i7 i8 lh_0=>
  let a0:=pt lh_0 i7 i8 i2f_0_0
  let a1:=pt lh_0 i7 i1 i2f_0_0
  Tr.br (decide (i8≤i1)) (Tr.chk a0.isSome (Tr.to (kR.h2 i1 i2f_0_0 i6 i8 (IntKind.i64.wrap (i8+i6)) (a0.getD []))))
  (Tr.chk a1.isSome (Tr.to (kR.h7 i1 i2f_0_0 i6 (a1.getD []))))
 | .h7 i1 i2f_0_0 i6 lh_0=>
  Tr.br (decide (i6 < i1)) (Tr.to (kR.h9 i1 i2f_0_0 i6 0 (IntKind.i64.wrap (2 * i6)) lh_0))
  (Tr.re (AV.tup []) [AO.vec zf.sl lh_0])
 | .h9 i1 i2f_0_0 i6 i7 i8 lh_0=>
  let a0:=IntKind.i64.wrap (i7+i6)
  let a1:=uK 16 lh_0 i7 a0 i8 i2f_0_0
  let a2:=uK 16 lh_0 i7 a0 i1 i2f_0_0
  let a3:=IntKind.i64.wrap (i6 * 2)
  Tr.br (decide (i8≤i1)) (Tr.chk a1.isSome (Tr.to (kR.h9 i1 i2f_0_0 i6 i8 (IntKind.i64.wrap (i8+IntKind.i64.wrap (2 * i6))) (a1.getD []))))
  (Tr.br (decide (a0 < i1)) (Tr.chk a2.isSome (Tr.to (kR.h7 i1 i2f_0_0 a3 (a2.getD [])))) (Tr.to (kR.h7 i1 i2f_0_0 a3 lh_0)))
theorem Tu:∀ s,run Bd 1 I9 (Func.results Tryz.f201).toList 400 (zw Tryz.f201 (AP s).1) (AP s).2=(gz s).map (lf Tryz.f201 AP):=by intro s; cases s <;> kernel_rfl
def PM (l:List (List (Sem zf))) (n:Int) (k:Int):=cx gz 100000000 (II l n k)

def B5 (l:List (List (Sem zf))) (n k:Int):=Ag (PM l n k)
def OG:cg [none,none,none]:=fun x h=>match x,h with
 | (.vec 0,.int .i64 n,.clo (.func 134) [.agg [.int .i64 k]] [],_),[.vec (.sl uc) l]=>.chk ((B5 l n k).isSome) (.ok (.tup [],[.vec (.sl zf) ((B5 l n k).getD [])]))
 | _,_=>.err
def Oe:zB:=zP [none,none,none] OG
theorem LG:FK 201 Oe:=by
 refine fM (ι:=List (List (Sem zf))×Int×Int) (args:=fun y=>[AV.vec 0,AV.int .i64 y.2.1,AV.clo (Fn.func 134) [AV.agg [AV.int .i64 y.2.2]] []]) (heap:=fun y=>[AO.vec zf.sl y.1]) (i:=fun y=>II y.1 y.2.1 y.2.2) (t:=gz) (e:=AP) (n:=100000000) (n0:=1) wH Tj (fun _=>rfl) (fun y=>Sg _ _ _) Tu (fun x h res hv=>?_)
 unfold OG at hv
 split at hv
 ·rename_i n k u l
  simp only [Tr.val] at hv
  split at hv
  ·rename_i h1
   simp only [ae] at hv
   subst hv
   exact ⟨(l,n,k),rfl,rfl,mv h1⟩
  ·cases hv
 ·simp at hv

def x3:=Bd.add 201 Oe
theorem ta:zm x3:=wH.add LG
end

abbrev SS:=kP []
theorem Tf:zz x3.P 132 Tryz.f132 2:=aG (by kernel_rfl)
noncomputable def Eu (l:List (List (Sem zf))) (k:Int):Tr (Empty ⊕ ag):=
 let a0:=B5 l (↑l.length:Int) k
 Tr.chk a0.isSome (Tr.re (AV.tup []) [AO.vec zf.sl (a0.getD [])])
theorem Sa (l:List (List (Sem zf))) (k:Int):rn x3 1 SS Tryz.f132 [AV.vec 0,AV.clo (Fn.func 134) [AV.agg [AV.int .i64 k]] []] [AO.vec (Sh.sl zf) l]=(Eu l k).map (lf Tryz.f132 e0):=by kernel_rfl
noncomputable def DH (l:List (List (Sem zf))) (k:Int):=cx t0 100000000 (Eu l k)

noncomputable def pO (l:List (List (Sem zf))) (k:Int):=Ag (DH l k)
noncomputable def OF:cg [none,none]:=fun x h=>match x,h with
 | (.vec 0,.clo (.func 134) [.agg [.int .i64 k]] [],_),[.vec (.sl uc) l]=>.chk ((pO l k).isSome) (.ok (.tup [],[.vec (.sl zf) ((pO l k).getD [])]))
 | _,_=>.err
noncomputable def NS:zB:=zP [none,none] OF
theorem Lg:FK 132 NS:=by
 refine fM (ι:=List (List (Sem zf))×Int) (args:=fun y=>[AV.vec 0,AV.clo (Fn.func 134) [AV.agg [AV.int .i64 y.2]] []]) (heap:=fun y=>[AO.vec zf.sl y.1]) (i:=fun y=>Eu y.1 y.2) (t:=t0) (e:=e0) (n:=100000000) (n0:=1) ta Tf (fun _=>rfl) (fun y=>Sa _ _) (G8 _ _ _ _ _) (fun x h res hv=>?_)
 unfold OF at hv
 split at hv
 ·rename_i k u l
  simp only [Tr.val] at hv
  split at hv
  ·rename_i h1
   simp only [ae] at hv
   subst hv
   exact ⟨(l,k),rfl,rfl,mv h1⟩
  ·cases hv
 ·simp at hv

noncomputable def H8:=x3.add 132 NS
theorem CE:zm H8:=ta.add Lg
noncomputable section

abbrev Jf:Nat→zT:=fun j=>if j=7 then { slots:=[1,2,34,35] } else { }
inductive FF where
 | h7 (i34:Int) (i35:Int) (ja0:Sem Sh.str) (ja2:Sem zg) (ja5:zq) (ja6:Int) (ja7:Int) (ja8:zq) (ja9:zq) (ja10:List (Sem Sh.expr)) (jb0:List UInt8) (jb2:Int) (jb5:List UInt8) (jb6:Int) (jb7:Int) (jb8:List UInt8) (jb9:List UInt8) (lh_2:List (Sem zi)) (lh_3:List (Sem zg)) (lh_4:List (Sem zo)) (lh_5:List (Sem zf.sl))
abbrev HP:FF→Nat×St
 | .h7 i34 i35 ja0 ja2 ja5 ja6 ja7 ja8 ja9 ja10 jb0 jb2 jb5 jb6 jb7 jb8 jb9 lh_2 lh_3 lh_4 lh_5=>(7,⟨tm 50 [(1,AV.ptr 0 0),(2,AV.ptr 1 0),(34,AV.int .i64 i34),(35,AV.int .i64 i35)],[AO.box [AV.str ja0,AV.vec 2,AV.int .i64 ja2,AV.vec 3,AV.vec 4,AV.str ja5,AV.int .i64 ja6,AV.int .i64 ja7,AV.str ja8,AV.str ja9,AV.sl Sh.expr ja10,AV.vec 5],AO.box [AV.str jb0,AV.nils,AV.int .i64 jb2,AV.nils,AV.nils,AV.str jb5,AV.int .i64 jb6,AV.int .i64 jb7,AV.str jb8,AV.str jb9,AV.nils,AV.nils],AO.vec zi lh_2,AO.vec zg lh_3,AO.vec zo lh_4,AO.vec zf.sl lh_5]⟩)
theorem ZX:zz A7.P 131 Tryz.f131 1:=aG (by kernel_rfl)
def MN (x0:Sem zh):Tr (FF ⊕ ag):=
 Tr.chk (decide (length x0.1.2.1≤1073741824))
 (Tr.chk (decide (length x0.1.2.2.2.1≤1073741824))
  (Tr.chk (decide (length x0.1.2.2.2.2.1≤1073741824)) (Tr.chk (kK 16 (zC x0.1.2.2.2.2.2)) (Tr.chk (decide (length x0.2≤1073741824)) (Tr.to (FF.h7 (↑(length x0.2):Int) 0 x0.1.1 x0.1.2.2.1 (ze.op x0.1.2.2.2.2.2) (ze.v x0.1.2.2.2.2.2).1 (ze.v x0.1.2.2.2.2.2).2.1 (ze.v x0.1.2.2.2.2.2).2.2
  (ze.s x0.1.2.2.2.2.2) (ze.l x0.1.2.2.2.2.2) [] 0 [] 0 0 [] [] x0.1.2.1 x0.1.2.2.2.1 x0.1.2.2.2.2.1 x0.2))))))
theorem Yg (x0:Sem zh):rn A7 0 Jf Tryz.f131 [zy zh x0] []=(MN x0).map (lf Tryz.f131 HP):=by kernel_rfl
def GY:FF→Tr (FF ⊕ ag)
 | .h7 i34 i35 ja0 ja2 ja5 ja6 ja7 ja8 ja9 ja10 jb0 jb2 jb5 jb6 jb7 jb8 jb9 lh_2 lh_3 lh_4 lh_5=>
  let a0:=decide (i35.toNat < lh_5.length)
  let a1:=lh_5.getD i35.toNat (zj zf.sl)
  Tr.br (decide (i35 < i34))
  (Tr.chk (zJ i35 lh_5.length)
   (Tr.chk a0 (Tr.chk (decide (length a1≤1073741824)) (Tr.chk (zJ i35 lh_5.length) (Tr.chk a0 (Tr.to (FF.h7 i34 (IntKind.i64.wrap (i35+1)) ja0 ja2 ja5 ja6 ja7 ja8 ja9 ja10 jb0 jb2 jb5 jb6 jb7 jb8 jb9 lh_2 lh_3 lh_4 (lh_5.set i35.toNat a1))))))))
  (Tr.re
   (AV.agg [AV.str ja0,AV.vec 0,AV.int .i64 ja2,AV.vec 1,AV.vec 2,AV.str ja5,AV.int .i64 ja6,AV.int .i64 ja7,AV.str ja8,AV.str ja9,AV.sl Sh.expr ja10,AV.vec 3])
   [AO.vec zi lh_2,AO.vec zg lh_3,AO.vec zo lh_4,AO.vec zf.sl lh_5])
theorem zau:∀ s,run A7 0 Jf (Func.results Tryz.f131).toList 400 (zw Tryz.f131 (HP s).1) (HP s).2=(GY s).map (lf Tryz.f131 HP)
 | .h7 i34 i35 ja0 ja2 ja5 ja6 ja7 ja8 ja9 ja10 jb0 jb2 jb5 jb6 jb7 jb8 jb9 lh_2 lh_3 lh_4 lh_5=>by kernel_rfl
end

def TR (ks:List Sh) (c:zu (ks.map some)→Bool) (g:zu (ks.map some)→ag):cg (ks.map some):=fun x h=>match h with
 | []=>.chk (c x) (.ok (g x))
 | _=>.err

theorem Rt {P:Program} {gl:Nat→AV} {σ:Type} {E:bb} {k:FuncId} {f:Func} {ks:List Sh} {keep:Nat→zT} {gas n:Nat} {e:σ→Nat×St} {t:σ→Tr (σ ⊕ ag)} {i:zu (ks.map some)→Tr (σ ⊕ ag)} {c:zu (ks.map some)→Bool} {g:zu (ks.map some)→ag}
  (hE:zm E) (hf:zz E.P k f ks.length) (hgo:∀ x,run E 0 keep f.results.toList gas (ao f) (zU f.ntmps (fv (ks.map some) x) [])=(i x).map (lf f e))
  (hon:∀ s,run E 0 keep f.results.toList gas (zw f (e s).1) (e s).2=(t s).map (lf f e))
  (hg:∀ x,c x=true→cx t n (i x)=some (g x)) (qp:E.P=P:=by rfl) (qg:E.gl=gl:=by rfl):kJ P gl k (zP (ks.map some) (TR ks c g)):=by
 subst qp qg
 refine bc (by simpa using hf) fun x h0 res hx C hC=>?_
 unfold TR at hx
 split at hx
 ·simp only [Tr.val] at hx
  split at hx
  ·rename_i hc
   simp only [ae] at hx
   subst hx
   exact js (n0:=0) hE (by simpa using hf) (fun id _=>hC id (be _)) (n+1) _ _ _ (by rw [ie hon (hgo x)]; exact hg x hc) rfl
  ·cases hx
 ·simp at hx

def Ct (x:Sem zh):ag:=(AV.agg [AV.str x.1.1,AV.vec 0,AV.int .i64 x.1.2.2.1,AV.vec 1,AV.vec 2,AV.str (ze.op x.1.2.2.2.2.2),AV.int .i64 (ze.v x.1.2.2.2.2.2).1,AV.int .i64 (ze.v x.1.2.2.2.2.2).2.1,AV.str (ze.v x.1.2.2.2.2.2).2.2,AV.str (ze.s x.1.2.2.2.2.2),AV.sl Sh.expr (ze.l x.1.2.2.2.2.2),AV.vec 3],
 [AO.vec zi x.1.2.1,AO.vec zg x.1.2.2.2.1,AO.vec zo x.1.2.2.2.2.1,AO.vec zf.sl x.2])

def Cr (x:Sem zh):Bool:=decide (length x.1.2.1≤1000000)&&decide (length x.1.2.2.2.1≤1000000)&&decide (length x.1.2.2.2.2.1≤1000000)&&kK 16 x.1.2.2.2.2.2&&decide (length x.2≤1000000)&&List.all x.2 (fun r=>decide (length r≤1000000))

theorem Kz {α:Type} (l:List α) (d:α) (i:Nat) (h:i < l.length):l.set i (l.getD i d)=l:=by
 rw [aB,zI h,bw]
 exact List.set_getElem_self h

theorem Mr (x:Sem zh) (hc:Cr x=true):cx GY 100000000 (MN x)=some (Ct x):=by
 unfold Cr at hc
 simp only [aE,ah,cA] at hc
 obtain ⟨⟨⟨⟨⟨h1,h2⟩,h3⟩,h4⟩,h5⟩,h6⟩:=hc
 have hl:=ju (t:=GY) (β:=Unit) (length x.2) (fun _ i=>.h7 (length x.2:Int) (i:Int) x.1.1 x.1.2.2.1 (ze.op x.1.2.2.2.2.2) (ze.v x.1.2.2.2.2.2).1 (ze.v x.1.2.2.2.2.2).2.1 (ze.v x.1.2.2.2.2.2).2.2
   (ze.s x.1.2.2.2.2.2) (ze.l x.1.2.2.2.2.2) [] 0 [] 0 0 [] [] x.1.2.1 x.1.2.2.2.1 x.1.2.2.2.2.1 x.2) (fun _ _=>True) (fun r=>r=Ct x) 1 (by
   intro b i hi _
   have hrow:length (getD x.2 i (zj zf.sl))≤1000000:=h6 _ (by rw [aB,zI hi,bw]; exact cR hi)
   simp only [GY,Tr.val,zV hi,zF hi,if_true,bP,bx hi,Kz _ _ _ hi]
   rw [zG i (by unfold zD; omega),if_pos (bx (by omega))]
   exact Or.inl ⟨(),trivial,rfl⟩) (by
   intro b n _ hn
   obtain ⟨n,rfl⟩:∃ k,n=k+1:=⟨n - 1,by omega⟩
   rw [jt]
   simp only [GY,Tr.val,af]
   exact ⟨_,rfl,rfl⟩) (length x.2) 0 () 100000000 rfl (be _) trivial (by omega)
 obtain ⟨r,hr,rfl⟩:=hl
 unfold cx
 have e1:decide (length x.1.2.1≤1073741824)=true:=bx (by omega)
 have e2:decide (length x.1.2.2.2.1≤1073741824)=true:=bx (by omega)
 have e3:decide (length x.1.2.2.2.2.1≤1073741824)=true:=bx (by omega)
 have e5:decide (length x.2≤1073741824)=true:=bx (by omega)
 simp only [MN,Tr.val,e1,e2,e3,e5,zt,h4,if_true]
 exact hr

noncomputable def Vt:zB:=zP ([zh].map some) (TR [zh] (fun x=>Cr x.1) (fun x=>Ct x.1))
theorem Q0:FK 131 Vt:=Rt (ks:=[zh]) (keep:=Jf) (gas:=400) (n:=100000000) (e:=HP) (t:=GY) (i:=fun x=>MN x.1) pm ZX (fun x=>Yg x.1) zau (fun x hc=>Mr x.1 hc)
noncomputable section
def H9:=H8.add 131 Vt
theorem tc:zm H9:=CE.add Q0

def Sz (x0:Sem zh):Tr (Empty ⊕ ag):=
 let a0:=(x0.1.1,x0.1.2.1,x0.1.2.2.1,x0.1.2.2.2.1,x0.1.2.2.2.2.1,zC x0.1.2.2.2.2.2)
 let a1:=pO x0.2 (-1)
 let a2:=pO x0.2 x0.1.2.2.1
 Tr.chk (Cr (a0,x0.2))
 (Tr.br (!kf a0)
  (Tr.chk a1.isSome (Tr.re (AV.agg [AV.str x0.1.1,AV.vec 0,AV.int .i64 x0.1.2.2.1,AV.vec 1,AV.vec 2,AV.str (ze.op x0.1.2.2.2.2.2),AV.int .i64 (ze.v x0.1.2.2.2.2.2).1,AV.int .i64 (ze.v x0.1.2.2.2.2.2).2.1,AV.str (ze.v x0.1.2.2.2.2.2).2.2,AV.str (ze.s x0.1.2.2.2.2.2),AV.sl Sh.expr (ze.l x0.1.2.2.2.2.2),AV.vec 3]) [AO.vec zi x0.1.2.1,AO.vec zg x0.1.2.2.2.1,
  AO.vec zo x0.1.2.2.2.2.1,AO.vec zf.sl (a1.getD [])]))
  (Tr.chk a2.isSome (Tr.re (AV.agg [AV.str x0.1.1,AV.vec 0,AV.int .i64 x0.1.2.2.1,AV.vec 1,AV.vec 2,AV.str (ze.op x0.1.2.2.2.2.2),AV.int .i64 (ze.v x0.1.2.2.2.2.2).1,AV.int .i64 (ze.v x0.1.2.2.2.2.2).2.1,AV.str (ze.v x0.1.2.2.2.2.2).2.2,AV.str (ze.s x0.1.2.2.2.2.2),AV.sl Sh.expr (ze.l x0.1.2.2.2.2.2),AV.vec 3]) [AO.vec zi x0.1.2.1,AO.vec zg x0.1.2.2.2.1,
  AO.vec zo x0.1.2.2.2.2.1,AO.vec zf.sl (a2.getD [])])))
def yO (x0:Sem zh):=ap [zh] t0 100000000 (Sz x0)
def DA (x0:Sem zh):=(yO x0).isSome
def Kj (x0:Sem zh):=o1 (yO x0)
def VJ:=FT [zh] [zh] fun x=>yO x.1
theorem Rh:FK 81 VJ:=tc.T1 (f:=Tryz.f81) (keep:=k0) (e:=e0)

def Ia:=H9.add 81 VJ
theorem td:zm Ia:=tc.add Rh
end

noncomputable def Sw (x0:Sem aU) (x1:Sem zh) (x2:Sem zg):Tr (Empty ⊕ ag):=
 let a0:=((x1.1.1,x1.1.2.1,x1.1.2.2.1,x1.1.2.2.2.1,x1.1.2.2.2.2.1,zC x1.1.2.2.2.2.2),x1.2)
 let a1:=Kj a0
 let a2:=((a1.1.1,a1.1.2.1,a1.1.2.2.1,a1.1.2.2.2.1,a1.1.2.2.2.2.1,zC a1.1.2.2.2.2.2),a1.2)
 let a3:=pI a2
 let a4:=cE a3
 let a5:=we x0.1 a2
 let a6:=wd a5 x2
 Tr.chk (DA a0)
 (Tr.chk (mf a2)
  (Tr.br (a3 != 0) (Tr.chk (su a3) (Tr.re (AV.tup [AV.sl zh a4.1,AV.agg [AV.int .i64 a4.2.1,AV.int .i64 a4.2.2.1,AV.sl zf.sl a4.2.2.2]]) [])) (Tr.chk (o5 x0.1 a2) (Tr.chk (o4 a5 x2) (Tr.re (AV.tup [AV.sl zh a6.1,AV.agg [AV.int .i64 a6.2.1,AV.int .i64 a6.2.2.1,AV.sl zf.sl a6.2.2.2]]) [])))))
noncomputable def jl (x0:Sem aU) (x1:Sem zh) (x2:Sem zg):=ap [zh.sl,eJ] t0 100000000 (Sw x0 x1 x2)
noncomputable def sn (x0:Sem aU) (x1:Sem zh) (x2:Sem zg):=(jl x0 x1 x2).isSome
noncomputable def xL (x0:Sem aU) (x1:Sem zh) (x2:Sem zg):=o2 (jl x0 x1 x2)
noncomputable def Vm:=FT [aU,zh,zg] [zh.sl,eJ] fun x=>jl x.1 x.2.1 x.2.2.1
theorem QS:FK 45 Vm:=td.T1 (f:=Tryz.f45) (keep:=k0) (e:=e0)

noncomputable def Ib:=Ia.add 45 Vm
theorem te:zm Ib:=td.add QS

noncomputable def Sq (x0:Sem aU):Tr (Empty ⊕ ag):=
 let a0:=ar x0.1 x0.2.2.1
 let a1:=getD x0.1 (Int.toNat a0) (zj zh)
 let a2:=[x0.2.2.2.2.2.2.2.2.2.2.1]
 let a3:=(x0.1,x0.2.1,x0.2.2.1,x0.2.2.2.1,x0.2.2.2.2.1,x0.2.2.2.2.2.1,x0.2.2.2.2.2.2.1,x0.2.2.2.2.2.2.2.1,x0.2.2.2.2.2.2.2.2.1,zC x0.2.2.2.2.2.2.2.2.2.1,x0.2.2.2.2.2.2.2.2.2.2.1,x0.2.2.2.2.2.2.2.2.2.2.2.1,zC x0.2.2.2.2.2.2.2.2.2.2.2.2.1,x0.2.2.2.2.2.2.2.2.2.2.2.2.2)
 let a4:=((a1.1.1,a1.1.2.1,a1.1.2.2.1,a1.1.2.2.2.1,a1.1.2.2.2.2.1,zC a1.1.2.2.2.2.2),a1.2++a2)
 let a5:=xL a3 a4 1
 Tr.br (decide (a0 < 0))
 (Tr.chk true
  (Tr.re (AV.tup [AV.sl zh (cE 6).1,AV.agg [AV.int .i64 (cE 6).2.1,AV.int .i64 (cE 6).2.2.1,AV.sl zf.sl (cE 6).2.2.2]]) []))
 (Tr.chk (zJ a0 (length x0.1))
  (Tr.chk (decide (length a1.2≤1073741824)) (Tr.chk (decide (length x0.2.2.2.2.2.2.2.2.2.2.1≤1073741824)) (Tr.chk (decide (length a1.2+a2.length≤1073741824)) (Tr.chk (sn a3 a4 1) (Tr.re (AV.tup [AV.sl zh a5.1,AV.agg [AV.int .i64 a5.2.1,AV.int .i64 a5.2.2.1,AV.sl zf.sl a5.2.2.2]]) []))))))
noncomputable def fU (x0:Sem aU):=ap [zh.sl,eJ] t0 100000000 (Sq x0)
noncomputable def sv (x0:Sem aU):=(fU x0).isSome
noncomputable def xM (x0:Sem aU):=o2 (fU x0)
noncomputable def U2:=FT [aU] [zh.sl,eJ] fun x=>fU x.1
theorem Qv:FK 19 U2:=te.T1 (f:=Tryz.f19) (keep:=k0) (e:=e0)

noncomputable def Ic:=Ib.add 19 U2
theorem CF:zm Ic:=te.add Qv

def Aj (c:ze→Bool):zB:=zA [.expr] [.expr] (fun x=>c x.1) fun x=>(x.1,())
noncomputable def wg (c:ze→Bool):bb:=My.add 72 (Aj c)
theorem o9 {c:ze→Bool} (hg:FK 72 (Aj c)):zm (wg c):=sU.add hg
abbrev Pm:Nat→zT:=fun j=>if j=3 then { slots:=[1,2,10,11] } else { }
abbrev yT (i10:Int) (i11:Int) (ja0:zq) (ja1:Int) (ja2:Int) (ja3:zq) (ja4:zq) (lh_2:List (Sem Sh.expr)):St:={
 tmps:=
  (tm 26 [(1,AV.ptr 0 0),(2,AV.ptr 1 0),(10,AV.int .i64 i10),(11,AV.int .i64 i11)]),
 heap:=
  [AO.box [AV.str ja0,AV.int .i64 ja1,AV.int .i64 ja2,AV.str ja3,AV.str ja4,AV.vec 2],
   AO.box [AV.str [],AV.int .i64 0,AV.int .i64 0,AV.str [],AV.str [],AV.nils],AO.vec Sh.expr lh_2] }
theorem tZ (c:ze→Bool):zz (wg c).P 72 Tryz.f72 1:=aG (by kernel_rfl)
theorem X9 (c:ze→Bool) (op:zq) (v:V) (s:zq) (l:List ze):rn (wg c) 0 Pm Tryz.f72 [zy Sh.expr (ze.mk op v s l)] []=
 Tr.chk (decide (l.length≤1073741824)) (Tr.ok (zp.head 3 (zw Tryz.f72 3) (yT (↑l.length:Int) 0 op v.1 v.2.1 v.2.2 s l))):=by kernel_rfl
theorem EW (c:ze→Bool) (i10:Int) (i11:Int) (ja0:zq) (ja1:Int) (ja2:Int) (ja3:zq) (ja4:zq) (lh_2:List (Sem Sh.expr)):rh (wg c) 0 Pm Tryz.f72 3 (yT i10 i11 ja0 ja1 ja2 ja3 ja4 lh_2)=
 Tr.br (decide (i11 < i10))
 (Tr.chk (zJ i11 lh_2.length)
  (Tr.chk (decide (i11.toNat < lh_2.length))
   (Tr.chk (c (zC (lh_2.getD i11.toNat (zj Sh.expr))))
    (Tr.chk (zJ i11 lh_2.length)
     (Tr.chk (decide (i11.toNat < lh_2.length))
      (Tr.ok
       (zp.head 3 (zw Tryz.f72 3)
        (yT i10 (IntKind.i64.wrap (i11+1)) ja0 ja1 ja2 ja3 ja4
         (lh_2.set i11.toNat
          (zC (lh_2.getD i11.toNat (zj Sh.expr))))))))))))
 (Tr.ok
  (zp.ret (AV.agg [AV.str ja0,AV.int .i64 ja1,AV.int .i64 ja2,AV.str ja3,AV.str ja4,AV.vec 0]) [AO.vec Sh.expr lh_2])):=by kernel_rfl

theorem Xw {c:ze→Bool} (hg:FK 72 (Aj c)) {C:cd} (hC:∀ id,C.ρ0 id=none) (op:zq) (v:V) (s:zq) (l:List ze) (hl:l.length≤1073741824) (hcl:l.all c=true):
  ∀ (k i:Nat),l.length - i=k→i≤l.length→Reach (wg c) C 72 (zw Tryz.f72 3) (yT l.length i op v.1 v.2.1 v.2.2 s l) (fun r h=>zY h [.expr] r=some (ze.mk op v s l,())):=by
 intro k
 induction k with
 | zero=>
  intro i hk hi
  obtain rfl:i=l.length:=by omega
  refine zk (n0:=0) (o9 hg) (tZ c) (fun id _=>hC id) (EW c _ _ _ _ _ _ _ _) ?_
  simp only [af,Tr.val_brF]
  rfl
 | succ k IH=>
  intro i hk hi
  have hlt:i < l.length:=by omega
  refine zk (n0:=0) (o9 hg) (tZ c) (fun id _=>hC id) (EW c _ _ _ _ _ _ _ _) ?_
  have h1:c l[i]=true:=cA.1 hcl _ (cR hlt)
  have h2:decide ((i:Int).toNat < l.length)=true:=by simpa using hlt
  have h3:l.set (i:Int).toNat l[i]=l:=by simp
  simp only [zV hlt,zF hlt,zZ l _ hlt,ze.eta,Tr.val_brT,Tr.val_chkT,h1,h2,h3,zG i (by unfold zD; omega)]
  exact IH (i+1) (by omega) (by omega)

theorem xv:∀ n,FK 72 (Aj (kK n))
 | 0=>cQ ⟨Tryz.f72,(tZ (fun _=>false)).1,(tZ (fun _=>false)).2.1,(tZ (fun _=>false)).2.2.1⟩ (fun _=>rfl)
 | n+1=>by
  refine zM (E:=wg (kK n)) (tZ _) fun x hc C hC=>?_
  obtain ⟨⟨op,v,s,l⟩,u⟩:=x
  have hc:(decide (l.length≤1073741824)&&l.all (kK n))=true:=hc
  simp only [aE,ah] at hc
  refine zk (n0:=0) (o9 (xv n)) (tZ _) (fun id _=>hC id) (X9 _ op v s l) ?_
  refine cy (by simpa using hc.1) ?_
  exact Xw (xv n) hC op v s l hc.1 hc.2 _ 0 rfl (be _)
def Vd:zB:=Aj (kK 16)
theorem QI:FK 72 Vd:=xv 16
open Go

def y0:AO→Bool
 | .box cs=>cs.all j9
 | _=>false

def Jl (pos:Nat) (s:Sh) (F:zB):zB:=fun args hp n=>match args[pos]? with
 | some (.ptr t 0)=>match hp t with
  | .box cs=>match bM hp s cs with
   | some (x,[])=>
    let az:=args.set pos (.eptr (zl s x) 0)
    let z:=t::cs.flatMap ba
    if (AV.idsL az).all (fun i=>(AV.idsL args).contains i&&(hp i).ids.isEmpty && !z.contains i)&&(cs.flatMap ba).all (fun i=>(hp t).ids.contains i) then
     (F az hp n).bind fun f=>if mq f.val&&f.nw.isEmpty&&f.wr.all (fun p=>y0 p.2) then .ok { f with val:=f.val.ren fun i=>i } else .err
    else .err
   | _=>.err
  | _=>.err
 | _=>.err

theorem Ho {P:Program} {gl:Nat→AV} {k:FuncId} {pos:Nat} {s:Sh} {F:zB} (h:kJ P gl k F):kJ P gl k (Jl pos s F):=by
  refine ⟨h.fn,?_⟩
  intro w U ρ hp n args vals f fp hv hr hub hgl hfp hin hcl hn
  unfold Jl at hv
  split at hv
  rotate_left
  · simp at hv
  rename_i t hpos
  split at hv
  rotate_left
  · simp at hv
  rename_i cs hbox
  split at hv
  rotate_left
  · simp at hv
  rename_i x himp
  dsimp only at hv
  split at hv
  rotate_left
  · simp at hv
  rename_i hcond
  simp only [aE,cA,List.contains_eq_mem,ah,Bool.not_eq_true',decide_eq_false_iff_not,List.isEmpty_iff] at hcond
  obtain ⟨hids,hvec⟩:=hcond
  rw [Tr.val_bind,dT] at hv
  obtain ⟨f0,hf0,hv⟩:=hv
  split at hv
  rotate_left
  · simp at hv
  rename_i hsc
  simp only [aE,List.isEmpty_iff,cA] at hsc
  obtain ⟨⟨hs1,hs2⟩,hs3⟩:=hsc
  simp only [Tr.val_ok,ae] at hv
  subst hv
  have hposl:pos < args.length:=(bD.1 hpos).1
  have htfp:t∈fp:=hin t (ej (gv hpos) (by simp [AV.ids]))
  have hvfp:∀ i∈cs.flatMap ba,i∈fp:=fun i hi=>hcl t htfp i (hvec i hi)
  have hzfp:∀ i∈t::cs.flatMap ba,i∈fp:=by
    intro i hi
    rcases dV.1 hi with rfl | hi
    · exact htfp
    · exact hvfp i hi
  generalize hz:t::cs.flatMap ba=z at hids hzfp
  generalize hU1:(fun b=>U b∧¬ ∃ j∈z,zN ρ j (hp j) b)=U1
  have hsub:∀ b,U1 b→U b:=by intro b hb; rw [← hU1] at hb; exact hb.1
  have hzU:∀ j∈z,∀ b,zN ρ j (hp j) b→¬ U1 b:=fun j hj b ho hb=>by rw [← hU1] at hb; exact hb.2 ⟨j,hj,ho⟩
  have hto:=hfp.ob t htfp
  rw [hbox] at hto
  obtain ⟨b,T,cells,e1,e2,e3,e4,e5⟩:=hto
  have htz:t∈z:=by rw [← hz]; exact v6
  have hbU:¬ U1 b:=hzU t htz b ⟨by rw [hbox]; rfl,_,e1,rfl⟩
  obtain ⟨i1,_,i3⟩:=fH (w:=w) (U:=U) (U':=U1) (ρ:=ρ) (hp:=hp) hsub s cs x [] (fun j=>(cells.toList[j]?).getD undef) himp
    (fun j c hj=>by
      have hlt:j < cells.toList.length:=by rw [← e4.len]; exact (bD.1 hj).1
      exact e4.rv j c _ hj (by simp [zI hlt]))
    (fun id hid=>⟨hfp.ob id (hvfp id hid),fun b hb=>hzU id (by rw [← hz]; exact kT _ hid) b hb⟩)
  have hlen:(zl s x).length=cells.toList.length:=by rw [zL,← e4.len]; simpa using i1.symm
  have heptr:Rv w U1 ρ (.eptr (zl s x) 0) (.pointer (some ⟨b,0,none⟩)):=by
    refine .eptr (zl s x) 0 b 0 (fun j=>(cells.toList[j]?).getD undef) (hub b e2) hbU (fun j hj=>?_) (fun j hj=>?_) i3
    · rw [hlen] at hj
      unfold World.cell?
      simp only [kr,e3]
      rw [zI hj]
      simp [gB (show j < cells.size by simpa using hj)]
    · rw [hlen] at hj
      rw [zI hj]
      exact e5 _ (cR hj)
  have hptr:∀ v,vals[pos]?=some v→v=.pointer (some ⟨b,0,none⟩):=by
    intro v hv'
    have:=hr.rv pos _ v hpos hv'
    cases this with
    | ptr _ _ b' h'=>
      rw [e1] at h'
      cases h'
      rfl
  have hr1:ce w U1 ρ (args.set pos (.eptr (zl s x) 0)) vals:=by
    refine ⟨by simp [hr.len],fun j c v hc hv'=>?_⟩
    rw [iy] at hc
    by_cases hj:pos=j
    · subst hj
      rw [if_pos rfl,if_pos hposl] at hc
      cases hc
      rw [hptr v hv']
      exact heptr
    · rw [if_neg hj] at hc
      exact (hr.rv j c v hc hv').weak hsub
  have hown1:∀ i∈AV.idsL (args.set pos (.eptr (zl s x) 0)),∀ b,zN ρ i (hp i) b→U1 b:=by
    intro i hi b' ho
    obtain ⟨⟨hi1,_⟩,hi3⟩:=hids i hi
    have hifp:=hin i hi1
    rw [← hU1]
    refine ⟨((hfp.ob i hifp).inU ho).1,fun ⟨j,hj,ho'⟩=>?_⟩
    have:=hfp.inj i hifp j (hzfp j hj) b' ho ho'
    exact hi3 (this▸hj)
  obtain ⟨hc,hwr⟩:=h.calls w U1 ρ hp n _ vals f0 (AV.idsL (args.set pos (.eptr (zl s x) 0))) hf0 hr1 (fun b hb=>hub b (hsub b hb)) (fun g=>(hgl g).weak hsub)
    ⟨fun id hid=>(hfp.ob id (hin id (hids id hid).1.1)).mono (aS _) (fun _ _ _=>rfl) (fun b _ hb=>hsub b hb) (fun _ _ h=>h) (fun b ho=>⟨rfl,hown1 id hid b ho⟩),
     fun id1 h1 id2 h2 b o1 o2=>hfp.inj id1 (hin id1 (hids id1 h1).1.1) id2 (hin id2 (hids id2 h2).1.1) b o1 o2⟩ (fun _ h=>h)
    (fun id hid j hj=>by rw [(hids id hid).1.2] at hj; simp at hj) (fun j hj=>by rw [hs2] at hj; simp at hj)
  refine ⟨hc.mono ?_,fun id o hio=>hin id (hids id (hwr id o hio)).1.1⟩
  rintro e w' ⟨v,U1',ρ',rfl,hE⟩
  refine ⟨v,fun b=>U1' b∨(b < w.heap.size∧U b∧∃ j∈z,zN ρ j (hp j) b),ρ',rfl,⟨hE.ext,uH hs1 hE.val,fun id o hio=>?_,?_,hE.rho,hE.rhon,hE.same,?_,?_,?_,hE.own,hE.inj⟩⟩
  · have ho:=hE.wr id o hio
    have hsco:=hs3 _ hio
    cases o with
    | box cs'=>
      obtain ⟨b',T',vals',q1,q2,q3,q4,q5⟩:=ho
      refine ⟨b',T',vals',q1,.inl q2,q3,⟨q4.len,fun j c v' hc' hv''=>?_⟩,q5⟩
      have hcs:j9 c=true:=by
        simp only [y0,cA] at hsco
        exact hsco c (gv hc')
      have h0:=q4.rv j c v' hc' hv''
      cases h0 <;> simp [j9] at hcs
      · exact .kb _
      · exact .bool _
      · exact .int _ _ ‹_›
      · exact .str _ ‹_›
      · exact .ifcN
      · exact .ifcS _ _
    | _=>simp [y0] at hsco
  · intro j o hj
    rw [hs2] at hj
    simp at hj
  · rintro b' (hb' | hb')
    · exact hE.ub b' hb'
    · exact km hb'.1 hE.ext.sz
  · rintro b' hlt (hb' | hb')
    · exact hsub b' (hE.u1 b' hlt hb')
    · exact hb'.2.1
  · intro b' hlt hb' hno
    by_cases hl:∃ j∈z,zN ρ j (hp j) b'
    · exact .inr ⟨hlt,hb',hl⟩
    · exact .inl (hE.u2 b' hlt (by rw [← hU1]; exact ⟨hb',hl⟩) hno)

noncomputable def x4:=Ic.add 72 Vd
theorem qj:zm x4:=CF.add QI
noncomputable def VA:zB:=zP (List.replicate 3 none) (bH x4 Tryz.f74 (List.replicate 3 none))
theorem Q8:FK 74 VA:=ac _ qj (aG (by kernel_rfl))
noncomputable def Vz:zB:=Jl 1 zE VA
theorem Q7:FK 74 Vz:=Ho Q8

noncomputable def Id:=x4.add 74 Vz
theorem tf:zm Id:=qj.add Q7
noncomputable section

abbrev Y9:Nat→zT:=fun j=>if j=5 then { slots:=[1,2,4,32,33,34] } else if j=14 then { slots:=[1,2,4,7,8,54,55,56],prom:=[(4,some 3,.int .i64)] } else if j=19 then { slots:=[2,4,7,8,70,71,72],prom:=[(4,some 4,zo)] } else { }
inductive oW where
 | h5 (i33:Int) (i34:Int) (z0:zr [CP.d zx]) (jb0:List UInt8) (jb2:Int) (jb5:List UInt8) (jb6:Int) (jb7:Int) (jb8:List UInt8) (jb9:List UInt8) (jc0:Sem Sh.str) (jc2:Int) (jc5:zq) (jc6:Int) (jc7:Int) (jc8:zq) (jc9:zq) (jc10:List (Sem Sh.expr)) (lh_3:List (Sem zi))
 | h14 (l54:List (Sem Sh.str)) (i55:Int) (i56:Int) (z0:zr [CP.d zx]) (jb0:List UInt8) (jb2:Int) (jb5:List UInt8) (jb6:Int) (jb7:Int) (jb8:List UInt8) (jb9:List UInt8) (jc0:Sem Sh.str) (jc2:Sem zg) (jc5:zq) (jc6:Int) (jc7:Int) (jc8:zq) (jc9:zq) (jc10:List (Sem Sh.expr)) (jd0:Int) (lh_4:List (Sem zi)) (lh_5:List (Sem zg))
 | h19 (l70:List (Sem (Sh.str.pr Sh.str))) (i71:Int) (i72:Int) (ja0:List UInt8) (ja2:Int) (ja5:List UInt8) (ja6:Int) (ja7:Int) (ja8:List UInt8) (ja9:List UInt8) (jb0:Sem Sh.str) (jb2:Sem zg) (jb5:zq) (jb6:Int) (jb7:Int) (jb8:zq) (jb9:zq) (jb10:List (Sem Sh.expr)) (jc0:Int) (lh_3:List (Sem zi)) (lh_4:List (Sem zg)) (lh_5:List (Sem zo))
abbrev zbv:oW→Nat×St
 | .h5 i33 i34 z0 jb0 jb2 jb5 jb6 jb7 jb8 jb9 jc0 jc2 jc5 jc6 jc7 jc8 jc9 jc10 lh_3=>(5,⟨tm 107 [(1,AV.ptr 0 0),(2,AV.ptr 1 0),(4,AV.ptr 2 0),(32,AV.vec 3),(33,AV.int .i64 i33),(34,AV.int .i64 i34)],[AO.box (bu [] [CP.d zx] z0),AO.box [AV.str jb0,AV.nils,AV.int .i64 jb2,AV.nils,AV.nils,AV.str jb5,AV.int .i64 jb6,AV.int .i64 jb7,AV.str jb8,AV.str jb9,AV.nils],AO.box [AV.str jc0,AV.vec 3,AV.int .i64 jc2,AV.nils,AV.nils,AV.str jc5,AV.int .i64 jc6,AV.int .i64 jc7,AV.str jc8,AV.str jc9,AV.sl Sh.expr jc10],AO.vec zi lh_3]⟩)
 | .h14 l54 i55 i56 z0 jb0 jb2 jb5 jb6 jb7 jb8 jb9 jc0 jc2 jc5 jc6 jc7 jc8 jc9 jc10 jd0 lh_4 lh_5=>(14,⟨tm 107 [(1,AV.ptr 0 0),(2,AV.ptr 1 0),(4,AV.ptr 2 0),(7,AV.ptr 3 0),(8,AV.clo (Fn.func 74) [] [AV.ptr 2 0,AV.ptr 3 0]),(54,AV.sl Sh.str l54),(55,AV.int .i64 i55),(56,AV.int .i64 i56)],[AO.box (bu [] [CP.d zx] z0),AO.box [AV.str jb0,AV.nils,AV.int .i64 jb2,AV.nils,AV.nils,AV.str jb5,AV.int .i64 jb6,AV.int .i64 jb7,AV.str jb8,AV.str jb9,AV.nils],AO.box [AV.str jc0,AV.vec 4,AV.int .i64 jc2,AV.vec 5,AV.nils,AV.str jc5,AV.int .i64 jc6,AV.int .i64 jc7,AV.str jc8,AV.str jc9,AV.sl Sh.expr jc10],AO.box [AV.int .i64 jd0],AO.vec zi lh_4,AO.vec zg lh_5]⟩)
 | .h19 l70 i71 i72 ja0 ja2 ja5 ja6 ja7 ja8 ja9 jb0 jb2 jb5 jb6 jb7 jb8 jb9 jb10 jc0 lh_3 lh_4 lh_5=>(19,⟨tm 107 [(2,AV.ptr 0 0),(4,AV.ptr 1 0),(7,AV.ptr 2 0),(8,AV.clo (Fn.func 74) [] [AV.ptr 1 0,AV.ptr 2 0]),(70,AV.sl (Sh.str.pr Sh.str) l70),(71,AV.int .i64 i71),(72,AV.int .i64 i72)],[AO.box [AV.str ja0,AV.nils,AV.int .i64 ja2,AV.nils,AV.nils,AV.str ja5,AV.int .i64 ja6,AV.int .i64 ja7,AV.str ja8,AV.str ja9,AV.nils],AO.box [AV.str jb0,AV.vec 3,AV.int .i64 jb2,AV.vec 4,AV.vec 5,AV.str jb5,AV.int .i64 jb6,AV.int .i64 jb7,AV.str jb8,AV.str jb9,AV.sl Sh.expr jb10],AO.box [AV.int .i64 jc0],AO.vec zi lh_3,AO.vec zg lh_4,AO.vec zo lh_5]⟩)
def zcP (x0:Sem zx):Tr (oW ⊕ ag):=
 let a0 := !x0.1==[99,114,101,97,116,101]
 let a1:=zC x0.2.2.2.2.2.2.2.2.1
 let a2:=(x0.1,x0.2.1,x0.2.2.1,x0.2.2.2.1,x0.2.2.2.2.1,x0.2.2.2.2.2.1,x0.2.2.2.2.2.2.1,x0.2.2.2.2.2.2.2.1,a1,x0.2.2.2.2.2.2.2.2.2.1,x0.2.2.2.2.2.2.2.2.2.2.1,zC x0.2.2.2.2.2.2.2.2.2.2.2.1,x0.2.2.2.2.2.2.2.2.2.2.2.2)
 Tr.chk (bif a0 then true else nt a2)
 (Tr.br (bif a0 then true else !jE a2)
  (Tr.re (AV.tup [AV.agg [AV.str [],AV.nils,AV.int .i64 0,AV.nils,AV.nils,AV.str [],AV.int .i64 0,AV.int .i64 0,AV.str [],AV.str [],AV.nils],AV.int .i64 1]) [])
  (Tr.chk (decide (length x0.2.2.2.2.1≤1073741824)) (Tr.chk (kK 16 a1) (Tr.to (oW.h5 (↑(length x0.2.2.2.2.1):Int) 0 (x0,()) [] 0 [] 0 0 [] [] x0.2.1 0 (ze.op x0.2.2.2.2.2.2.2.2.1) (ze.v x0.2.2.2.2.2.2.2.2.1).1 (ze.v x0.2.2.2.2.2.2.2.2.1).2.1 (ze.v x0.2.2.2.2.2.2.2.2.1).2.2 (ze.s x0.2.2.2.2.2.2.2.2.1) (ze.l x0.2.2.2.2.2.2.2.2.1) x0.2.2.2.2.1)))))
def zdx:oW→Tr (oW ⊕ ag)
 | .h5 i33 i34 z0 jb0 jb2 jb5 jb6 jb7 jb8 jb9 jc0 jc2 jc5 jc6 jc7 jc8 jc9 jc10 lh_3=>
  let a0:=(jc0,lh_3,jc2,[],[],ze.mk jc5 (jc6,jc7,jc8) jc9 jc10)
  let a1:=lh_3.getD i34.toNat (zj zi)
  let a2:=kg a0 z0.1.2.2.2.2.2.1
  let a3:=(↑(length z0.1.2.2.2.2.2.2.1):Int)
  Tr.br (decide (i34 < i33))
  (Tr.chk (zJ i34 lh_3.length) (Tr.chk (decide (i34.toNat < lh_3.length)) (Tr.br (kg a0 a1.1 != i34) (Tr.re (AV.tup [AV.agg [AV.str [],AV.nils,AV.int .i64 0,AV.nils,AV.nils,AV.str [],AV.int .i64 0,AV.int .i64 0,AV.str [],AV.str [],AV.nils],AV.int .i64 7]) []) (Tr.to
  (oW.h5 i33 (IntKind.i64.wrap (i34+1)) z0 jb0 jb2 jb5 jb6 jb7 jb8 jb9 jc0 jc2 jc5 jc6 jc7 jc8 jc9 jc10 lh_3)))))
  (Tr.br (decide (a2 < 0)) (Tr.to (oW.h14 z0.1.2.2.2.2.2.2.1 a3 0 z0 jb0 jb2 jb5 jb6 jb7 jb8 jb9 jc0 a2 jc5 jc6 jc7 jc8 jc9 jc10 4 lh_3 [])) (Tr.to (oW.h14 z0.1.2.2.2.2.2.2.1 a3 0 z0 jb0 jb2 jb5 jb6 jb7 jb8 jb9 jc0 a2 jc5 jc6 jc7 jc8 jc9 jc10 0 lh_3 [])))
 | .h14 l54 i55 i56 z0 jb0 jb2 jb5 jb6 jb7 jb8 jb9 jc0 jc2 jc5 jc6 jc7 jc8 jc9 jc10 jd0 lh_4 lh_5=>
  let a0:=kg (jc0,lh_4,jc2,lh_5,[],ze.mk jc5 (jc6,jc7,jc8) jc9 jc10) (l54.getD i56.toNat (zj Sh.str))
  let a1:=[a0]
  let a2:=decide (lh_5.length+a1.length≤1073741824)
  let a3:=IntKind.i64.wrap (i56+1)
  let a4:=lh_5++a1
  Tr.br (decide (i56 < i55))
  (Tr.chk (zJ i56 l54.length) (Tr.br (decide (a0 < 0)) (Tr.chk a2 (Tr.to (oW.h14 l54 i55 a3 z0 jb0 jb2 jb5 jb6 jb7 jb8 jb9 jc0 jc2 jc5 jc6 jc7 jc8 jc9 jc10 4 lh_4 a4))) (Tr.chk a2 (Tr.to (oW.h14 l54 i55 a3 z0 jb0 jb2 jb5 jb6 jb7 jb8 jb9 jc0 jc2 jc5 jc6 jc7 jc8 jc9 jc10 jd0 lh_4 a4)))))
  (Tr.to (oW.h19 z0.1.2.2.2.2.2.2.2.1 (↑(length z0.1.2.2.2.2.2.2.2.1):Int) 0 jb0 jb2 jb5 jb6 jb7 jb8 jb9 jc0 jc2 jc5 jc6 jc7 jc8 jc9 jc10 jd0 lh_4 lh_5 []))
 | .h19 l70 i71 i72 ja0 ja2 ja5 ja6 ja7 ja8 ja9 jb0 jb2 jb5 jb6 jb7 jb8 jb9 jb10 jc0 lh_3 lh_4 lh_5=>
  let a0:=ze.mk jb5 (jb6,jb7,jb8) jb9 jb10
  let a1:=l70.getD i72.toNat (zj (Sh.str.pr Sh.str))
  let a2:=kg (jb0,lh_3,jb2,lh_4,lh_5,a0) a1.1
  let a3:=[(a2,a1.2)]
  let a4:=decide (lh_5.length+a3.length≤1073741824)
  let a5:=IntKind.i64.wrap (i72+1)
  let a6:=lh_5++a3
  let a7:=nr a0 lh_3
  let a8:=lh_3.getD (Int.toNat jb2) (zj zi)
  Tr.br (decide (i72 < i71))
  (Tr.chk (zJ i72 l70.length) (Tr.br (decide (a2 < 0)) (Tr.chk a4 (Tr.to (oW.h19 l70 i71 a5 ja0 ja2 ja5 ja6 ja7 ja8 ja9 jb0 jb2 jb5 jb6 jb7 jb8 jb9 jb10 4 lh_3 lh_4 a6))) (Tr.chk a4 (Tr.to (oW.h19 l70 i71 a5 ja0 ja2 ja5 ja6 ja7 ja8 ja9 jb0 jb2 jb5 jb6 jb7 jb8 jb9 jb10 jc0 lh_3 lh_4 a6)))))
  (Tr.br (jc0==0) (Tr.br (a7 != 0) (Tr.re (AV.tup [AV.agg [AV.str [],AV.nils,AV.int .i64 0,AV.nils,AV.nils,AV.str [],AV.int .i64 0,AV.int .i64 0,AV.str [],AV.str [],AV.nils],AV.int .i64 a7]) []) (Tr.chk (zJ jb2 lh_3.length) (Tr.chk (decide (Int.toNat jb2 < lh_3.length)) (Tr.re (AV.tup [AV.agg
  [AV.str jb0,AV.vec 0,AV.int .i64 jb2,AV.vec 1,AV.vec 2,AV.str jb5,AV.int .i64 jb6,AV.int .i64 jb7,AV.str jb8,AV.str jb9,AV.sl Sh.expr jb10],AV.int .i64 0]) [AO.vec zi (lh_3.set (Int.toNat jb2) (a8.1,a8.2.1,true)),AO.vec zg lh_4,AO.vec zo lh_5])))) (Tr.br (jc0 != 0) (Tr.re (AV.tup [AV.agg
  [AV.str [],AV.nils,AV.int .i64 0,AV.nils,AV.nils,AV.str [],AV.int .i64 0,AV.int .i64 0,AV.str [],AV.str [],AV.nils],AV.int .i64 jc0]) []) (Tr.chk (zJ jb2 lh_3.length) (Tr.chk (decide (Int.toNat jb2 < lh_3.length)) (Tr.re (AV.tup [AV.agg [AV.str jb0,AV.vec 0,AV.int .i64 jb2,AV.vec 1,AV.vec 2,AV.str jb5,AV.int .i64 jb6,AV.int .i64 jb7,
  AV.str jb8,AV.str jb9,AV.sl Sh.expr jb10],AV.int .i64 0]) [AO.vec zi (lh_3.set (Int.toNat jb2) (a8.1,a8.2.1,true)),AO.vec zg lh_4,AO.vec zo lh_5])))))
def TX (x0:Sem zx):=ap [zE,zg] zdx 100000000 (zcP x0)
def zds (x0:Sem zx):=(TX x0).isSome
def sOf (x0:Sem zx):=o2 (TX x0)
def Vg:=FT [zx] [zE,zg] fun x=>TX x.1
theorem QM:FK 38 Vg:=tf.T1 (f:=Tryz.f38) (keep:=Y9) (e:=zbv)

def Ie:=Id.add 38 Vg
theorem tg:zm Ie:=tf.add QM
end

noncomputable def zcL (x0:Sem aU):Tr (Empty ⊕ ag):=
 let a0:=(x0.2.1,x0.2.2.1,x0.2.2.2.1,x0.2.2.2.2.1,x0.2.2.2.2.2.1,x0.2.2.2.2.2.2.1,x0.2.2.2.2.2.2.2.1,x0.2.2.2.2.2.2.2.2.1,zC x0.2.2.2.2.2.2.2.2.2.1,x0.2.2.2.2.2.2.2.2.2.2.1,x0.2.2.2.2.2.2.2.2.2.2.2.1,zC x0.2.2.2.2.2.2.2.2.2.2.2.2.1,x0.2.2.2.2.2.2.2.2.2.2.2.2.2)
 let a1:=sOf a0
 let a2:=cE a1.2
 let a3:=ar x0.1 a1.1.1
 let a4:=((a1.1.1,a1.1.2.1,a1.1.2.2.1,a1.1.2.2.2.1,a1.1.2.2.2.2.1,zC a1.1.2.2.2.2.2),[])
 let a5:=we x0.1 a4
 let a6:=wd a5 1
 Tr.chk (zds a0)
 (Tr.br (a1.2 != 0)
  (Tr.chk (su a1.2) (Tr.re (AV.tup [AV.sl zh a2.1,AV.agg [AV.int .i64 a2.2.1,AV.int .i64 a2.2.2.1,AV.sl zf.sl a2.2.2.2]]) []))
  (Tr.br (decide (a3 ≥ 0)) (Tr.chk true (Tr.re (AV.tup [AV.sl zh (cE 7).1,AV.agg [AV.int .i64 (cE 7).2.1,AV.int .i64 (cE 7).2.2.1,AV.sl zf.sl (cE 7).2.2.2]]) [])) (Tr.br (decide ((↑(length x0.1):Int) ≥ 12)) (Tr.chk true (Tr.re (AV.tup [AV.sl zh (cE 13).1,AV.agg [AV.int .i64 (cE 13).2.1,AV.int .i64 (cE 13).2.2.1,AV.sl zf.sl (cE 13).2.2.2]]) []))
  (Tr.chk (o5 x0.1 a4) (Tr.chk (o4 a5 1) (Tr.re (AV.tup [AV.sl zh a6.1,AV.agg [AV.int .i64 a6.2.1,AV.int .i64 a6.2.2.1,AV.sl zf.sl a6.2.2.2]]) []))))))
noncomputable def sr (x0:Sem aU):=ap [zh.sl,eJ] t0 100000000 (zcL x0)
noncomputable def HH (x0:Sem aU):=(sr x0).isSome
noncomputable def Mt (x0:Sem aU):=o2 (sr x0)
noncomputable def UY:=FT [aU] [zh.sl,eJ] fun x=>sr x.1
theorem Qt:FK 17 UY:=tg.T1 (f:=Tryz.f17) (keep:=k0) (e:=e0)

noncomputable def If:=Ie.add 17 UY
theorem th:zm If:=tg.add Qt

noncomputable def i9w (x0:Sem zh.sl) (x1:Sem zx):Tr (Empty ⊕ ag):=
 let a0:=(x1.1,x1.2.1,x1.2.2.1,x1.2.2.2.1,x1.2.2.2.2.1,x1.2.2.2.2.2.1,x1.2.2.2.2.2.2.1,x1.2.2.2.2.2.2.2.1,zC x1.2.2.2.2.2.2.2.2.1,x1.2.2.2.2.2.2.2.2.2.1,x1.2.2.2.2.2.2.2.2.2.2.1,zC x1.2.2.2.2.2.2.2.2.2.2.2.1,x1.2.2.2.2.2.2.2.2.2.2.2.2)
 let a1 := !jE a0
 let a2:=nt a0&&bif a1 then true else nJ x0
 let a3:=bif a1 then true else iQ x0 != 0
 let a4:=(x0,a0)
 let a5:=Mt a4
 let a6:=xM a4
 let a7:=Mu a4
 let a8:=Ms a4
 Tr.chk true
 (Tr.chk true
  (Tr.chk true (Tr.chk true (Tr.chk true (Tr.chk true (Tr.br (x1.1==[99,114,101,97,116,101]) (Tr.chk a2 (Tr.br a3 (Tr.re (AV.tup [AV.sl zh x0,AV.agg [AV.int .i64 1,AV.int .i64 0,AV.nils]]) []) (Tr.chk (HH a4) (Tr.br (a5.2.1 != 0) (Tr.re (AV.tup [AV.sl zh x0,AV.agg [AV.int .i64 a5.2.1,AV.int .i64 a5.2.2.1,AV.sl zf.sl a5.2.2.2]]) []) (Tr.re (AV.tup [AV.sl zh a5.1,
  AV.agg [AV.int .i64 a5.2.1,AV.int .i64 a5.2.2.1,AV.sl zf.sl a5.2.2.2]]) []))))) (Tr.br (x1.1==[100,114,111,112]) (Tr.chk a2 (Tr.br a3 (Tr.re (AV.tup [AV.sl zh x0,AV.agg [AV.int .i64 1,AV.int .i64 0,AV.nils]]) []) Tr.err)) (Tr.br (x1.1==[105,110,115,101,114,116]) (Tr.chk a2 (Tr.br a3 (Tr.re (AV.tup [AV.sl zh x0,AV.agg [AV.int .i64 1,AV.int .i64 0,AV.nils]]) [])
  (Tr.chk (sv a4) (Tr.br (a6.2.1 != 0) (Tr.re (AV.tup [AV.sl zh x0,AV.agg [AV.int .i64 a6.2.1,AV.int .i64 a6.2.2.1,AV.sl zf.sl a6.2.2.2]]) []) (Tr.re (AV.tup [AV.sl zh a6.1,AV.agg [AV.int .i64 a6.2.1,AV.int .i64 a6.2.2.1,AV.sl zf.sl a6.2.2.2]]) []))))) (Tr.br (x1.1==[117,112,100,97,116,101]) (Tr.chk a2 (Tr.br a3 (Tr.re (AV.tup [AV.sl zh x0,
  AV.agg [AV.int .i64 1,AV.int .i64 0,AV.nils]]) []) Tr.err)) (Tr.br (x1.1==[100,101,108,101,116,101]) (Tr.chk a2 (Tr.br a3 (Tr.re (AV.tup [AV.sl zh x0,AV.agg [AV.int .i64 1,AV.int .i64 0,AV.nils]]) []) (Tr.chk (HK a4) (Tr.br (a7.2.1 != 0) (Tr.re (AV.tup [AV.sl zh x0,AV.agg [AV.int .i64 a7.2.1,AV.int .i64 a7.2.2.1,AV.sl zf.sl a7.2.2.2]]) []) (Tr.re (AV.tup [AV.sl
  zh a7.1,AV.agg [AV.int .i64 a7.2.1,AV.int .i64 a7.2.2.1,AV.sl zf.sl a7.2.2.2]]) []))))) (Tr.br (x1.1==[115,101,108,101,99,116]) (Tr.chk a2 (Tr.br a3 (Tr.re (AV.tup [AV.sl zh x0,AV.agg [AV.int .i64 1,AV.int .i64 0,AV.nils]]) []) (Tr.chk (HG a4) (Tr.br (a8.2.1 != 0) (Tr.re (AV.tup [AV.sl zh x0,AV.agg [AV.int .i64 a8.2.1,AV.int .i64 a8.2.2.1,
  AV.sl zf.sl a8.2.2.2]]) []) (Tr.re (AV.tup [AV.sl zh a8.1,AV.agg [AV.int .i64 a8.2.1,AV.int .i64 a8.2.2.1,AV.sl zf.sl a8.2.2.2]]) []))))) (Tr.re (AV.tup [AV.sl zh x0,AV.agg [AV.int .i64 1,AV.int .i64 0,AV.nils]]) []))))))))))))
noncomputable def AE (x0:Sem zh.sl) (x1:Sem zx):=ap [zh.sl,eJ] t0 100000000 (i9w x0 x1)
noncomputable def Mf (x0:Sem zh.sl) (x1:Sem zx):=(AE x0 x1).isSome
noncomputable def bDo (x0:Sem zh.sl) (x1:Sem zx):=o2 (AE x0 x1)
noncomputable def F9w:=FT [zh.sl,zx] [zh.sl,eJ] fun x=>AE x.1 x.2.1
theorem Xc:FK 9 F9w:=th.T1 (f:=Tryz.f9) (keep:=k0) (e:=e0)

noncomputable def Ig:=If.add 9 F9w
theorem CG:zm Ig:=th.add Xc
noncomputable section
def Ij:=Ig.add 32 Vc
theorem tp:zm Ij:=CG.add QH

def zcK:Tr (Empty ⊕ ag):=
 Tr.chk true
 (Tr.chk true
  (Tr.chk true (Tr.chk true (Tr.chk true (Tr.chk true (Tr.chk true (Tr.chk true (Tr.chk true (Tr.chk true (Tr.chk true (Tr.chk true (Tr.chk true (Tr.chk true (Tr.re (AV.bool true) []))))))))))))))
def xD:=ap [Sh.bool] t0 100000000 (zcK)
def Co:=(xD).isSome
def nH:=o1 (xD)
def UT:=FT [] [Sh.bool] fun _=>xD
theorem Qo:FK 13 UT:=tp.T1 (f:=Tryz.f13) (keep:=k0) (e:=e0)

def Pb:=Ij.add 13 UT
theorem wR:zm Pb:=tp.add Qo
end
noncomputable section
end
end Cad
