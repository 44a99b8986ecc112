/- The document's parser. Statements of texts. Rows: the sorter. Rows: the sorter compares. Rows: insertion sort. Rows: insertion sort: its contract. -/
import Derived.Test.YtiefilkilbdpgaaGreatDoorN16
import Derived.Test.YtiefilkilbdpgaaGreatDoorN13
import Derived.Test.YtiefilkilbdpgaaGreatDoorN11
namespace Cad
open Go Go.Proofs
open Int (toNat)
open List (getD)
open List (length)
noncomputable section
set_option maxHeartbeats 4000000
def L2:=Te.add 115 RJ
theorem v8:zl L2:=Jz.add Pc

abbrev zei:Nat→aj:=fun j=>if j=17 then { slots:=[2,4,6,7,8],prom:=[(7,some 14,zf)] } else if j=25 then { slots:=[2,4,6,7,9] } else { }
inductive C0 where
 | h17 (l4:List (Sem zq)) (z0:zu eT) (z1:zu zK) (jc0:List UInt8) (jc1:Sem Sh.str) (jc2:List UInt8) (jc5:List UInt8) (jc8:List UInt8) (jc9:Int) (jc10:Int) (jc11:List UInt8) (jc12:List UInt8) (jc16:List UInt8) (jc17:Int) (jc18:Int) (jc19:List UInt8) (jc20:List UInt8) (jc22:List UInt8) (lh_3:List (Sem zf))
 | h25 (l4:List (Sem zq)) (z0:zu eT) (z1:zu zK) (z2:zu eT)
 | h17b (l4:List (Sem zq)) (b8:Sem Sh.bool) (z0:zu eT) (z1:zu zK) (jc0:List UInt8) (jc1:Sem Sh.str) (jc2:List UInt8) (jc5:List UInt8) (jc8:List UInt8) (jc9:Int) (jc10:Int) (jc11:List UInt8) (jc12:List UInt8) (jc16:List UInt8) (jc17:Int) (jc18:Int) (jc19:List UInt8) (jc20:List UInt8) (jc22:List UInt8) (lh_3:List (Sem zf))
abbrev zgK:C0→Nat×St
 | .h17 l4 z0 z1 jc0 jc1 jc2 jc5 jc8 jc9 jc10 jc11 jc12 jc16 jc17 jc18 jc19 jc20 jc22 lh_3=>(17,⟨tm 172 [(2,AV.ptr 0 0),(4,AV.sl zq l4),(6,AV.ptr 1 0),(7,AV.ptr 2 0),(8,AV.kb true)],[AO.box (bK [] eT z0),AO.box (bK [] zK z1),AO.box [AV.str jc0,AV.str jc1,AV.str jc2,AV.nils,AV.nils,AV.str jc5,AV.nils,AV.nils,AV.str jc8,AV.int .i64 jc9,AV.int .i64 jc10,AV.str jc11,AV.str jc12,AV.nils,AV.vec 3,AV.nils,AV.str jc16,AV.int .i64 jc17,AV.int .i64 jc18,AV.str jc19,AV.str jc20,AV.nils,AV.str jc22],AO.vec zf lh_3]⟩)
 | .h25 l4 z0 z1 z2=>(25,⟨tm 172 [(2,AV.ptr 0 0),(4,AV.sl zq l4),(6,AV.ptr 1 0),(7,AV.ptr 2 0),(9,AV.kb true)],[AO.box (bK [] eT z0),AO.box (bK [] zK z1),AO.box (bK [] eT z2)]⟩)
 | .h17b l4 b8 z0 z1 jc0 jc1 jc2 jc5 jc8 jc9 jc10 jc11 jc12 jc16 jc17 jc18 jc19 jc20 jc22 lh_3=>(17,⟨tm 172 [(2,AV.ptr 0 0),(4,AV.sl zq l4),(6,AV.ptr 1 0),(7,AV.ptr 2 0),(8,AV.bool b8)],[AO.box (bK [] eT z0),AO.box (bK [] zK z1),AO.box [AV.str jc0,AV.str jc1,AV.str jc2,AV.nils,AV.nils,AV.str jc5,AV.nils,AV.nils,AV.str jc8,AV.int .i64 jc9,AV.int .i64 jc10,AV.str jc11,AV.str jc12,AV.nils,AV.vec 3,AV.nils,AV.str jc16,AV.int .i64 jc17,AV.int .i64 jc18,AV.str jc19,AV.str jc20,AV.nils,AV.str jc22],AO.vec zf lh_3]⟩)
def zh3 (x0:Sem Sh.str):Tr (C0 ⊕ ao):=
 let a0:=((AH x0).1,0,true,())
 let a1:=bq a0 [67,82,69,65,84,69]
 let a2:=(a1.2.1,a1.2.2.1,a1.2.2.2.1,())
 let a3:=Ex a2 ([],[],[],[],[],0,0,[],[],[],0,0,[],[],[],())
 let a4:=(↑(length (AH x0).1):Int)
 let a5:=(a3.2.1,a3.2.2.1,a3.2.2.2.1,[],a3.2.2.2.2.1,a3.2.2.2.2.2.1,a3.2.2.2.2.2.2.1,a3.2.2.2.2.2.2.2.1,zE a3.2.2.2.2.2.2.2.2.1,[],[],ze.mk a3.2.2.2.2.2.2.2.2.2.1 (a3.2.2.2.2.2.2.2.2.2.2.1,a3.2.2.2.2.2.2.2.2.2.2.2.1,a3.2.2.2.2.2.2.2.2.2.2.2.2.1) a3.2.2.2.2.2.2.2.2.2.2.2.2.2.1 [],a3.2.2.2.2.2.2.2.2.2.2.2.2.2.2.1)
 let a6:=ng a5
 let a7:=bq a2 [68,82,79,80]
 let a8:=(a7.2.1,a7.2.2.1,a7.2.2.2.1,())
 let a9:=ac a8 [84,65,66,76,69]
 let a10:=(a9.1,a9.2.1,a9.2.2.1,())
 let a11:=aO a10
 let a12:=([100,114,111,112],a11.1,[],[],[],[],[],[],ze.mk [] (0,0,[]) [] [],[],[],ze.mk [] (0,0,[]) [] [],[])
 let a13:=ng a12
 let a14:=bq a8 [73,78,83,69,82,84]
 let a15:=(a14.2.1,a14.2.2.1,a14.2.2.2.1,())
 let a16:=ac a15 [73,78,84,79]
 let a17:=(a16.1,a16.2.1,a16.2.2.1,())
 let a18:=aO a17
 let a19:=(a18.2.1,a18.2.2.1,a18.2.2.2.1,())
 let a20:=ac a19 [86,65,76,85,69,83]
 let a21:=(a20.1,a20.2.1,a20.2.2.1,())
 let a22:=bq a15 [85,80,68,65,84,69]
 let a23:=(a22.2.1,a22.2.2.1,a22.2.2.2.1,())
 let a24:=aO a23
 let a25:=(a24.2.1,a24.2.2.1,a24.2.2.2.1,())
 let a26:=bq a23 [68,69,76,69,84,69]
 let a27:=(a26.2.1,a26.2.2.1,a26.2.2.2.1,())
 let a28:=ac a27 [70,82,79,77]
 let a29:=(a28.1,a28.2.1,a28.2.2.1,())
 let a30:=aO a29
 let a31:=(a30.2.1,a30.2.2.1,a30.2.2.2.1,())
 let a32:=dr a31 [87,72,69,82,69]
 let a33:=([100,101,108,101,116,101],a30.1,[],[],[],[],[],[],ze.mk [] (0,0,[]) [] [],[],[],zE a32.1,[])
 let a34:=ng a33
 let a35:=bq a27 [83,69,76,69,67,84]
 let a36:=(a35.2.1,a35.2.2.1,a35.2.2.2.1,())
 let a37:=ac a36 [42]
 let a38:=(a37.1,a37.2.1,a37.2.2.1,())
 let a39:=ac a38 [70,82,79,77]
 let a40:=(a39.1,a39.2.1,a39.2.2.1,())
 let a41:=aO a40
 let a42:=(a41.2.1,a41.2.2.1,a41.2.2.2.1,())
 let a43:=dr a42 [87,72,69,82,69]
 let a44:=([115,101,108,101,99,116],a41.1,[],[],[],[],[],[],ze.mk [] (0,0,[]) [] [],[],[],zE a43.1,[])
 let a45:=ng a44
 let a46:=bq a36 [71,82,65,78,84]
 let a47:=(a46.2.1,a46.2.2.1,a46.2.2.2.1,())
 let a48:=nh a47 [82,69,65,68]
 let a49:=bq a47 [82,69,86,79,75,69]
 let a50:=(a49.2.1,a49.2.2.1,a49.2.2.2.1,())
 let a51:=nh a50 [82,69,65,68]
 let a52:=bq a50 [77,73,71,82,65,84,69]
 let a53:=(a52.2.1,a52.2.2.1,a52.2.2.2.1,())
 let a54:=TV a53 ([],[],[],[],[],0,0,[],[],[],0,0,[],[],[],())
 let a55:=(a54.2.1,a54.2.2.1,a54.2.2.2.1,a54.2.2.2.2.1,[],a54.2.2.2.2.2.1,[],[],zE a54.2.2.2.2.2.2.1,[],[],ze.mk a54.2.2.2.2.2.2.2.1 (a54.2.2.2.2.2.2.2.2.1,a54.2.2.2.2.2.2.2.2.2.1,a54.2.2.2.2.2.2.2.2.2.2.1) a54.2.2.2.2.2.2.2.2.2.2.2.1 [],a54.2.2.2.2.2.2.2.2.2.2.2.2.1)
 let a56:=ng a55
 Tr.chk (N7 x0)
 (Tr.br (!(AH x0).2)
  (Tr.re (AV.tup [AV.agg [AV.str [],AV.str [],AV.str [],AV.nils,AV.nils,AV.str [],AV.nils,AV.nils,AV.str [],AV.int .i64 0,AV.int .i64 0,AV.str [],AV.str [],AV.nils,AV.nils,AV.nils,AV.str [],AV.int .i64 0,AV.int .i64 0,AV.str [],AV.str [],AV.nils,AV.str []],AV.kb false]) [])
  (Tr.chk (aU a0 [67,82,69,65,84,69]) (Tr.br a1.1 (Tr.chk (AJ a2 ([],[],[],[],[],0,0,[],[],[],0,0,[],[],[],())) (Tr.br (bif !a3.1.2.2.1 then true else a3.1.2.1 != a4) (Tr.re (AV.tup [AV.agg [AV.str [],AV.str [],AV.str [],AV.nils,AV.nils,AV.str [],AV.nils,AV.nils,AV.str [],AV.int .i64 0,AV.int .i64 0,
  AV.str [],AV.str [],AV.nils,AV.nils,AV.nils,AV.str [],AV.int .i64 0,AV.int .i64 0,AV.str [],AV.str [],AV.nils,AV.str []],AV.kb false]) []) (Tr.chk (j5 a5) (Tr.br (!a6.2) (Tr.re (AV.tup [AV.agg [AV.str [],AV.str [],AV.str [],AV.nils,AV.nils,AV.str [],AV.nils,AV.nils,AV.str [],AV.int .i64 0,AV.int .i64 0,
  AV.str [],AV.str [],AV.nils,AV.nils,AV.nils,AV.str [],AV.int .i64 0,AV.int .i64 0,AV.str [],AV.str [],AV.nils,AV.str []],AV.kb false]) []) (Tr.re (AV.tup [AV.agg [AV.str a3.2.1,AV.str a3.2.2.1,AV.str a3.2.2.2.1,AV.nils,AV.vec 0,AV.str a3.2.2.2.2.2.1,AV.vec 1,AV.vec 2,AV.str (ze.op a3.2.2.2.2.2.2.2.2.1),AV.int .i64 (ze.v a3.2.2.2.2.2.2.2.2.1).1,
  AV.int .i64 (ze.v a3.2.2.2.2.2.2.2.2.1).2.1,AV.str (ze.v a3.2.2.2.2.2.2.2.2.1).2.2,AV.str (ze.s a3.2.2.2.2.2.2.2.2.1),AV.sl Sh.expr (ze.l a3.2.2.2.2.2.2.2.2.1),AV.nils,AV.nils,AV.str a3.2.2.2.2.2.2.2.2.2.1,AV.int .i64 a3.2.2.2.2.2.2.2.2.2.2.1,AV.int .i64 a3.2.2.2.2.2.2.2.2.2.2.2.1,AV.str a3.2.2.2.2.2.2.2.2.2.2.2.2.1,AV.str a3.2.2.2.2.2.2.2.2.2.2.2.2.2.1,AV.nils,
  AV.str a3.2.2.2.2.2.2.2.2.2.2.2.2.2.2.1],AV.kb true]) [AO.vec zi a3.2.2.2.2.1,AO.vec Sh.str a3.2.2.2.2.2.2.1,AO.vec (Sh.str.pr Sh.str) a3.2.2.2.2.2.2.2.1]))))) (Tr.chk (aU a2 [68,82,79,80]) (Tr.br a7.1 (Tr.chk (zQ a8 [84,65,66,76,69]) (Tr.chk (au a10) (Tr.br (bif !a11.2.2.2.1 then true else a11.2.2.1 != a4) (Tr.re (AV.tup [AV.agg
  [AV.str [],AV.str [],AV.str [],AV.nils,AV.nils,AV.str [],AV.nils,AV.nils,AV.str [],AV.int .i64 0,AV.int .i64 0,AV.str [],AV.str [],AV.nils,AV.nils,AV.nils,AV.str [],AV.int .i64 0,AV.int .i64 0,AV.str [],AV.str [],AV.nils,AV.str []],AV.kb false]) []) (Tr.chk (j5 a12) (Tr.br (!a13.2) (Tr.re (AV.tup [AV.agg
  [AV.str [],AV.str [],AV.str [],AV.nils,AV.nils,AV.str [],AV.nils,AV.nils,AV.str [],AV.int .i64 0,AV.int .i64 0,AV.str [],AV.str [],AV.nils,AV.nils,AV.nils,AV.str [],AV.int .i64 0,AV.int .i64 0,AV.str [],AV.str [],AV.nils,AV.str []],AV.kb false]) []) (Tr.re (AV.tup [AV.agg
  [AV.str [100,114,111,112],AV.str a11.1,AV.str [],AV.nils,AV.nils,AV.str [],AV.nils,AV.nils,AV.str [],AV.int .i64 0,AV.int .i64 0,AV.str [],AV.str [],AV.nils,AV.nils,AV.nils,AV.str [],AV.int .i64 0,AV.int .i64 0,AV.str [],AV.str [],AV.nils,AV.str []],AV.kb true]) [])))))) (Tr.chk (aU a8 [73,78,83,69,82,84]) (Tr.br a14.1 (Tr.chk (zQ a15 [73,78,84,79])
  (Tr.chk (au a17) (Tr.chk (zQ a19 [86,65,76,85,69,83]) (Tr.chk (zQ a21 [40]) (Tr.to (C0.h17 (AH x0).1 ([],[],[],[],[],0,0,[],[],[],0,0,[],[],[],()) (ac a21 [40]) [105,110,115,101,114,116] a18.1 [] [] [] 0 0 [] [] [] 0 0 [] [] [] [])))))) (Tr.chk (aU a15 [85,80,68,65,84,69]) (Tr.br a22.1 (Tr.chk (au a23)
  (Tr.chk (zQ a25 [83,69,84]) (Tr.to (C0.h25 (AH x0).1 ([],[],[],[],[],0,0,[],[],[],0,0,[],[],[],()) (ac a25 [83,69,84]) ([117,112,100,97,116,101],a24.1,[],[],[],0,0,[],[],[],0,0,[],[],[],()))))) (Tr.chk (aU a23 [68,69,76,69,84,69]) (Tr.br a26.1 (Tr.chk (zQ a27 [70,82,79,77]) (Tr.chk (au a29)
  (Tr.chk (cD a31 [87,72,69,82,69]) (Tr.br (bif !a32.2.2.2.1 then true else a32.2.2.1 != a4) (Tr.re (AV.tup [AV.agg [AV.str [],AV.str [],AV.str [],AV.nils,AV.nils,AV.str [],AV.nils,AV.nils,AV.str [],AV.int .i64 0,AV.int .i64 0,AV.str [],AV.str [],AV.nils,AV.nils,AV.nils,AV.str [],AV.int .i64 0,AV.int .i64 0,AV.str [],AV.str [],AV.nils,AV.str []],AV.kb false]) [])
  (Tr.chk (j5 a33) (Tr.br (!a34.2) (Tr.re (AV.tup [AV.agg [AV.str [],AV.str [],AV.str [],AV.nils,AV.nils,AV.str [],AV.nils,AV.nils,AV.str [],AV.int .i64 0,AV.int .i64 0,AV.str [],AV.str [],AV.nils,AV.nils,AV.nils,AV.str [],AV.int .i64 0,AV.int .i64 0,AV.str [],AV.str [],AV.nils,AV.str []],AV.kb false]) []) (Tr.re (AV.tup [AV.agg
  [AV.str [100,101,108,101,116,101],AV.str a30.1,AV.str [],AV.nils,AV.nils,AV.str [],AV.nils,AV.nils,AV.str [],AV.int .i64 0,AV.int .i64 0,AV.str [],AV.str [],AV.nils,AV.nils,AV.nils,AV.str (ze.op a32.1),AV.int .i64 (ze.v a32.1).1,AV.int .i64 (ze.v a32.1).2.1,AV.str (ze.v a32.1).2.2,AV.str (ze.s a32.1),AV.sl Sh.expr (ze.l a32.1),AV.str []],
  AV.kb true]) []))))))) (Tr.chk (aU a27 [83,69,76,69,67,84]) (Tr.br a35.1 (Tr.chk (zQ a36 [42]) (Tr.chk (zQ a38 [70,82,79,77]) (Tr.chk (au a40) (Tr.chk (cD a42 [87,72,69,82,69]) (Tr.br (bif !a43.2.2.2.1 then true else a43.2.2.1 != a4) (Tr.re (AV.tup [AV.agg
  [AV.str [],AV.str [],AV.str [],AV.nils,AV.nils,AV.str [],AV.nils,AV.nils,AV.str [],AV.int .i64 0,AV.int .i64 0,AV.str [],AV.str [],AV.nils,AV.nils,AV.nils,AV.str [],AV.int .i64 0,AV.int .i64 0,AV.str [],AV.str [],AV.nils,AV.str []],AV.kb false]) []) (Tr.chk (j5 a44) (Tr.br (!a45.2) (Tr.re (AV.tup [AV.agg
  [AV.str [],AV.str [],AV.str [],AV.nils,AV.nils,AV.str [],AV.nils,AV.nils,AV.str [],AV.int .i64 0,AV.int .i64 0,AV.str [],AV.str [],AV.nils,AV.nils,AV.nils,AV.str [],AV.int .i64 0,AV.int .i64 0,AV.str [],AV.str [],AV.nils,AV.str []],AV.kb false]) []) (Tr.re (AV.tup [AV.agg
  [AV.str [115,101,108,101,99,116],AV.str a41.1,AV.str [],AV.nils,AV.nils,AV.str [],AV.nils,AV.nils,AV.str [],AV.int .i64 0,AV.int .i64 0,AV.str [],AV.str [],AV.nils,AV.nils,AV.nils,AV.str (ze.op a43.1),AV.int .i64 (ze.v a43.1).1,AV.int .i64 (ze.v a43.1).2.1,AV.str (ze.v a43.1).2.2,AV.str (ze.s a43.1),AV.sl Sh.expr (ze.l a43.1),AV.str []],
  AV.kb true]) [])))))))) (Tr.chk (aU a36 [71,82,65,78,84]) (Tr.br a46.1 (Tr.chk (ki a47 [82,69,65,68]) (Tr.br a48.1 Tr.err Tr.err)) (Tr.chk (aU a47 [82,69,86,79,75,69]) (Tr.br a49.1 (Tr.chk (ki a50 [82,69,65,68]) (Tr.br a51.1 Tr.err Tr.err)) (Tr.chk (aU a50 [77,73,71,82,65,84,69]) (Tr.br a52.1
  (Tr.chk (Oi a53 ([],[],[],[],[],0,0,[],[],[],0,0,[],[],[],())) (Tr.br (bif !a54.1.2.2.1 then true else a54.1.2.1 != a4) (Tr.re (AV.tup [AV.agg [AV.str [],AV.str [],AV.str [],AV.nils,AV.nils,AV.str [],AV.nils,AV.nils,AV.str [],AV.int .i64 0,AV.int .i64 0,AV.str [],AV.str [],AV.nils,AV.nils,AV.nils,AV.str [],
  AV.int .i64 0,AV.int .i64 0,AV.str [],AV.str [],AV.nils,AV.str []],AV.kb false]) []) (Tr.chk (j5 a55) (Tr.br (!a56.2) (Tr.re (AV.tup [AV.agg [AV.str [],AV.str [],AV.str [],AV.nils,AV.nils,AV.str [],AV.nils,AV.nils,AV.str [],AV.int .i64 0,AV.int .i64 0,AV.str [],AV.str [],AV.nils,AV.nils,AV.nils,
  AV.str [],AV.int .i64 0,AV.int .i64 0,AV.str [],AV.str [],AV.nils,AV.str []],AV.kb false]) []) (Tr.re (AV.tup [AV.agg [AV.str a54.2.1,AV.str a54.2.2.1,AV.str a54.2.2.2.1,AV.vec 0,AV.nils,AV.str a54.2.2.2.2.2.1,AV.nils,AV.nils,AV.str (ze.op a54.2.2.2.2.2.2.1),AV.int .i64 (ze.v a54.2.2.2.2.2.2.1).1,AV.int .i64 (ze.v a54.2.2.2.2.2.2.1).2.1,
  AV.str (ze.v a54.2.2.2.2.2.2.1).2.2,AV.str (ze.s a54.2.2.2.2.2.2.1),AV.sl Sh.expr (ze.l a54.2.2.2.2.2.2.1),AV.nils,AV.nils,AV.str a54.2.2.2.2.2.2.2.1,AV.int .i64 a54.2.2.2.2.2.2.2.2.1,AV.int .i64 a54.2.2.2.2.2.2.2.2.2.1,AV.str a54.2.2.2.2.2.2.2.2.2.2.1,AV.str a54.2.2.2.2.2.2.2.2.2.2.2.1,AV.nils,AV.str a54.2.2.2.2.2.2.2.2.2.2.2.2.1],AV.kb true])
  [AO.vec Sh.str a54.2.2.2.2.1]))))) (Tr.br (bif !a52.2.2.2.1 then true else a52.2.2.1 != a4) (Tr.re (AV.tup [AV.agg [AV.str [],AV.str [],AV.str [],AV.nils,AV.nils,AV.str [],AV.nils,AV.nils,AV.str [],AV.int .i64 0,AV.int .i64 0,AV.str [],AV.str [],AV.nils,AV.nils,AV.nils,AV.str [],AV.int .i64 0,AV.int .i64 0,AV.str [],AV.str [],AV.nils,AV.str []],AV.kb false]) [])
  (Tr.chk true (Tr.br true (Tr.re (AV.tup [AV.agg [AV.str [],AV.str [],AV.str [],AV.nils,AV.nils,AV.str [],AV.nils,AV.nils,AV.str [],AV.int .i64 0,AV.int .i64 0,AV.str [],AV.str [],AV.nils,AV.nils,AV.nils,AV.str [],AV.int .i64 0,AV.int .i64 0,AV.str [],AV.str [],AV.nils,AV.str []],AV.kb false]) []) (Tr.re (AV.tup [AV.agg
  [AV.str [],AV.str [],AV.str [],AV.nils,AV.nils,AV.str [],AV.nils,AV.nils,AV.str [],AV.int .i64 0,AV.int .i64 0,AV.str [],AV.str [],AV.nils,AV.nils,AV.nils,AV.str [],AV.int .i64 0,AV.int .i64 0,AV.str [],AV.str [],AV.nils,AV.str []],AV.kb true]) [])))))))))))))))))))))))
def ziE:C0→Tr (C0 ⊕ ao)
 | .h17 l4 z0 z1 jc0 jc1 jc2 jc5 jc8 jc9 jc10 jc11 jc12 jc16 jc17 jc18 jc19 jc20 jc22 lh_3=>
  let a0:=(z1.1,z1.2.1,z1.2.2.1,())
  let a1:=IB a0
  let a2:=[a1.1]
  let a3:=(a1.2.1,a1.2.2.1,a1.2.2.2.1,())
  let a4:=bq a3 [44]
  let a5:=ac a0 [41]
  let a6:=(jc0,jc1,jc2,[],[],jc5,[],[],ze.mk jc8 (jc9,jc10,jc11) jc12 [],lh_3,[],ze.mk jc16 (jc17,jc18,jc19) jc20 [],jc22)
  let a7:=ng a6
  Tr.br z1.2.2.1
  (Tr.chk (GQ a0) (Tr.chk (decide (lh_3.length+a2.length≤1073741824)) (Tr.chk (aU a3 [44]) (Tr.to (C0.h17b l4 a4.1 z0 a4.2 jc0 jc1 jc2 jc5 jc8 jc9 jc10 jc11 jc12 jc16 jc17 jc18 jc19 jc20 jc22 (lh_3++a2))))))
  (Tr.chk (zQ a0 [41]) (Tr.br (bif !a5.2.2.1 then true else a5.2.1 != (↑l4.length:Int)) (Tr.re (AV.tup [AV.agg [AV.str [],AV.str [],AV.str [],AV.nils,AV.nils,AV.str [],AV.nils,AV.nils,AV.str [],AV.int .i64 0,AV.int .i64 0,AV.str [],AV.str [],AV.nils,AV.nils,AV.nils,AV.str [],AV.int .i64 0,AV.int .i64 0,AV.str [],AV.str [],AV.nils,AV.str []],AV.kb false]) [])
  (Tr.chk (j5 a6) (Tr.br (!a7.2) (Tr.re (AV.tup [AV.agg [AV.str [],AV.str [],AV.str [],AV.nils,AV.nils,AV.str [],AV.nils,AV.nils,AV.str [],AV.int .i64 0,AV.int .i64 0,AV.str [],AV.str [],AV.nils,AV.nils,AV.nils,AV.str [],AV.int .i64 0,AV.int .i64 0,AV.str [],AV.str [],AV.nils,AV.str []],AV.kb false]) []) (Tr.re (AV.tup [AV.agg
  [AV.str jc0,AV.str jc1,AV.str jc2,AV.nils,AV.nils,AV.str jc5,AV.nils,AV.nils,AV.str jc8,AV.int .i64 jc9,AV.int .i64 jc10,AV.str jc11,AV.str jc12,AV.nils,AV.vec 0,AV.nils,AV.str jc16,AV.int .i64 jc17,AV.int .i64 jc18,AV.str jc19,AV.str jc20,AV.nils,AV.str jc22],AV.kb true]) [AO.vec zf lh_3])))))
 | .h25 l4 _ z1 z2=>
  let a0:=(z1.1,z1.2.1,z1.2.2.1,())
  let a1:=aO a0
  let a2:=dr a0 [87,72,69,82,69]
  let a3:=(z2.1,z2.2.1,z2.2.2.1,[],[],z2.2.2.2.1,[],[],ze.mk z2.2.2.2.2.1 (z2.2.2.2.2.2.1,z2.2.2.2.2.2.2.1,z2.2.2.2.2.2.2.2.1) z2.2.2.2.2.2.2.2.2.1 [],[],[],zE a2.1,z2.2.2.2.2.2.2.2.2.2.2.2.2.2.2.1)
  let a4:=ng a3
  Tr.br z1.2.2.1 (Tr.chk (au a0) (Tr.chk (zQ (a1.2.1,a1.2.2.1,a1.2.2.2.1,()) [61]) Tr.err))
  (Tr.chk (cD a0 [87,72,69,82,69]) (Tr.br (bif !a2.2.2.2.1 then true else a2.2.2.1 != (↑l4.length:Int)) (Tr.re (AV.tup [AV.agg [AV.str [],AV.str [],AV.str [],AV.nils,AV.nils,AV.str [],AV.nils,AV.nils,AV.str [],AV.int .i64 0,AV.int .i64 0,AV.str [],AV.str [],AV.nils,AV.nils,AV.nils,AV.str [],AV.int .i64 0,AV.int .i64 0,AV.str [],AV.str [],AV.nils,AV.str []],
  AV.kb false]) []) (Tr.chk (j5 a3) (Tr.br (!a4.2) (Tr.re (AV.tup [AV.agg [AV.str [],AV.str [],AV.str [],AV.nils,AV.nils,AV.str [],AV.nils,AV.nils,AV.str [],AV.int .i64 0,AV.int .i64 0,AV.str [],AV.str [],AV.nils,AV.nils,AV.nils,AV.str [],AV.int .i64 0,AV.int .i64 0,AV.str [],AV.str [],AV.nils,AV.str []],AV.kb false]) []) (Tr.re (AV.tup [AV.agg
  [AV.str z2.1,AV.str z2.2.1,AV.str z2.2.2.1,AV.nils,AV.nils,AV.str z2.2.2.2.1,AV.nils,AV.nils,AV.str z2.2.2.2.2.1,AV.int .i64 z2.2.2.2.2.2.1,AV.int .i64 z2.2.2.2.2.2.2.1,AV.str z2.2.2.2.2.2.2.2.1,AV.str z2.2.2.2.2.2.2.2.2.1,AV.nils,AV.nils,AV.nils,AV.str (ze.op a2.1),AV.int .i64 (ze.v a2.1).1,AV.int .i64 (ze.v a2.1).2.1,
  AV.str (ze.v a2.1).2.2,AV.str (ze.s a2.1),AV.sl Sh.expr (ze.l a2.1),AV.str z2.2.2.2.2.2.2.2.2.2.2.2.2.2.2.1],AV.kb true]) [])))))
 | .h17b l4 b8 z0 z1 jc0 jc1 jc2 jc5 jc8 jc9 jc10 jc11 jc12 jc16 jc17 jc18 jc19 jc20 jc22 lh_3=>
  let a0:=(z1.1,z1.2.1,z1.2.2.1,())
  let a1:=IB a0
  let a2:=[a1.1]
  let a3:=(a1.2.1,a1.2.2.1,a1.2.2.2.1,())
  let a4:=bq a3 [44]
  let a5:=ac a0 [41]
  let a6:=(jc0,jc1,jc2,[],[],jc5,[],[],ze.mk jc8 (jc9,jc10,jc11) jc12 [],lh_3,[],ze.mk jc16 (jc17,jc18,jc19) jc20 [],jc22)
  let a7:=ng a6
  Tr.br (bif b8 then z1.2.2.1 else false)
  (Tr.chk (GQ a0) (Tr.chk (decide (lh_3.length+a2.length≤1073741824)) (Tr.chk (aU a3 [44]) (Tr.to (C0.h17b l4 a4.1 z0 a4.2 jc0 jc1 jc2 jc5 jc8 jc9 jc10 jc11 jc12 jc16 jc17 jc18 jc19 jc20 jc22 (lh_3++a2))))))
  (Tr.chk (zQ a0 [41]) (Tr.br (bif !a5.2.2.1 then true else a5.2.1 != (↑l4.length:Int)) (Tr.re (AV.tup [AV.agg [AV.str [],AV.str [],AV.str [],AV.nils,AV.nils,AV.str [],AV.nils,AV.nils,AV.str [],AV.int .i64 0,AV.int .i64 0,AV.str [],AV.str [],AV.nils,AV.nils,AV.nils,AV.str [],AV.int .i64 0,AV.int .i64 0,AV.str [],AV.str [],AV.nils,AV.str []],AV.kb false]) [])
  (Tr.chk (j5 a6) (Tr.br (!a7.2) (Tr.re (AV.tup [AV.agg [AV.str [],AV.str [],AV.str [],AV.nils,AV.nils,AV.str [],AV.nils,AV.nils,AV.str [],AV.int .i64 0,AV.int .i64 0,AV.str [],AV.str [],AV.nils,AV.nils,AV.nils,AV.str [],AV.int .i64 0,AV.int .i64 0,AV.str [],AV.str [],AV.nils,AV.str []],AV.kb false]) []) (Tr.re (AV.tup [AV.agg
  [AV.str jc0,AV.str jc1,AV.str jc2,AV.nils,AV.nils,AV.str jc5,AV.nils,AV.nils,AV.str jc8,AV.int .i64 jc9,AV.int .i64 jc10,AV.str jc11,AV.str jc12,AV.nils,AV.vec 0,AV.nils,AV.str jc16,AV.int .i64 jc17,AV.int .i64 jc18,AV.str jc19,AV.str jc20,AV.nils,AV.str jc22],AV.kb true]) [AO.vec zf lh_3])))))
def w5 (x0:Sem Sh.str):=zW [zo,Sh.bool] ziE 100000000 (zh3 x0)
def Od (x0:Sem Sh.str):=(w5 x0).isSome
def bW (x0:Sem Sh.str):=o2 (w5 x0)
def zai:=FT [Sh.str] [zo,Sh.bool] fun x=>w5 x.1
theorem Vt:FK 62 zai:=v8.T1 (f:=Tryz.f62) (keep:=zei) (e:=zgK)

def zcR:=L2.add 62 zai
theorem JA:zl zcR:=v8.add Vt
end

noncomputable def zhX (x0:Sem Sh.str):Tr (Empty ⊕ ao):=
 Tr.chk (Od x0)
 (Tr.re
  (AV.agg [AV.str (bW x0).1.1,AV.str (bW x0).1.2.1,AV.str (bW x0).1.2.2.1,AV.sl Sh.str (bW x0).1.2.2.2.1,AV.sl zi (bW x0).1.2.2.2.2.1,AV.str (bW x0).1.2.2.2.2.2.1,AV.sl Sh.str (bW x0).1.2.2.2.2.2.2.1,AV.sl (Sh.str.pr Sh.str) (bW x0).1.2.2.2.2.2.2.2.1,AV.str (ze.op (bW x0).1.2.2.2.2.2.2.2.2.1),
  AV.int .i64 (ze.v (bW x0).1.2.2.2.2.2.2.2.2.1).1,AV.int .i64 (ze.v (bW x0).1.2.2.2.2.2.2.2.2.1).2.1,AV.str (ze.v (bW x0).1.2.2.2.2.2.2.2.2.1).2.2,AV.str (ze.s (bW x0).1.2.2.2.2.2.2.2.2.1),AV.sl Sh.expr (ze.l (bW x0).1.2.2.2.2.2.2.2.2.1),AV.sl zf (bW x0).1.2.2.2.2.2.2.2.2.2.1,AV.sl (Sh.str.pr Sh.expr) (bW x0).1.2.2.2.2.2.2.2.2.2.2.1,
  AV.str (ze.op (bW x0).1.2.2.2.2.2.2.2.2.2.2.2.1),AV.int .i64 (ze.v (bW x0).1.2.2.2.2.2.2.2.2.2.2.2.1).1,AV.int .i64 (ze.v (bW x0).1.2.2.2.2.2.2.2.2.2.2.2.1).2.1,AV.str (ze.v (bW x0).1.2.2.2.2.2.2.2.2.2.2.2.1).2.2,AV.str (ze.s (bW x0).1.2.2.2.2.2.2.2.2.2.2.2.1),AV.sl Sh.expr (ze.l (bW x0).1.2.2.2.2.2.2.2.2.2.2.2.1),
  AV.str (bW x0).1.2.2.2.2.2.2.2.2.2.2.2.2])
  [])
noncomputable def zeu (x0:Sem Sh.str):=zW [zo] t0 100000000 (zhX x0)
noncomputable def ZV:=FT [Sh.str] [zo] fun x=>zeu x.1
theorem U4:FK 32 ZV:=JA.T1 (f:=Tryz.f32) (keep:=k0) (e:=e0)


noncomputable def RX:zF:=zU (List.replicate 1 none) (bZ BF Tryz.f133 (List.replicate 1 none))
theorem Pp:FK 133 RX:=aw _ pc (aS (by kernel_rfl))

noncomputable def Sk:zF:=zU (List.replicate 2 none) (bZ BF Tryz.f202 (List.replicate 2 none))
theorem PL:FK 202 Sk:=aw _ pc (aS (by kernel_rfl))

noncomputable def FA:=BF.addL [(133,RX),(202,Sk)]
theorem vF:zl FA:=pc.addL <| fc Pp <| fc PL <|  jn

noncomputable def RZ:zF:=zU (List.replicate 3 none) (bZ FA Tryz.f134 (List.replicate 3 none))
theorem Pr:FK 134 RZ:=aw _ vF (aS (by kernel_rfl))

noncomputable def vG:=FA.add 134 RZ
theorem vH:zl vG:=vF.add Pr

abbrev M1:=mn [(1,[0,1,2,3,8]),(4,[0,1,2,3,8,9])]
inductive sq where
 | h1 (i1:Int) (i2:Int) (i3f_0_0:Int) (i8:Int) (lh_0:List (Sem zf.sl))
 | h4 (i1:Int) (i2:Int) (i3f_0_0:Int) (i8:Int) (i9:Int) (lh_0:List (Sem zf.sl))
abbrev Dq:sq→Nat×St
 | .h1 i1 i2 i3f_0_0 i8 lh_0=>(1,⟨tm 53 [(0,AV.vec 0),(1,AV.int .i64 i1),(2,AV.int .i64 i2),(3,AV.clo (Fn.func 134) [AV.agg [AV.int .i64 i3f_0_0]] []),(8,AV.int .i64 i8)],[AO.vec zf.sl lh_0]⟩)
 | .h4 i1 i2 i3f_0_0 i8 i9 lh_0=>(4,⟨tm 53 [(0,AV.vec 0),(1,AV.int .i64 i1),(2,AV.int .i64 i2),(3,AV.clo (Fn.func 134) [AV.agg [AV.int .i64 i3f_0_0]] []),(8,AV.int .i64 i8),(9,AV.int .i64 i9)],[AO.vec zf.sl lh_0]⟩)
theorem X3:zA vG.P 248 Tryz.f248 4:=aS (by kernel_rfl)
noncomputable def HO (l:List (List (Sem zf))) (a:Int) (b:Int) (k:Int):Tr (sq ⊕ ao):=
 Tr.to (sq.h1 a b k (IntKind.i64.wrap (a+1)) l)
theorem WQ (l:List (List (Sem zf))) (a:Int) (b:Int) (k:Int):rn vG 1 M1 Tryz.f248 [AV.vec 0,AV.int .i64 a,AV.int .i64 b,AV.clo (Fn.func 134) [AV.agg [AV.int .i64 k]] []] [AO.vec (Sh.sl zf) l]=(HO l a b k).map (lf Tryz.f248 Dq):=by kernel_rfl
noncomputable def oR:sq→Tr (sq ⊕ ao)
 | .h1 i1 i2 i3f_0_0 i8 lh_0=>
  Tr.br (decide (i8 < i2)) (Tr.to (sq.h4 i1 i2 i3f_0_0 i8 i8 lh_0))
  (Tr.re (AV.tup []) [AO.vec zf.sl lh_0])
 | .h4 i1 i2 i3f_0_0 i8 i9 lh_0=>
  let a0:=decide (i9.toNat < lh_0.length)
  let a1:=IntKind.i64.wrap (i9 - 1)
  let a2:=zI a1 lh_0.length
  let a3:=decide (a1.toNat < lh_0.length)
  let a4:=decide (i3f_0_0 < 0)
  let a5:=lh_0.getD i9.toNat (zj zf.sl)
  let a6:=(↑(length a5):Int)
  let a7:=bif a4 then true else decide (i3f_0_0 ≥ a6)
  let a8:=lh_0.getD a1.toNat (zj zf.sl)
  let a9:=(↑(length a8):Int)
  let a10:=bif a4 then true else decide (i3f_0_0 ≥ a9)
  let a11:=bif a10 then true else zI i3f_0_0 (length a8)
  let a12:=getD a8 i3f_0_0.toNat (zj zf)
  let a13:=getD a5 i3f_0_0.toNat (zj zf)
  let a14:=bif a7 then bif a10 then be (0,0,[]) (0,0,[]) else be (0,0,[]) a12 else bif a10 then be a13 (0,0,[]) else be a13 a12
  let a15:=lh_0.set i9.toNat a8
  Tr.chk (bif decide (i9 > i1) then zI i9 lh_0.length&&(a0&&(a2&&(a3&&bif a7 then a11 else zI i3f_0_0 (length a5)&&a11))) else true)
  (Tr.br (bif decide (i9 > i1) then decide (a14 < 0) else false) (Tr.chk a2 (Tr.chk a3 (Tr.chk (zI i9 lh_0.length) (Tr.chk a0 (Tr.chk (zI i9 lh_0.length) (Tr.chk a0 (Tr.chk (zI a1 a15.length) (Tr.chk (decide (a1.toNat < a15.length)) (Tr.to (sq.h4 i1 i2 i3f_0_0 i8 a1 (a15.set a1.toNat a5))))))))))) (Tr.to (sq.h1 i1 i2 i3f_0_0 (IntKind.i64.wrap (i8+1)) lh_0)))
theorem Yd:∀ s,run vG 1 M1 (Func.results Tryz.f248).toList 400 (zy Tryz.f248 (Dq s).1) (Dq s).2=(oR s).map (lf Tryz.f248 Dq):=by intro s; cases s <;> kernel_rfl
noncomputable def F9 (l:List (List (Sem zf))) (a:Int) (b:Int) (k:Int):=bl oR 100000000 (HO l a b k)


def CO (r:Option ao):Option (List (List (Sem zf))):=match r with
 | some (.tup [],[.vec (.sl wM) l])=>some l
 | _=>none
theorem ot {r:Option ao} (h:(CO r).isSome=true):r=some (.tup [],[.vec (.sl zf) ((CO r).getD [])]):=by
 unfold CO at h ⊢
 split at h
 ·rfl
 ·cases h
noncomputable def rM (l:List (List (Sem zf))) (a b k:Int):=CO (F9 l a b k)
noncomputable def SL:cG [none,none,none,none]:=fun x h=>match x,h with
 | (.vec 0,.int .i64 a,.int .i64 b,.clo (.func 134) [.agg [.int .i64 k]] [],_),[.vec (.sl wM) l]=>.chk ((rM l a b k).isSome) (.ok (.tup [],[.vec (.sl zf) ((rM l a b k).getD [])]))
 | _,_=>.err
noncomputable def Sn:zF:=zU [none,none,none,none] SL
theorem PO:FK 248 Sn:=by
 refine fv (ι:=List (List (Sem zf))×Int×Int×Int) (args:=fun y=>[AV.vec 0,AV.int .i64 y.2.1,AV.int .i64 y.2.2.1,AV.clo (Fn.func 134) [AV.agg [AV.int .i64 y.2.2.2]] []]) (heap:=fun y=>[AO.vec zf.sl y.1]) (i:=fun y=>HO y.1 y.2.1 y.2.2.1 y.2.2.2) (t:=oR) (e:=Dq) (n:=100000000) (n0:=1) vH X3 (fun _=>rfl) (fun y=>WQ _ _ _ _) Yd (fun x h res hv=>?_)
 unfold SL at hv
 split at hv
 ·rename_i a b k u l
  simp only [Tr.val] at hv
  split at hv
  ·rename_i h1
   simp only [ap] at hv
   subst hv
   exact ⟨(l,a,b,k),rfl,rfl,ot h1⟩
  ·cases hv
 ·simp at hv

noncomputable def vI:=vG.add 248 Sn
theorem vJ:zl vI:=vH.add PO
noncomputable section

abbrev M4:=mn [(1,[0,1,2,3,10])]
inductive yz where
 | h1 (i1:Int) (i2:Int) (i3:Int) (i10:Int) (lh_0:List (Sem zf.sl))
abbrev Dt:yz→Nat×St
 | .h1 i1 i2 i3 i10 lh_0=>(1,⟨tm 38 [(0,AV.vec 0),(1,AV.int .i64 i1),(2,AV.int .i64 i2),(3,AV.int .i64 i3),(10,AV.int .i64 i10)],[AO.vec zf.sl lh_0]⟩)
theorem X5:zA vI.P 293 Tryz.f293 5:=aS (by kernel_rfl)
def Mw (l:List (List (Sem zf))) (a:Int) (b:Int) (n:Int) (_:Int):Tr (yz ⊕ ao):=
 Tr.to (yz.h1 a b n 0 l)
theorem WW (l:List (List (Sem zf))) (a:Int) (b:Int) (n:Int) (k:Int):rn vI 1 M4 Tryz.f293 [AV.vec 0,AV.int .i64 a,AV.int .i64 b,AV.int .i64 n,AV.clo (Fn.func 134) [AV.agg [AV.int .i64 k]] []] [AO.vec (Sh.sl zf) l]=(Mw l a b n k).map (lf Tryz.f293 Dt):=by kernel_rfl
def AX:yz→Tr (yz ⊕ ao)
 | .h1 i1 i2 i3 i10 lh_0=>
  let a0:=IntKind.i64.wrap (i2+i10)
  let a1:=IntKind.i64.wrap (i1+i10)
  let a2:=zI a1 lh_0.length
  let a3:=decide (a1.toNat < lh_0.length)
  let a4:=lh_0.set a1.toNat (lh_0.getD a0.toNat (zj zf.sl))
  Tr.br (decide (i10 < i3))
  (Tr.chk (zI a0 lh_0.length) (Tr.chk (decide (a0.toNat < lh_0.length)) (Tr.chk a2 (Tr.chk a3 (Tr.chk a2 (Tr.chk a3 (Tr.chk (zI a0 a4.length) (Tr.chk (decide (a0.toNat < a4.length)) (Tr.to (yz.h1 i1 i2 i3 (IntKind.i64.wrap (i10+1)) (a4.set a0.toNat (lh_0.getD a1.toNat (zj zf.sl)))))))))))))
  (Tr.re (AV.tup []) [AO.vec zf.sl lh_0])
theorem Yg:∀ s,run vI 1 M4 (Func.results Tryz.f293).toList 400 (zy Tryz.f293 (Dt s).1) (Dt s).2=(AX s).map (lf Tryz.f293 Dt):=by intro s; cases s <;> kernel_rfl
def zfV (l:List (List (Sem zf))) (a:Int) (b:Int) (n:Int) (k:Int):=bl AX 100000000 (Mw l a b n k)

def GY (l:List (List (Sem zf))) (a b n k:Int):=CO (zfV l a b n k)
def SO:cG [none,none,none,none,none]:=fun x h=>match x,h with
 | (.vec 0,.int .i64 a,.int .i64 b,.int .i64 n,.clo (.func 134) [.agg [.int .i64 k]] [],_),[.vec (.sl wM) l]=>.chk ((GY l a b n k).isSome) (.ok (.tup [],[.vec (.sl zf) ((GY l a b n k).getD [])]))
 | _,_=>.err
def Sv:zF:=zU [none,none,none,none,none] SO
theorem PV:FK 293 Sv:=by
 refine fv (ι:=List (List (Sem zf))×Int×Int×Int×Int) (args:=fun y=>[AV.vec 0,AV.int .i64 y.2.1,AV.int .i64 y.2.2.1,AV.int .i64 y.2.2.2.1,AV.clo (Fn.func 134) [AV.agg [AV.int .i64 y.2.2.2.2]] []]) (heap:=fun y=>[AO.vec zf.sl y.1]) (i:=fun y=>Mw y.1 y.2.1 y.2.2.1 y.2.2.2.1 y.2.2.2.2) (t:=AX) (e:=Dt) (n:=100000000) (n0:=1) vJ X5 (fun _=>rfl) (fun y=>WW _ _ _ _ _) Yg (fun x h res hv=>?_)
 unfold SO at hv
 split at hv
 ·rename_i a b n k u l
  simp only [Tr.val] at hv
  split at hv
  ·rename_i h1
   simp only [ap] at hv
   subst hv
   exact ⟨(l,a,b,n,k),rfl,rfl,ot h1⟩
  ·cases hv
 ·simp at hv

def DL:=vI.add 293 Sv
theorem Ab:zl DL:=vJ.add PV
end
noncomputable section

abbrev M3:=mn [(2,[0,2,4,10,11])]
inductive uu where
 | h2 (i2:Int) (i4f_0_0:Int) (i10:Int) (i11:Int) (lh_0:List (Sem zf.sl))
abbrev Ds:uu→Nat×St
 | .h2 i2 i4f_0_0 i10 i11 lh_0=>(2,⟨tm 58 [(0,AV.vec 0),(2,AV.int .i64 i2),(4,AV.clo (Fn.func 134) [AV.agg [AV.int .i64 i4f_0_0]] []),(10,AV.int .i64 i10),(11,AV.int .i64 i11)],[AO.vec zf.sl lh_0]⟩)
theorem X4:zA DL.P 277 Tryz.f277 5:=aS (by kernel_rfl)
def HP (l:List (List (Sem zf))) (a:Int) (m:Int) (b:Int) (k:Int):Tr (uu ⊕ ao):=
 Tr.to (uu.h2 m k (IntKind.i64.wrap (m - a)) (IntKind.i64.wrap (b - m)) l)
theorem WV (l:List (List (Sem zf))) (a:Int) (m:Int) (b:Int) (k:Int):rn DL 1 M3 Tryz.f277 [AV.vec 0,AV.int .i64 a,AV.int .i64 m,AV.int .i64 b,AV.clo (Fn.func 134) [AV.agg [AV.int .i64 k]] []] [AO.vec (Sh.sl zf) l]=(HP l a m b k).map (lf Tryz.f277 Ds):=by kernel_rfl
def xD:uu→Tr (uu ⊕ ao)
 | .h2 i2 i4f_0_0 i10 i11 lh_0=>
  let a0:=IntKind.i64.wrap (i2 - i10)
  let a1:=GY lh_0 a0 i2 i11 i4f_0_0
  let a2:=GY lh_0 a0 (IntKind.i64.wrap (IntKind.i64.wrap (i2+i11) - i10)) i10 i4f_0_0
  let a3:=GY lh_0 a0 i2 i10 i4f_0_0
  Tr.br (i10 != i11)
  (Tr.br (decide (i10 > i11)) (Tr.chk a1.isSome (Tr.to (uu.h2 i2 i4f_0_0 (IntKind.i64.wrap (i10 - i11)) i11 (a1.getD [])))) (Tr.chk a2.isSome (Tr.to (uu.h2 i2 i4f_0_0 i10 (IntKind.i64.wrap (i11 - i10)) (a2.getD [])))))
  (Tr.chk a3.isSome (Tr.re (AV.tup []) [AO.vec zf.sl (a3.getD [])]))
theorem Yf:∀ s,run DL 1 M3 (Func.results Tryz.f277).toList 400 (zy Tryz.f277 (Ds s).1) (Ds s).2=(xD s).map (lf Tryz.f277 Ds):=by intro s; cases s <;> kernel_rfl
def YB (l:List (List (Sem zf))) (a:Int) (m:Int) (b:Int) (k:Int):=bl xD 100000000 (HP l a m b k)

def Ke (l:List (List (Sem zf))) (a m b k:Int):=CO (YB l a m b k)
def SN:cG [none,none,none,none,none]:=fun x h=>match x,h with
 | (.vec 0,.int .i64 a,.int .i64 m,.int .i64 b,.clo (.func 134) [.agg [.int .i64 k]] [],_),[.vec (.sl wM) l]=>.chk ((Ke l a m b k).isSome) (.ok (.tup [],[.vec (.sl zf) ((Ke l a m b k).getD [])]))
 | _,_=>.err
def Sr:zF:=zU [none,none,none,none,none] SN
theorem PS:FK 277 Sr:=by
 refine fv (ι:=List (List (Sem zf))×Int×Int×Int×Int) (args:=fun y=>[AV.vec 0,AV.int .i64 y.2.1,AV.int .i64 y.2.2.1,AV.int .i64 y.2.2.2.1,AV.clo (Fn.func 134) [AV.agg [AV.int .i64 y.2.2.2.2]] []]) (heap:=fun y=>[AO.vec zf.sl y.1]) (i:=fun y=>HP y.1 y.2.1 y.2.2.1 y.2.2.2.1 y.2.2.2.2) (t:=xD) (e:=Ds) (n:=100000000) (n0:=1) Ab X4 (fun _=>rfl) (fun y=>WV _ _ _ _ _) Yf (fun x h res hv=>?_)
 unfold SN at hv
 split at hv
 ·rename_i a m b k u l
  simp only [Tr.val] at hv
  split at hv
  ·rename_i h1
   simp only [ap] at hv
   subst hv
   exact ⟨(l,a,m,b,k),rfl,rfl,ot h1⟩
  ·cases hv
 ·simp at hv

def HF:=DL.add 277 Sr
theorem Ac:zl HF:=Ab.add PS
end
noncomputable section
abbrev SM:=List (List (Sem zf))→Int→Int→Int→Int→Option (List (List (Sem zf)))
def GSm (o:SM):cG [none,none,none,none,none]:=fun x h=>match x,h with
 | (.vec 0,.int .i64 a,.int .i64 m,.int .i64 b,.clo (.func 134) [.agg [.int .i64 k]] [],_),[.vec (.sl wM) l]=>.chk ((o l a m b k).isSome) (.ok (.tup [],[.vec (.sl zf) ((o l a m b k).getD [])]))
 | _,_=>.err
def FSm (o:SM):zF:=zU [none,none,none,none,none] (GSm o)
def vj (o:SM):bx:=HF.add 249 (FSm o)
theorem Fz {o:SM} (h:FK 249 (FSm o)):zl (vj o):=Ac.add h

abbrev M2:=mn [(3,[0,1,4,10,11]),(9,[0,10,13]),(15,[0,2,4,14,15]),(21,[0,14,17]),(33,[0,1,2,3,4,18,19,20,21,22])]
inductive gA where
 | h3 (i1:Int) (i4f_0_0:Int) (i10:Int) (i11:Int) (lh_0:List (Sem zf.sl))
 | h15 (i2:Int) (i4f_0_0:Int) (i14:Int) (i15:Int) (lh_0:List (Sem zf.sl))
 | h33 (i1:Int) (i2:Int) (i3:Int) (i4f_0_0:Int) (i18:Int) (i19:Int) (i20:Int) (i21:Int) (i22:Int) (lh_0:List (Sem zf.sl))
 | h9 (i10:Int) (i13:Int) (lh_0:List (Sem zf.sl))
 | h21 (i14:Int) (i17:Int) (lh_0:List (Sem zf.sl))
abbrev Dr:gA→Nat×St
 | .h3 i1 i4f_0_0 i10 i11 lh_0=>(3,⟨tm 220 [(0,AV.vec 0),(1,AV.int .i64 i1),(4,AV.clo (Fn.func 134) [AV.agg [AV.int .i64 i4f_0_0]] []),(10,AV.int .i64 i10),(11,AV.int .i64 i11)],[AO.vec zf.sl lh_0]⟩)
 | .h15 i2 i4f_0_0 i14 i15 lh_0=>(15,⟨tm 220 [(0,AV.vec 0),(2,AV.int .i64 i2),(4,AV.clo (Fn.func 134) [AV.agg [AV.int .i64 i4f_0_0]] []),(14,AV.int .i64 i14),(15,AV.int .i64 i15)],[AO.vec zf.sl lh_0]⟩)
 | .h33 i1 i2 i3 i4f_0_0 i18 i19 i20 i21 i22 lh_0=>(33,⟨tm 220 [(0,AV.vec 0),(1,AV.int .i64 i1),(2,AV.int .i64 i2),(3,AV.int .i64 i3),(4,AV.clo (Fn.func 134) [AV.agg [AV.int .i64 i4f_0_0]] []),(18,AV.int .i64 i18),(19,AV.int .i64 i19),(20,AV.int .i64 i20),(21,AV.int .i64 i21),(22,AV.int .i64 i22)],[AO.vec zf.sl lh_0]⟩)
 | .h9 i10 i13 lh_0=>(9,⟨tm 220 [(0,AV.vec 0),(10,AV.int .i64 i10),(13,AV.int .i64 i13)],[AO.vec zf.sl lh_0]⟩)
 | .h21 i14 i17 lh_0=>(21,⟨tm 220 [(0,AV.vec 0),(14,AV.int .i64 i14),(17,AV.int .i64 i17)],[AO.vec zf.sl lh_0]⟩)
theorem B1 (o:SM):zA (vj o).P 249 Tryz.f249 5:=aS (by kernel_rfl)
def sP (_:SM) (l:List (List (Sem zf))) (a:Int) (m:Int) (b:Int) (k:Int):Tr (gA ⊕ ao):=
 let a0:=IntKind.i64.wrap (IntKind.u64.wrap (IntKind.i64.wrap (a+b)) / 2)
 let a1:=IntKind.i64.wrap (a0+m)
 let a2:=IntKind.i64.wrap (a1 - 1)
 Tr.br (IntKind.i64.wrap (m - a)==1) (Tr.to (gA.h3 a k m b l))
 (Tr.br (IntKind.i64.wrap (b - m)==1) (Tr.to (gA.h15 m k a m l))
  (Tr.chk true (Tr.br (decide (m > a0)) (Tr.to (gA.h33 a m b k a0 a1 (IntKind.i64.wrap (a1 - b)) a0 a2 l)) (Tr.to (gA.h33 a m b k a0 a1 a m a2 l)))))
theorem WR (o:SM) (l:List (List (Sem zf))) (a:Int) (m:Int) (b:Int) (k:Int):rn (vj o) 1 M2 Tryz.f249 [AV.vec 0,AV.int .i64 a,AV.int .i64 m,AV.int .i64 b,AV.clo (Fn.func 134) [AV.agg [AV.int .i64 k]] []] [AO.vec (Sh.sl zf) l]=(sP o l a m b k).map (lf Tryz.f249 Dr):=by kernel_rfl
def dJ (o:SM):gA→Tr (gA ⊕ ao)
 | .h3 i1 i4f_0_0 i10 i11 lh_0=>
  let a0:=IntKind.i64.wrap (IntKind.u64.wrap (IntKind.i64.wrap (i10+i11)) / 2)
  let a1:=decide (i4f_0_0 < 0)
  let a2:=lh_0.getD a0.toNat (zj zf.sl)
  let a3:=(↑(length a2):Int)
  let a4:=bif a1 then true else decide (i4f_0_0 ≥ a3)
  let a5:=lh_0.getD i1.toNat (zj zf.sl)
  let a6:=(↑(length a5):Int)
  let a7:=bif a1 then true else decide (i4f_0_0 ≥ a6)
  let a8:=bif a7 then true else zI i4f_0_0 (length a5)
  let a9:=getD a5 i4f_0_0.toNat (zj zf)
  let a10:=getD a2 i4f_0_0.toNat (zj zf)
  let a11:=bif a4 then bif a7 then be (0,0,[]) (0,0,[]) else be (0,0,[]) a9 else bif a7 then be a10 (0,0,[]) else be a10 a9
  Tr.br (decide (i10 < i11))
  (Tr.chk true (Tr.chk (zI a0 lh_0.length) (Tr.chk (decide (a0.toNat < lh_0.length)) (Tr.chk (zI i1 lh_0.length) (Tr.chk (decide (i1.toNat < lh_0.length)) (Tr.chk (bif a4 then a8 else zI i4f_0_0 (length a2)&&a8) (Tr.br (decide (a11 < 0)) (Tr.to (gA.h3 i1 i4f_0_0 (IntKind.i64.wrap (a0+1)) i11 lh_0)) (Tr.to (gA.h3 i1 i4f_0_0 i10 a0 lh_0)))))))))
  (Tr.to (gA.h9 i10 i1 lh_0))
 | .h15 i2 i4f_0_0 i14 i15 lh_0=>
  let a0:=IntKind.i64.wrap (IntKind.u64.wrap (IntKind.i64.wrap (i14+i15)) / 2)
  let a1:=decide (i4f_0_0 < 0)
  let a2:=lh_0.getD i2.toNat (zj zf.sl)
  let a3:=(↑(length a2):Int)
  let a4:=bif a1 then true else decide (i4f_0_0 ≥ a3)
  let a5:=lh_0.getD a0.toNat (zj zf.sl)
  let a6:=(↑(length a5):Int)
  let a7:=bif a1 then true else decide (i4f_0_0 ≥ a6)
  let a8:=bif a7 then true else zI i4f_0_0 (length a5)
  let a9:=getD a5 i4f_0_0.toNat (zj zf)
  let a10:=getD a2 i4f_0_0.toNat (zj zf)
  let a11:=bif a4 then bif a7 then be (0,0,[]) (0,0,[]) else be (0,0,[]) a9 else bif a7 then be a10 (0,0,[]) else be a10 a9
  Tr.br (decide (i14 < i15))
  (Tr.chk true (Tr.chk (zI i2 lh_0.length) (Tr.chk (decide (i2.toNat < lh_0.length)) (Tr.chk (zI a0 lh_0.length) (Tr.chk (decide (a0.toNat < lh_0.length)) (Tr.chk (bif a4 then a8 else zI i4f_0_0 (length a2)&&a8) (Tr.br (!decide (a11 < 0)) (Tr.to (gA.h15 i2 i4f_0_0 (IntKind.i64.wrap (a0+1)) i15 lh_0)) (Tr.to (gA.h15 i2 i4f_0_0 i14 a0 lh_0)))))))))
  (Tr.to (gA.h21 i14 i2 lh_0))
 | .h33 i1 i2 i3 i4f_0_0 i18 i19 i20 i21 i22 lh_0=>
  let a0:=IntKind.i64.wrap (IntKind.u64.wrap (IntKind.i64.wrap (i20+i21)) / 2)
  let a1:=IntKind.i64.wrap (i22 - a0)
  let a2:=decide (i4f_0_0 < 0)
  let a3:=lh_0.getD a1.toNat (zj zf.sl)
  let a4:=(↑(length a3):Int)
  let a5:=bif a2 then true else decide (i4f_0_0 ≥ a4)
  let a6:=lh_0.getD a0.toNat (zj zf.sl)
  let a7:=(↑(length a6):Int)
  let a8:=bif a2 then true else decide (i4f_0_0 ≥ a7)
  let a9:=bif a8 then true else zI i4f_0_0 (length a6)
  let a10:=getD a6 i4f_0_0.toNat (zj zf)
  let a11:=getD a3 i4f_0_0.toNat (zj zf)
  let a12:=bif a5 then bif a8 then be (0,0,[]) (0,0,[]) else be (0,0,[]) a10 else bif a8 then be a11 (0,0,[]) else be a11 a10
  let a13:=IntKind.i64.wrap (i19 - i20)
  let a14:=Ke lh_0 i20 i2 a13 i4f_0_0
  let a15:=bif decide (i1 < i20) then decide (i20 < i18) else false
  let a16:=a14.getD []
  let a17:=o a16 i1 i20 i18 i4f_0_0
  let a18:=bif decide (i18 < a13) then decide (a13 < i3) else false
  let a19:=a17.getD []
  let a20:=o a19 i18 a13 i3 i4f_0_0
  let a21:=o a16 i18 a13 i3 i4f_0_0
  let a22:=o lh_0 i1 i20 i18 i4f_0_0
  let a23:=a22.getD []
  let a24:=o a23 i18 a13 i3 i4f_0_0
  let a25:=o lh_0 i18 a13 i3 i4f_0_0
  Tr.br (decide (i20 < i21))
  (Tr.chk true (Tr.chk (zI a1 lh_0.length) (Tr.chk (decide (a1.toNat < lh_0.length)) (Tr.chk (zI a0 lh_0.length) (Tr.chk (decide (a0.toNat < lh_0.length)) (Tr.chk (bif a5 then a9 else zI i4f_0_0 (length a3)&&a9) (Tr.br (!decide (a12 < 0)) (Tr.to (gA.h33 i1 i2 i3 i4f_0_0 i18 i19 (IntKind.i64.wrap (a0+1)) i21 i22 lh_0))
  (Tr.to (gA.h33 i1 i2 i3 i4f_0_0 i18 i19 i20 a0 i22 lh_0)))))))))
  (Tr.br (bif decide (i20 < i2) then decide (i2 < a13) else false) (Tr.chk a14.isSome (Tr.br a15 (Tr.chk a17.isSome (Tr.br a18 (Tr.chk a20.isSome (Tr.re (AV.tup []) [AO.vec zf.sl (a20.getD [])])) (Tr.re (AV.tup []) [AO.vec zf.sl a19]))) (Tr.br a18 (Tr.chk a21.isSome (Tr.re (AV.tup []) [AO.vec zf.sl (a21.getD [])])) (Tr.re (AV.tup []) [AO.vec zf.sl a16])))) (Tr.br a15
  (Tr.chk a22.isSome (Tr.br a18 (Tr.chk a24.isSome (Tr.re (AV.tup []) [AO.vec zf.sl (a24.getD [])])) (Tr.re (AV.tup []) [AO.vec zf.sl a23]))) (Tr.br a18 (Tr.chk a25.isSome (Tr.re (AV.tup []) [AO.vec zf.sl (a25.getD [])])) (Tr.re (AV.tup []) [AO.vec zf.sl lh_0]))))
 | .h9 i10 i13 lh_0=>
  let a0:=IntKind.i64.wrap (i10 - 1)
  let a1:=IntKind.i64.wrap (i13+1)
  let a2:=decide (i13.toNat < lh_0.length)
  let a3:=lh_0.set i13.toNat (lh_0.getD a1.toNat (zj zf.sl))
  Tr.br (decide (i13 < a0))
  (Tr.chk (zI a1 lh_0.length) (Tr.chk (decide (a1.toNat < lh_0.length)) (Tr.chk (zI i13 lh_0.length) (Tr.chk a2 (Tr.chk (zI i13 lh_0.length) (Tr.chk a2 (Tr.chk (zI a1 a3.length) (Tr.chk (decide (a1.toNat < a3.length)) (Tr.to (gA.h9 i10 a1 (a3.set a1.toNat (lh_0.getD i13.toNat (zj zf.sl)))))))))))))
  (Tr.re (AV.tup []) [AO.vec zf.sl lh_0])
 | .h21 i14 i17 lh_0=>
  let a0:=IntKind.i64.wrap (i17 - 1)
  let a1:=decide (i17.toNat < lh_0.length)
  let a2:=lh_0.set i17.toNat (lh_0.getD a0.toNat (zj zf.sl))
  Tr.br (decide (i17 > i14))
  (Tr.chk (zI a0 lh_0.length) (Tr.chk (decide (a0.toNat < lh_0.length)) (Tr.chk (zI i17 lh_0.length) (Tr.chk a1 (Tr.chk (zI i17 lh_0.length) (Tr.chk a1 (Tr.chk (zI a0 a2.length) (Tr.chk (decide (a0.toNat < a2.length)) (Tr.to (gA.h21 i14 a0 (a2.set a0.toNat (lh_0.getD i17.toNat (zj zf.sl)))))))))))))
  (Tr.re (AV.tup []) [AO.vec zf.sl lh_0])
theorem Ye (o:SM):∀ s,run (vj o) 1 M2 (Func.results Tryz.f249).toList 400 (zy Tryz.f249 (Dr s).1) (Dr s).2=(dJ o s).map (lf Tryz.f249 Dr):=by intro s; cases s <;> kernel_rfl

def smS (o:SM):SM:=fun l a m b k=>CO (bl (dJ o) 100000000 (sP o l a m b k))
def xA:Nat→SM
 | 0=>fun _ _ _ _ _=>none
 | n+1=>smS (xA n)
theorem Hc:∀ n,FK 249 (FSm (xA n))
 | 0=>fN (E:=HF) ⟨Tryz.f249,(B1 (xA 0)).1,(B1 (xA 0)).2.1,(B1 (xA 0)).2.2.1⟩ fun x h0 res h=>by
  exfalso
  unfold GSm at h
  split at h
  ·simp [xA,Tr.val] at h
  ·simp at h
 | n+1=>by
  refine fv (E:=vj (xA n)) (ι:=List (List (Sem zf))×Int×Int×Int×Int) (args:=fun y=>[AV.vec 0,AV.int .i64 y.2.1,AV.int .i64 y.2.2.1,AV.int .i64 y.2.2.2.1,AV.clo (Fn.func 134) [AV.agg [AV.int .i64 y.2.2.2.2]] []]) (heap:=fun y=>[AO.vec zf.sl y.1]) (i:=fun y=>sP (xA n) y.1 y.2.1 y.2.2.1 y.2.2.2.1 y.2.2.2.2) (t:=dJ (xA n)) (e:=Dr) (n:=100000000) (n0:=1) (Fz (Hc n)) (B1 (xA n)) (fun _=>rfl) (fun y=>WR _ _ _ _ _ _) (Ye (xA n)) (fun x h res hv=>?_)
  unfold GSm at hv
  split at hv
  ·rename_i a m b k u l
   simp only [Tr.val] at hv
   split at hv
   ·rename_i h1
    simp only [ap] at hv
    subst hv
    exact ⟨(l,a,m,b,k),rfl,rfl,ot h1⟩
   ·cases hv
  ·simp at hv
def So:zF:=FSm (xA 16)
theorem PP:FK 249 So:=Hc 16

def DM:=HF.add 249 So
theorem Ad:zl DM:=Ac.add PP
end
noncomputable section

abbrev M0:=mn [(2,[0,1,2,6,7,8]),(7,[0,1,2,6]),(9,[0,1,2,6,7,8])]
inductive mB where
 | h2 (i1:Int) (i2f_0_0:Int) (i6:Int) (i7:Int) (i8:Int) (lh_0:List (Sem zf.sl))
 | h7 (i1:Int) (i2f_0_0:Int) (i6:Int) (lh_0:List (Sem zf.sl))
 | h9 (i1:Int) (i2f_0_0:Int) (i6:Int) (i7:Int) (i8:Int) (lh_0:List (Sem zf.sl))
abbrev Do:mB→Nat×St
 | .h2 i1 i2f_0_0 i6 i7 i8 lh_0=>(2,⟨tm 63 [(0,AV.vec 0),(1,AV.int .i64 i1),(2,AV.clo (Fn.func 134) [AV.agg [AV.int .i64 i2f_0_0]] []),(6,AV.int .i64 i6),(7,AV.int .i64 i7),(8,AV.int .i64 i8)],[AO.vec zf.sl lh_0]⟩)
 | .h7 i1 i2f_0_0 i6 lh_0=>(7,⟨tm 63 [(0,AV.vec 0),(1,AV.int .i64 i1),(2,AV.clo (Fn.func 134) [AV.agg [AV.int .i64 i2f_0_0]] []),(6,AV.int .i64 i6)],[AO.vec zf.sl lh_0]⟩)
 | .h9 i1 i2f_0_0 i6 i7 i8 lh_0=>(9,⟨tm 63 [(0,AV.vec 0),(1,AV.int .i64 i1),(2,AV.clo (Fn.func 134) [AV.agg [AV.int .i64 i2f_0_0]] []),(6,AV.int .i64 i6),(7,AV.int .i64 i7),(8,AV.int .i64 i8)],[AO.vec zf.sl lh_0]⟩)
theorem X1:zA DM.P 201 Tryz.f201 3:=aS (by kernel_rfl)
def Mu (l:List (List (Sem zf))) (n:Int) (k:Int):Tr (mB ⊕ ao):=
 Tr.to (mB.h2 n k 20 0 20 l)
theorem WO (l:List (List (Sem zf))) (n:Int) (k:Int):rn DM 1 M0 Tryz.f201 [AV.vec 0,AV.int .i64 n,AV.clo (Fn.func 134) [AV.agg [AV.int .i64 k]] []] [AO.vec (Sh.sl zf) l]=(Mu l n k).map (lf Tryz.f201 Do):=by kernel_rfl
def iN:mB→Tr (mB ⊕ ao)
 | .h2 i1 i2f_0_0 i6 i7 i8 lh_0=>
  let a0:=rM lh_0 i7 i8 i2f_0_0
  let a1:=rM lh_0 i7 i1 i2f_0_0
  Tr.br (decide (i8≤i1)) (Tr.chk a0.isSome (Tr.to (mB.h2 i1 i2f_0_0 i6 i8 (IntKind.i64.wrap (i8+i6)) (a0.getD []))))
  (Tr.chk a1.isSome (Tr.to (mB.h7 i1 i2f_0_0 i6 (a1.getD []))))
 | .h7 i1 i2f_0_0 i6 lh_0=>
  Tr.br (decide (i6 < i1)) (Tr.to (mB.h9 i1 i2f_0_0 i6 0 (IntKind.i64.wrap (2 * i6)) lh_0))
  (Tr.re (AV.tup []) [AO.vec zf.sl lh_0])
 | .h9 i1 i2f_0_0 i6 i7 i8 lh_0=>
  let a0:=IntKind.i64.wrap (i7+i6)
  let a1:=xA 16 lh_0 i7 a0 i8 i2f_0_0
  let a2:=xA 16 lh_0 i7 a0 i1 i2f_0_0
  let a3:=IntKind.i64.wrap (i6 * 2)
  Tr.br (decide (i8≤i1)) (Tr.chk a1.isSome (Tr.to (mB.h9 i1 i2f_0_0 i6 i8 (IntKind.i64.wrap (i8+IntKind.i64.wrap (2 * i6))) (a1.getD []))))
  (Tr.br (decide (a0 < i1)) (Tr.chk a2.isSome (Tr.to (mB.h7 i1 i2f_0_0 a3 (a2.getD [])))) (Tr.to (mB.h7 i1 i2f_0_0 a3 lh_0)))
theorem Yb:∀ s,run DM 1 M0 (Func.results Tryz.f201).toList 400 (zy Tryz.f201 (Do s).1) (Do s).2=(iN s).map (lf Tryz.f201 Do):=by intro s; cases s <;> kernel_rfl
def TY (l:List (List (Sem zf))) (n:Int) (k:Int):=bl iN 100000000 (Mu l n k)

def EP (l:List (List (Sem zf))) (n k:Int):=CO (TY l n k)
def SJ:cG [none,none,none]:=fun x h=>match x,h with
 | (.vec 0,.int .i64 n,.clo (.func 134) [.agg [.int .i64 k]] [],_),[.vec (.sl wM) l]=>.chk ((EP l n k).isSome) (.ok (.tup [],[.vec (.sl zf) ((EP l n k).getD [])]))
 | _,_=>.err
def Sj:zF:=zU [none,none,none] SJ
theorem PK:FK 201 Sj:=by
 refine fv (ι:=List (List (Sem zf))×Int×Int) (args:=fun y=>[AV.vec 0,AV.int .i64 y.2.1,AV.clo (Fn.func 134) [AV.agg [AV.int .i64 y.2.2]] []]) (heap:=fun y=>[AO.vec zf.sl y.1]) (i:=fun y=>Mu y.1 y.2.1 y.2.2) (t:=iN) (e:=Do) (n:=100000000) (n0:=1) Ad X1 (fun _=>rfl) (fun y=>WO _ _ _) Yb (fun x h res hv=>?_)
 unfold SJ at hv
 split at hv
 ·rename_i n k u l
  simp only [Tr.val] at hv
  split at hv
  ·rename_i h1
   simp only [ap] at hv
   subst hv
   exact ⟨(l,n,k),rfl,rfl,ot h1⟩
  ·cases hv
 ·simp at hv

def BG:=DM.add 201 Sj
theorem vK:zl BG:=Ad.add PK
end

abbrev Xy:=mn []
theorem XX:zA BG.P 132 Tryz.f132 2:=aS (by kernel_rfl)
noncomputable def HN (l:List (List (Sem zf))) (k:Int):Tr (Empty ⊕ ao):=
 let a0:=EP l (↑l.length:Int) k
 Tr.chk a0.isSome (Tr.re (AV.tup []) [AO.vec zf.sl (a0.getD [])])
theorem WI (l:List (List (Sem zf))) (k:Int):rn BG 1 Xy Tryz.f132 [AV.vec 0,AV.clo (Fn.func 134) [AV.agg [AV.int .i64 k]] []] [AO.vec (Sh.sl zf) l]=(HN l k).map (lf Tryz.f132 e0):=by kernel_rfl
noncomputable def GV (l:List (List (Sem zf))) (k:Int):=bl t0 100000000 (HN l k)

noncomputable def si (l:List (List (Sem zf))) (k:Int):=CO (GV l k)
noncomputable def SI:cG [none,none]:=fun x h=>match x,h with
 | (.vec 0,.clo (.func 134) [.agg [.int .i64 k]] [],_),[.vec (.sl wM) l]=>.chk ((si l k).isSome) (.ok (.tup [],[.vec (.sl zf) ((si l k).getD [])]))
 | _,_=>.err
noncomputable def RV:zF:=zU [none,none] SI
theorem Pn:FK 132 RV:=by
 refine fv (ι:=List (List (Sem zf))×Int) (args:=fun y=>[AV.vec 0,AV.clo (Fn.func 134) [AV.agg [AV.int .i64 y.2]] []]) (heap:=fun y=>[AO.vec zf.sl y.1]) (i:=fun y=>HN y.1 y.2) (t:=t0) (e:=e0) (n:=100000000) (n0:=1) vK XX (fun _=>rfl) (fun y=>WI _ _) (Kw _ _ _ _ _) (fun x h res hv=>?_)
 unfold SI at hv
 split at hv
 ·rename_i k u l
  simp only [Tr.val] at hv
  split at hv
  ·rename_i h1
   simp only [ap] at hv
   subst hv
   exact ⟨(l,k),rfl,rfl,ot h1⟩
  ·cases hv
 ·simp at hv

noncomputable def LJ:=BG.add 132 RV
theorem FB:zl LJ:=vK.add Pn
noncomputable section

abbrev M6:Nat→aj:=fun j=>if j=7 then { slots:=[1,2,34,35] } else { }
inductive I4 where
 | h7 (i34:Int) (i35:Int) (ja0:Sem Sh.str) (ja2:Sem zg) (ja5:zp) (ja6:Int) (ja7:Int) (ja8:zp) (ja9:zp) (ja10:List (Sem Sh.expr)) (jb0:List UInt8) (jb2:Int) (jb5:List UInt8) (jb6:Int) (jb7:Int) (jb8:List UInt8) (jb9:List UInt8) (lh_2:List (Sem zi)) (lh_3:List (Sem zg)) (lh_4:List (Sem zq)) (lh_5:List (Sem zf.sl))
abbrev Ll:I4→Nat×St
 | .h7 i34 i35 ja0 ja2 ja5 ja6 ja7 ja8 ja9 ja10 jb0 jb2 jb5 jb6 jb7 jb8 jb9 lh_2 lh_3 lh_4 lh_5=>(7,⟨tm 50 [(1,AV.ptr 0 0),(2,AV.ptr 1 0),(34,AV.int .i64 i34),(35,AV.int .i64 i35)],[AO.box [AV.str ja0,AV.vec 2,AV.int .i64 ja2,AV.vec 3,AV.vec 4,AV.str ja5,AV.int .i64 ja6,AV.int .i64 ja7,AV.str ja8,AV.str ja9,AV.sl Sh.expr ja10,AV.vec 5],AO.box [AV.str jb0,AV.nils,AV.int .i64 jb2,AV.nils,AV.nils,AV.str jb5,AV.int .i64 jb6,AV.int .i64 jb7,AV.str jb8,AV.str jb9,AV.nils,AV.nils],AO.vec zi lh_2,AO.vec zg lh_3,AO.vec zq lh_4,AO.vec zf.sl lh_5]⟩)
theorem ze1:zA DG.P 131 Tryz.f131 1:=aS (by kernel_rfl)
def QL (x0:Sem zh):Tr (I4 ⊕ ao):=
 Tr.chk (decide (length x0.1.2.1≤1073741824))
 (Tr.chk (decide (length x0.1.2.2.2.1≤1073741824))
  (Tr.chk (decide (length x0.1.2.2.2.2.1≤1073741824)) (Tr.chk (kC 16 (zE x0.1.2.2.2.2.2)) (Tr.chk (decide (length x0.2≤1073741824)) (Tr.to (I4.h7 (↑(length x0.2):Int) 0 x0.1.1 x0.1.2.2.1 (ze.op x0.1.2.2.2.2.2) (ze.v x0.1.2.2.2.2.2).1 (ze.v x0.1.2.2.2.2.2).2.1 (ze.v x0.1.2.2.2.2.2).2.2
  (ze.s x0.1.2.2.2.2.2) (ze.l x0.1.2.2.2.2.2) [] 0 [] 0 0 [] [] x0.1.2.1 x0.1.2.2.2.1 x0.1.2.2.2.2.1 x0.2))))))
theorem zdc (x0:Sem zh):rn DG 0 M6 Tryz.f131 [zz zh x0] []=(QL x0).map (lf Tryz.f131 Ll):=by kernel_rfl
def Km:I4→Tr (I4 ⊕ ao)
 | .h7 i34 i35 ja0 ja2 ja5 ja6 ja7 ja8 ja9 ja10 jb0 jb2 jb5 jb6 jb7 jb8 jb9 lh_2 lh_3 lh_4 lh_5=>
  let a0:=decide (i35.toNat < lh_5.length)
  let a1:=lh_5.getD i35.toNat (zj zf.sl)
  Tr.br (decide (i35 < i34))
  (Tr.chk (zI i35 lh_5.length)
   (Tr.chk a0 (Tr.chk (decide (length a1≤1073741824)) (Tr.chk (zI i35 lh_5.length) (Tr.chk a0 (Tr.to (I4.h7 i34 (IntKind.i64.wrap (i35+1)) ja0 ja2 ja5 ja6 ja7 ja8 ja9 ja10 jb0 jb2 jb5 jb6 jb7 jb8 jb9 lh_2 lh_3 lh_4 (lh_5.set i35.toNat a1))))))))
  (Tr.re
   (AV.agg [AV.str ja0,AV.vec 0,AV.int .i64 ja2,AV.vec 1,AV.vec 2,AV.str ja5,AV.int .i64 ja6,AV.int .i64 ja7,AV.str ja8,AV.str ja9,AV.sl Sh.expr ja10,AV.vec 3])
   [AO.vec zi lh_2,AO.vec zg lh_3,AO.vec zq lh_4,AO.vec zf.sl lh_5])
theorem zfA:∀ s,run DG 0 M6 (Func.results Tryz.f131).toList 400 (zy Tryz.f131 (Ll s).1) (Ll s).2=(Km s).map (lf Tryz.f131 Ll)
 | .h7 i34 i35 ja0 ja2 ja5 ja6 ja7 ja8 ja9 ja10 jb0 jb2 jb5 jb6 jb7 jb8 jb9 lh_2 lh_3 lh_4 lh_5=>by kernel_rfl
end

def Yz (ks:List Sh) (c:zx (ks.map some)→Bool) (g:zx (ks.map some)→ao):cG (ks.map some):=fun x h=>match h with
 | []=>.chk (c x) (.ok (g x))
 | _=>.err

theorem VY {P:Program} {gl:Nat→AV} {σ:Type} {E:bx} {k:FuncId} {f:Func} {ks:List Sh} {keep:Nat→aj} {gas n:Nat} {e:σ→Nat×St} {t:σ→Tr (σ ⊕ ao)} {i:zx (ks.map some)→Tr (σ ⊕ ao)} {c:zx (ks.map some)→Bool} {g:zx (ks.map some)→ao}
  (hE:zl E) (hf:zA E.P k f ks.length) (hgo:∀ x,run E 0 keep f.results.toList gas (aC f) (ar f.ntmps (gD (ks.map some) x) [])=(i x).map (lf f e))
  (hon:∀ s,run E 0 keep f.results.toList gas (zy f (e s).1) (e s).2=(t s).map (lf f e))
  (hg:∀ x,c x=true→bl t n (i x)=some (g x)) (qp:E.P=P:=by rfl) (qg:E.gl=gl:=by rfl):mv P gl k (zU (ks.map some) (Yz ks c g)):=by
 subst qp qg
 refine bC (by simpa using hf) fun x h0 res hx C hC=>?_
 unfold Yz at hx
 split at hx
 ·simp only [Tr.val] at hx
  split at hx
  ·rename_i hc
   simp only [ap] at hx
   subst hx
   exact kQ (n0:=0) hE (by simpa using hf) (fun id _=>hC id (aV _)) (n+1) _ _ _ (by rw [jB hon (hgo x)]; exact hg x hc) rfl
  ·cases hx
 ·simp at hx

def Fi (x:Sem zh):ao:=(AV.agg [AV.str x.1.1,AV.vec 0,AV.int .i64 x.1.2.2.1,AV.vec 1,AV.vec 2,AV.str (ze.op x.1.2.2.2.2.2),AV.int .i64 (ze.v x.1.2.2.2.2.2).1,AV.int .i64 (ze.v x.1.2.2.2.2.2).2.1,AV.str (ze.v x.1.2.2.2.2.2).2.2,AV.str (ze.s x.1.2.2.2.2.2),AV.sl Sh.expr (ze.l x.1.2.2.2.2.2),AV.vec 3],
 [AO.vec zi x.1.2.1,AO.vec zg x.1.2.2.2.1,AO.vec zq x.1.2.2.2.2.1,AO.vec zf.sl x.2])

def Fh (x:Sem zh):Bool:=decide (length x.1.2.1≤1000000)&&decide (length x.1.2.2.2.1≤1000000)&&decide (length x.1.2.2.2.2.1≤1000000)&&kC 16 x.1.2.2.2.2.2&&decide (length x.2≤1000000)&&List.all x.2 (fun r=>decide (length r≤1000000))

theorem OA {α:Type} (l:List α) (d:α) (i:Nat) (h:i < l.length):l.set i (l.getD i d)=l:=by
 rw [aH,zJ h,bM]
 exact List.set_getElem_self h

theorem Qo (x:Sem zh) (hc:Fh x=true):bl Km 100000000 (QL x)=some (Fi x):=by
 unfold Fh at hc
 simp only [aM,zZ,cY] at hc
 obtain ⟨⟨⟨⟨⟨h1,h2⟩,h3⟩,h4⟩,h5⟩,h6⟩:=hc
 have hl:=kS (t:=Km) (β:=Unit) (length x.2) (fun _ i=>.h7 (length x.2:Int) (i:Int) x.1.1 x.1.2.2.1 (ze.op x.1.2.2.2.2.2) (ze.v x.1.2.2.2.2.2).1 (ze.v x.1.2.2.2.2.2).2.1 (ze.v x.1.2.2.2.2.2).2.2
   (ze.s x.1.2.2.2.2.2) (ze.l x.1.2.2.2.2.2) [] 0 [] 0 0 [] [] x.1.2.1 x.1.2.2.2.1 x.1.2.2.2.2.1 x.2) (fun _ _=>True) (fun r=>r=Fi x) 1 (by
   intro b i hi _
   have hrow:length (getD x.2 i (zj zf.sl))≤1000000:=h6 _ (by rw [aH,zJ hi,bM]; exact cZ hi)
   simp only [Km,Tr.val,zT hi,zC hi,if_true,aQ,aq hi,OA _ _ _ hi]
   rw [zD i (by unfold zB; omega),if_pos (aq (by omega))]
   exact Or.inl ⟨(),trivial,rfl⟩) (by
   intro b n _ hn
   obtain ⟨n,rfl⟩:∃ k,n=k+1:=⟨n - 1,by omega⟩
   rw [kR]
   simp only [Km,Tr.val,zY]
   exact ⟨_,rfl,rfl⟩) (length x.2) 0 () 100000000 rfl (aV _) trivial (by omega)
 obtain ⟨r,hr,rfl⟩:=hl
 unfold bl
 have e1:decide (length x.1.2.1≤1073741824)=true:=aq (by omega)
 have e2:decide (length x.1.2.2.2.1≤1073741824)=true:=aq (by omega)
 have e3:decide (length x.1.2.2.2.2.1≤1073741824)=true:=aq (by omega)
 have e5:decide (length x.2≤1073741824)=true:=aq (by omega)
 simp only [QL,Tr.val,e1,e2,e3,e5,zm,h4,if_true]
 exact hr

noncomputable def zaf:zF:=zU ([zh].map some) (Yz [zh] (fun x=>Fh x.1) (fun x=>Fi x.1))
theorem Vq:FK 131 zaf:=VY (ks:=[zh]) (keep:=M6) (gas:=400) (n:=100000000) (e:=Ll) (t:=Km) (i:=fun x=>QL x.1) rG ze1 (fun x=>zdc x.1) zfA (fun x hc=>Qo x.1 hc)
noncomputable section
def LK:=LJ.add 131 zaf
theorem vL:zl LK:=FB.add Vq

def Xd (x0:Sem zh):Tr (Empty ⊕ ao):=
 let a0:=(x0.1.1,x0.1.2.1,x0.1.2.2.1,x0.1.2.2.2.1,x0.1.2.2.2.2.1,zE x0.1.2.2.2.2.2)
 let a1:=si x0.2 (-1)
 let a2:=si x0.2 x0.1.2.2.1
 Tr.chk (Fh (a0,x0.2))
 (Tr.br (!gn a0)
  (Tr.chk a1.isSome (Tr.re (AV.agg [AV.str x0.1.1,AV.vec 0,AV.int .i64 x0.1.2.2.1,AV.vec 1,AV.vec 2,AV.str (ze.op x0.1.2.2.2.2.2),AV.int .i64 (ze.v x0.1.2.2.2.2.2).1,AV.int .i64 (ze.v x0.1.2.2.2.2.2).2.1,AV.str (ze.v x0.1.2.2.2.2.2).2.2,AV.str (ze.s x0.1.2.2.2.2.2),AV.sl Sh.expr (ze.l x0.1.2.2.2.2.2),AV.vec 3]) [AO.vec zi x0.1.2.1,AO.vec zg x0.1.2.2.2.1,
  AO.vec zq x0.1.2.2.2.2.1,AO.vec zf.sl (a1.getD [])]))
  (Tr.chk a2.isSome (Tr.re (AV.agg [AV.str x0.1.1,AV.vec 0,AV.int .i64 x0.1.2.2.1,AV.vec 1,AV.vec 2,AV.str (ze.op x0.1.2.2.2.2.2),AV.int .i64 (ze.v x0.1.2.2.2.2.2).1,AV.int .i64 (ze.v x0.1.2.2.2.2.2).2.1,AV.str (ze.v x0.1.2.2.2.2.2).2.2,AV.str (ze.s x0.1.2.2.2.2.2),AV.sl Sh.expr (ze.l x0.1.2.2.2.2.2),AV.vec 3]) [AO.vec zi x0.1.2.1,AO.vec zg x0.1.2.2.2.1,
  AO.vec zq x0.1.2.2.2.2.1,AO.vec zf.sl (a2.getD [])])))
def Ci (x0:Sem zh):=zW [zh] t0 100000000 (Xd x0)
def GP (x0:Sem zh):=(Ci x0).isSome
def Og (x0:Sem zh):=o1 (Ci x0)
def zax:=FT [zh] [zh] fun x=>Ci x.1
theorem VK:FK 81 zax:=vL.T1 (f:=Tryz.f81) (keep:=k0) (e:=e0)

def LL:=LK.add 81 zax
theorem vM:zl LL:=vL.add VK
end

noncomputable def Xb (x0:Sem ag) (x1:Sem zh) (x2:Sem zg):Tr (Empty ⊕ ao):=
 let a0:=((x1.1.1,x1.1.2.1,x1.1.2.2.1,x1.1.2.2.2.1,x1.1.2.2.2.2.1,zE x1.1.2.2.2.2.2),x1.2)
 let a1:=Og a0
 let a2:=((a1.1.1,a1.1.2.1,a1.1.2.2.1,a1.1.2.2.2.1,a1.1.2.2.2.2.1,zE a1.1.2.2.2.2.2),a1.2)
 let a3:=r6 a2
 let a4:=bT a3
 let a5:=jU x0.1 a2
 let a6:=kG a5 x2
 Tr.chk (GP a0)
 (Tr.chk (nW a2)
  (Tr.br (a3 != 0) (Tr.chk (o4 a3) (Tr.re (AV.tup [AV.sl zh a4.1,AV.agg [AV.int .i64 a4.2.1,AV.int .i64 a4.2.2.1,AV.sl zf.sl a4.2.2.2]]) [])) (Tr.chk (jv x0.1 a2) (Tr.chk (gG a5 x2) (Tr.re (AV.tup [AV.sl zh a6.1,AV.agg [AV.int .i64 a6.2.1,AV.int .i64 a6.2.2.1,AV.sl zf.sl a6.2.2.2]]) [])))))
noncomputable def ju (x0:Sem ag) (x1:Sem zh) (x2:Sem zg):=zW [zh.sl,cw] t0 100000000 (Xb x0 x1 x2)
noncomputable def kF (x0:Sem ag) (x1:Sem zh) (x2:Sem zg):=(ju x0 x1 x2).isSome
noncomputable def nE (x0:Sem ag) (x1:Sem zh) (x2:Sem zg):=o2 (ju x0 x1 x2)
noncomputable def Z7:=FT [ag,zh,zg] [zh.sl,cw] fun x=>ju x.1 x.2.1 x.2.2.1
theorem Vh:FK 45 Z7:=vM.T1 (f:=Tryz.f45) (keep:=k0) (e:=e0)

noncomputable def LM:=LL.add 45 Z7
theorem vN:zl LM:=vM.add Vh

noncomputable def WZ (x0:Sem ag):Tr (Empty ⊕ ao):=
 let a0:=zO x0.1 x0.2.2.1
 let a1:=getD x0.1 (toNat a0) (zj zh)
 let a2:=[x0.2.2.2.2.2.2.2.2.2.2.1]
 let a3:=(x0.1,x0.2.1,x0.2.2.1,x0.2.2.2.1,x0.2.2.2.2.1,x0.2.2.2.2.2.1,x0.2.2.2.2.2.2.1,x0.2.2.2.2.2.2.2.1,x0.2.2.2.2.2.2.2.2.1,zE x0.2.2.2.2.2.2.2.2.2.1,x0.2.2.2.2.2.2.2.2.2.2.1,x0.2.2.2.2.2.2.2.2.2.2.2.1,zE x0.2.2.2.2.2.2.2.2.2.2.2.2.1,x0.2.2.2.2.2.2.2.2.2.2.2.2.2)
 let a4:=((a1.1.1,a1.1.2.1,a1.1.2.2.1,a1.1.2.2.2.1,a1.1.2.2.2.2.1,zE a1.1.2.2.2.2.2),a1.2++a2)
 let a5:=nE a3 a4 1
 Tr.br (decide (a0 < 0))
 (Tr.chk true
  (Tr.re (AV.tup [AV.sl zh (bT 6).1,AV.agg [AV.int .i64 (bT 6).2.1,AV.int .i64 (bT 6).2.2.1,AV.sl zf.sl (bT 6).2.2.2]]) []))
 (Tr.chk (zI a0 (length x0.1))
  (Tr.chk (decide (length a1.2≤1073741824)) (Tr.chk (decide (length x0.2.2.2.2.2.2.2.2.2.2.1≤1073741824)) (Tr.chk (decide (length a1.2+a2.length≤1073741824)) (Tr.chk (kF a3 a4 1) (Tr.re (AV.tup [AV.sl zh a5.1,AV.agg [AV.int .i64 a5.2.1,AV.int .i64 a5.2.2.1,AV.sl zf.sl a5.2.2.2]]) []))))))
noncomputable def ii (x0:Sem ag):=zW [zh.sl,cw] t0 100000000 (WZ x0)
noncomputable def uW (x0:Sem ag):=(ii x0).isSome
noncomputable def Bo (x0:Sem ag):=o2 (ii x0)
noncomputable def ZK:=FT [ag] [zh.sl,cw] fun x=>ii x.1
theorem UO:FK 19 ZK:=vN.T1 (f:=Tryz.f19) (keep:=k0) (e:=e0)

noncomputable def LN:=LM.add 19 ZK
theorem FC:zl LN:=vN.add UO

def CT (c:ze→Bool):zF:=zG [.expr] [.expr] (fun x=>c x.1) fun x=>(x.1,())
noncomputable def yP (c:ze→Bool):bx:=Qt.add 72 (CT c)
theorem rr {c:ze→Bool} (hg:FK 72 (CT c)):zl (yP c):=vD.add hg
abbrev Tt:Nat→aj:=fun j=>if j=3 then { slots:=[1,2,10,11] } else { }
abbrev Cl (i10:Int) (i11:Int) (ja0:zp) (ja1:Int) (ja2:Int) (ja3:zp) (ja4:zp) (lh_2:List (Sem Sh.expr)):St:={
 tmps:=
  (tm 26 [(1,AV.ptr 0 0),(2,AV.ptr 1 0),(10,AV.int .i64 i10),(11,AV.int .i64 i11)]),
 heap:=
  [AO.box [AV.str ja0,AV.int .i64 ja1,AV.int .i64 ja2,AV.str ja3,AV.str ja4,AV.vec 2],
   AO.box [AV.str [],AV.int .i64 0,AV.int .i64 0,AV.str [],AV.str [],AV.nils],AO.vec Sh.expr lh_2] }
theorem wH (c:ze→Bool):zA (yP c).P 72 Tryz.f72 1:=aS (by kernel_rfl)
theorem zc4 (c:ze→Bool) (op:zp) (v:V) (s:zp) (l:List ze):rn (yP c) 0 Tt Tryz.f72 [zz Sh.expr (ze.mk op v s l)] []=
 Tr.chk (decide (l.length≤1073741824)) (Tr.ok (zt.head 3 (zy Tryz.f72 3) (Cl (↑l.length:Int) 0 op v.1 v.2.1 v.2.2 s l))):=by kernel_rfl
theorem Ig (c:ze→Bool) (i10:Int) (i11:Int) (ja0:zp) (ja1:Int) (ja2:Int) (ja3:zp) (ja4:zp) (lh_2:List (Sem Sh.expr)):rh (yP c) 0 Tt Tryz.f72 3 (Cl i10 i11 ja0 ja1 ja2 ja3 ja4 lh_2)=
 Tr.br (decide (i11 < i10))
 (Tr.chk (zI i11 lh_2.length)
  (Tr.chk (decide (i11.toNat < lh_2.length))
   (Tr.chk (c (zE (lh_2.getD i11.toNat (zj Sh.expr))))
    (Tr.chk (zI i11 lh_2.length)
     (Tr.chk (decide (i11.toNat < lh_2.length))
      (Tr.ok
       (zt.head 3 (zy Tryz.f72 3)
        (Cl i10 (IntKind.i64.wrap (i11+1)) ja0 ja1 ja2 ja3 ja4
         (lh_2.set i11.toNat
          (zE (lh_2.getD i11.toNat (zj Sh.expr))))))))))))
 (Tr.ok
  (zt.ret (AV.agg [AV.str ja0,AV.int .i64 ja1,AV.int .i64 ja2,AV.str ja3,AV.str ja4,AV.vec 0]) [AO.vec Sh.expr lh_2])):=by kernel_rfl

theorem zcm {c:ze→Bool} (hg:FK 72 (CT c)) {C:cI} (hC:∀ id,C.ρ0 id=none) (op:zp) (v:V) (s:zp) (l:List ze) (hl:l.length≤1073741824) (hcl:l.all c=true):
  ∀ (k i:Nat),l.length - i=k→i≤l.length→Reach (yP c) C 72 (zy Tryz.f72 3) (Cl l.length i op v.1 v.2.1 v.2.2 s l) (fun r h=>ah h [.expr] r=some (ze.mk op v s l,())):=by
 intro k
 induction k with
 | zero=>
  intro i hk hi
  obtain rfl:i=l.length:=by omega
  refine zk (n0:=0) (rr hg) (wH c) (fun id _=>hC id) (Ig c _ _ _ _ _ _ _ _) ?_
  simp only [zY,Tr.val_brF]
  rfl
 | succ k IH=>
  intro i hk hi
  have hlt:i < l.length:=by omega
  refine zk (n0:=0) (rr hg) (wH c) (fun id _=>hC id) (Ig c _ _ _ _ _ _ _ _) ?_
  have h1:c l[i]=true:=cY.1 hcl _ (cZ hlt)
  have h2:decide ((i:Int).toNat < l.length)=true:=by simpa using hlt
  have h3:l.set (i:Int).toNat l[i]=l:=by simp
  simp only [zT hlt,zC hlt,ae l _ hlt,ze.eta,Tr.val_brT,Tr.val_chkT,h1,h2,h3,zD i (by unfold zB; omega)]
  exact IH (i+1) (by omega) (by omega)

theorem A4:∀ n,FK 72 (CT (kC n))
 | 0=>dz ⟨Tryz.f72,(wH (fun _=>false)).1,(wH (fun _=>false)).2.1,(wH (fun _=>false)).2.2.1⟩ (fun _=>rfl)
 | n+1=>by
  refine zR (E:=yP (kC n)) (wH _) fun x hc C hC=>?_
  obtain ⟨⟨op,v,s,l⟩,u⟩:=x
  have hc:(decide (l.length≤1073741824)&&l.all (kC n))=true:=hc
  simp only [aM,zZ] at hc
  refine zk (n0:=0) (rr (A4 n)) (wH _) (fun id _=>hC id) (zc4 _ op v s l) ?_
  refine de (by simpa using hc.1) ?_
  exact zcm (A4 n) hC op v s l hc.1 hc.2 _ 0 rfl (aV _)
def ZW:zF:=CT (kC 16)
theorem U5:FK 72 ZW:=A4 16
open Go

def Cv:AO→Bool
 | .box cs=>cs.all lS
 | _=>false

def Nf (pos:Nat) (s:Sh) (F:zF):zF:=fun args hp n=>match args[pos]? with
 | some (.ptr t 0)=>match hp t with
  | .box cs=>match cr hp s cs with
   | some (x,[])=>
    let az:=args.set pos (.eptr (zn s x) 0)
    let z:=t::cs.flatMap bA
    if (AV.idsL az).all (fun i=>(AV.idsL args).contains i&&(hp i).ids.isEmpty && !z.contains i)&&(cs.flatMap bA).all (fun i=>(hp t).ids.contains i) then
     (F az hp n).bind fun f=>if oh f.val&&f.nw.isEmpty&&f.wr.all (fun p=>Cv p.2) then .ok { f with val:=f.val.ren fun i=>i } else .err
    else .err
   | _=>.err
  | _=>.err
 | _=>.err

theorem KN {P:Program} {gl:Nat→AV} {k:FuncId} {pos:Nat} {s:Sh} {F:zF} (h:mv P gl k F):mv P gl k (Nf pos s F):=by
  refine ⟨h.fn,?_⟩
  intro w U ρ hp n args vals f fp hv hr hub hgl hfp hin hcl hn
  unfold Nf at hv
  split at hv
  rotate_left
  · simp at hv
  rename_i t hpos
  split at hv
  rotate_left
  · simp at hv
  rename_i cs hbox
  split at hv
  rotate_left
  · simp at hv
  rename_i x himp
  dsimp only at hv
  split at hv
  rotate_left
  · simp at hv
  rename_i hcond
  simp only [aM,cY,List.contains_eq_mem,zZ,Bool.not_eq_true',decide_eq_false_iff_not,List.isEmpty_iff] at hcond
  obtain ⟨hids,hvec⟩:=hcond
  rw [Tr.val_bind,fa] at hv
  obtain ⟨f0,hf0,hv⟩:=hv
  split at hv
  rotate_left
  · simp at hv
  rename_i hsc
  simp only [aM,List.isEmpty_iff,cY] at hsc
  obtain ⟨⟨hs1,hs2⟩,hs3⟩:=hsc
  simp only [Tr.val_ok,ap] at hv
  subst hv
  have hposl:pos < args.length:=(bR.1 hpos).1
  have htfp:t∈fp:=hin t (fq (iK hpos) (by simp [AV.ids]))
  have hvfp:∀ i∈cs.flatMap bA,i∈fp:=fun i hi=>hcl t htfp i (hvec i hi)
  have hzfp:∀ i∈t::cs.flatMap bA,i∈fp:=by
    intro i hi
    rcases c9.1 hi with rfl | hi
    · exact htfp
    · exact hvfp i hi
  generalize hz:t::cs.flatMap bA=z at hids hzfp
  generalize hU1:(fun b=>U b∧¬ ∃ j∈z,zP ρ j (hp j) b)=U1
  have hsub:∀ b,U1 b→U b:=by intro b hb; rw [← hU1] at hb; exact hb.1
  have hzU:∀ j∈z,∀ b,zP ρ j (hp j) b→¬ U1 b:=fun j hj b ho hb=>by rw [← hU1] at hb; exact hb.2 ⟨j,hj,ho⟩
  have hto:=hfp.ob t htfp
  rw [hbox] at hto
  obtain ⟨b,T,cells,e1,e2,e3,e4,e5⟩:=hto
  have htz:t∈z:=by rw [← hz]; exact uD
  have hbU:¬ U1 b:=hzU t htz b ⟨by rw [hbox]; rfl,_,e1,rfl⟩
  obtain ⟨i1,_,i3⟩:=gQ (w:=w) (U:=U) (U':=U1) (ρ:=ρ) (hp:=hp) hsub s cs x [] (fun j=>(cells.toList[j]?).getD undef) himp
    (fun j c hj=>by
      have hlt:j < cells.toList.length:=by rw [← e4.len]; exact (bR.1 hj).1
      exact e4.rv j c _ hj (by simp [zJ hlt]))
    (fun id hid=>⟨hfp.ob id (hvfp id hid),fun b hb=>hzU id (by rw [← hz]; exact mF _ hid) b hb⟩)
  have hlen:(zn s x).length=cells.toList.length:=by rw [zN,← e4.len]; simpa using i1.symm
  have heptr:Rv w U1 ρ (.eptr (zn s x) 0) (.pointer (some ⟨b,0,none⟩)):=by
    refine .eptr (zn s x) 0 b 0 (fun j=>(cells.toList[j]?).getD undef) (hub b e2) hbU (fun j hj=>?_) (fun j hj=>?_) i3
    · rw [hlen] at hj
      unfold World.cell?
      simp only [eG,e3]
      rw [zJ hj]
      simp [hM (show j < cells.size by simpa using hj)]
    · rw [hlen] at hj
      rw [zJ hj]
      exact e5 _ (cZ hj)
  have hptr:∀ v,vals[pos]?=some v→v=.pointer (some ⟨b,0,none⟩):=by
    intro v hv'
    have:=hr.rv pos _ v hpos hv'
    cases this with
    | ptr _ _ b' h'=>
      rw [e1] at h'
      cases h'
      rfl
  have hr1:cK w U1 ρ (args.set pos (.eptr (zn s x) 0)) vals:=by
    refine ⟨by simp [hr.len],fun j c v hc hv'=>?_⟩
    rw [jP] at hc
    by_cases hj:pos=j
    · subst hj
      rw [if_pos rfl,if_pos hposl] at hc
      cases hc
      rw [hptr v hv']
      exact heptr
    · rw [if_neg hj] at hc
      exact (hr.rv j c v hc hv').weak hsub
  have hown1:∀ i∈AV.idsL (args.set pos (.eptr (zn s x) 0)),∀ b,zP ρ i (hp i) b→U1 b:=by
    intro i hi b' ho
    obtain ⟨⟨hi1,_⟩,hi3⟩:=hids i hi
    have hifp:=hin i hi1
    rw [← hU1]
    refine ⟨((hfp.ob i hifp).inU ho).1,fun ⟨j,hj,ho'⟩=>?_⟩
    have:=hfp.inj i hifp j (hzfp j hj) b' ho ho'
    exact hi3 (this▸hj)
  obtain ⟨hc,hwr⟩:=h.calls w U1 ρ hp n _ vals f0 (AV.idsL (args.set pos (.eptr (zn s x) 0))) hf0 hr1 (fun b hb=>hub b (hsub b hb)) (fun g=>(hgl g).weak hsub)
    ⟨fun id hid=>(hfp.ob id (hin id (hids id hid).1.1)).mono (aY _) (fun _ _ _=>rfl) (fun b _ hb=>hsub b hb) (fun _ _ h=>h) (fun b ho=>⟨rfl,hown1 id hid b ho⟩),
     fun id1 h1 id2 h2 b o1 o2=>hfp.inj id1 (hin id1 (hids id1 h1).1.1) id2 (hin id2 (hids id2 h2).1.1) b o1 o2⟩ (fun _ h=>h)
    (fun id hid j hj=>by rw [(hids id hid).1.2] at hj; simp at hj) (fun j hj=>by rw [hs2] at hj; simp at hj)
  refine ⟨hc.mono ?_,fun id o hio=>hin id (hids id (hwr id o hio)).1.1⟩
  rintro e w' ⟨v,U1',ρ',rfl,hE⟩
  refine ⟨v,fun b=>U1' b∨(b < w.heap.size∧U b∧∃ j∈z,zP ρ j (hp j) b),ρ',rfl,⟨hE.ext,xu hs1 hE.val,fun id o hio=>?_,?_,hE.rho,hE.rhon,hE.same,?_,?_,?_,hE.own,hE.inj⟩⟩
  · have ho:=hE.wr id o hio
    have hsco:=hs3 _ hio
    cases o with
    | box cs'=>
      obtain ⟨b',T',vals',q1,q2,q3,q4,q5⟩:=ho
      refine ⟨b',T',vals',q1,.inl q2,q3,⟨q4.len,fun j c v' hc' hv''=>?_⟩,q5⟩
      have hcs:lS c=true:=by
        simp only [Cv,cY] at hsco
        exact hsco c (iK hc')
      have h0:=q4.rv j c v' hc' hv''
      cases h0 <;> simp [lS] at hcs
      · exact .kb _
      · exact .bool _
      · exact .int _ _ ‹_›
      · exact .str _ ‹_›
      · exact .ifcN
      · exact .ifcS _ _
    | _=>simp [Cv] at hsco
  · intro j o hj
    rw [hs2] at hj
    simp at hj
  · rintro b' (hb' | hb')
    · exact hE.ub b' hb'
    · exact mb hb'.1 hE.ext.sz
  · rintro b' hlt (hb' | hb')
    · exact hsub b' (hE.u1 b' hlt hb')
    · exact hb'.2.1
  · intro b' hlt hb' hno
    by_cases hl:∃ j∈z,zP ρ j (hp j) b'
    · exact .inr ⟨hlt,hb',hl⟩
    · exact .inl (hE.u2 b' hlt (by rw [← hU1]; exact ⟨hb',hl⟩) hno)

noncomputable def BH:=LN.add 72 ZW
theorem sL:zl BH:=FC.add U5
noncomputable def zam:zF:=zU (List.replicate 3 none) (bZ BH Tryz.f74 (List.replicate 3 none))
theorem Vy:FK 74 zam:=aw _ sL (aS (by kernel_rfl))
noncomputable def zal:zF:=Nf 1 zw zam
theorem Vx:FK 74 zal:=KN Vy

noncomputable def LO:=BH.add 74 zal
theorem vO:zl LO:=sL.add Vx
noncomputable section

abbrev zeb:Nat→aj:=fun j=>if j=5 then { slots:=[1,2,4,32,33,34] } else if j=14 then { slots:=[1,2,4,7,8,54,55,56],prom:=[(4,some 3,.int .i64)] } else if j=19 then { slots:=[2,4,7,8,70,71,72],prom:=[(4,some 4,zq)] } else { }
inductive ow where
 | h5 (i33:Int) (i34:Int) (z0:zu [CP.d zo]) (jb0:List UInt8) (jb2:Int) (jb5:List UInt8) (jb6:Int) (jb7:Int) (jb8:List UInt8) (jb9:List UInt8) (jc0:Sem Sh.str) (jc2:Int) (jc5:zp) (jc6:Int) (jc7:Int) (jc8:zp) (jc9:zp) (jc10:List (Sem Sh.expr)) (lh_3:List (Sem zi))
 | h14 (l54:List (Sem Sh.str)) (i55:Int) (i56:Int) (z0:zu [CP.d zo]) (jb0:List UInt8) (jb2:Int) (jb5:List UInt8) (jb6:Int) (jb7:Int) (jb8:List UInt8) (jb9:List UInt8) (jc0:Sem Sh.str) (jc2:Sem zg) (jc5:zp) (jc6:Int) (jc7:Int) (jc8:zp) (jc9:zp) (jc10:List (Sem Sh.expr)) (jd0:Int) (lh_4:List (Sem zi)) (lh_5:List (Sem zg))
 | h19 (l70:List (Sem (Sh.str.pr Sh.str))) (i71:Int) (i72:Int) (ja0:List UInt8) (ja2:Int) (ja5:List UInt8) (ja6:Int) (ja7:Int) (ja8:List UInt8) (ja9:List UInt8) (jb0:Sem Sh.str) (jb2:Sem zg) (jb5:zp) (jb6:Int) (jb7:Int) (jb8:zp) (jb9:zp) (jb10:List (Sem Sh.expr)) (jc0:Int) (lh_3:List (Sem zi)) (lh_4:List (Sem zg)) (lh_5:List (Sem zq))
abbrev zgG:ow→Nat×St
 | .h5 i33 i34 z0 jb0 jb2 jb5 jb6 jb7 jb8 jb9 jc0 jc2 jc5 jc6 jc7 jc8 jc9 jc10 lh_3=>(5,⟨tm 107 [(1,AV.ptr 0 0),(2,AV.ptr 1 0),(4,AV.ptr 2 0),(32,AV.vec 3),(33,AV.int .i64 i33),(34,AV.int .i64 i34)],[AO.box (bK [] [CP.d zo] z0),AO.box [AV.str jb0,AV.nils,AV.int .i64 jb2,AV.nils,AV.nils,AV.str jb5,AV.int .i64 jb6,AV.int .i64 jb7,AV.str jb8,AV.str jb9,AV.nils],AO.box [AV.str jc0,AV.vec 3,AV.int .i64 jc2,AV.nils,AV.nils,AV.str jc5,AV.int .i64 jc6,AV.int .i64 jc7,AV.str jc8,AV.str jc9,AV.sl Sh.expr jc10],AO.vec zi lh_3]⟩)
 | .h14 l54 i55 i56 z0 jb0 jb2 jb5 jb6 jb7 jb8 jb9 jc0 jc2 jc5 jc6 jc7 jc8 jc9 jc10 jd0 lh_4 lh_5=>(14,⟨tm 107 [(1,AV.ptr 0 0),(2,AV.ptr 1 0),(4,AV.ptr 2 0),(7,AV.ptr 3 0),(8,AV.clo (Fn.func 74) [] [AV.ptr 2 0,AV.ptr 3 0]),(54,AV.sl Sh.str l54),(55,AV.int .i64 i55),(56,AV.int .i64 i56)],[AO.box (bK [] [CP.d zo] z0),AO.box [AV.str jb0,AV.nils,AV.int .i64 jb2,AV.nils,AV.nils,AV.str jb5,AV.int .i64 jb6,AV.int .i64 jb7,AV.str jb8,AV.str jb9,AV.nils],AO.box [AV.str jc0,AV.vec 4,AV.int .i64 jc2,AV.vec 5,AV.nils,AV.str jc5,AV.int .i64 jc6,AV.int .i64 jc7,AV.str jc8,AV.str jc9,AV.sl Sh.expr jc10],AO.box [AV.int .i64 jd0],AO.vec zi lh_4,AO.vec zg lh_5]⟩)
 | .h19 l70 i71 i72 ja0 ja2 ja5 ja6 ja7 ja8 ja9 jb0 jb2 jb5 jb6 jb7 jb8 jb9 jb10 jc0 lh_3 lh_4 lh_5=>(19,⟨tm 107 [(2,AV.ptr 0 0),(4,AV.ptr 1 0),(7,AV.ptr 2 0),(8,AV.clo (Fn.func 74) [] [AV.ptr 1 0,AV.ptr 2 0]),(70,AV.sl (Sh.str.pr Sh.str) l70),(71,AV.int .i64 i71),(72,AV.int .i64 i72)],[AO.box [AV.str ja0,AV.nils,AV.int .i64 ja2,AV.nils,AV.nils,AV.str ja5,AV.int .i64 ja6,AV.int .i64 ja7,AV.str ja8,AV.str ja9,AV.nils],AO.box [AV.str jb0,AV.vec 3,AV.int .i64 jb2,AV.vec 4,AV.vec 5,AV.str jb5,AV.int .i64 jb6,AV.int .i64 jb7,AV.str jb8,AV.str jb9,AV.sl Sh.expr jb10],AO.box [AV.int .i64 jc0],AO.vec zi lh_3,AO.vec zg lh_4,AO.vec zq lh_5]⟩)
def W7 (x0:Sem zo):Tr (ow ⊕ ao):=
 let a0 := !x0.1==[99,114,101,97,116,101]
 let a1:=zE x0.2.2.2.2.2.2.2.2.1
 let a2:=(x0.1,x0.2.1,x0.2.2.1,x0.2.2.2.1,x0.2.2.2.2.1,x0.2.2.2.2.2.1,x0.2.2.2.2.2.2.1,x0.2.2.2.2.2.2.2.1,a1,x0.2.2.2.2.2.2.2.2.2.1,x0.2.2.2.2.2.2.2.2.2.2.1,zE x0.2.2.2.2.2.2.2.2.2.2.2.1,x0.2.2.2.2.2.2.2.2.2.2.2.2)
 Tr.chk (bif a0 then true else pt a2)
 (Tr.br (bif a0 then true else !dO a2)
  (Tr.re (AV.tup [AV.agg [AV.str [],AV.nils,AV.int .i64 0,AV.nils,AV.nils,AV.str [],AV.int .i64 0,AV.int .i64 0,AV.str [],AV.str [],AV.nils],AV.int .i64 1]) [])
  (Tr.chk (decide (length x0.2.2.2.2.1≤1073741824)) (Tr.chk (kC 16 a1) (Tr.to (ow.h5 (↑(length x0.2.2.2.2.1):Int) 0 (x0,()) [] 0 [] 0 0 [] [] x0.2.1 0 (ze.op x0.2.2.2.2.2.2.2.2.1) (ze.v x0.2.2.2.2.2.2.2.2.1).1 (ze.v x0.2.2.2.2.2.2.2.2.1).2.1 (ze.v x0.2.2.2.2.2.2.2.2.1).2.2 (ze.s x0.2.2.2.2.2.2.2.2.1) (ze.l x0.2.2.2.2.2.2.2.2.1) x0.2.2.2.2.1)))))
def np:ow→Tr (ow ⊕ ao)
 | .h5 i33 i34 z0 jb0 jb2 jb5 jb6 jb7 jb8 jb9 jc0 jc2 jc5 jc6 jc7 jc8 jc9 jc10 lh_3=>
  let a0:=(jc0,lh_3,jc2,[],[],ze.mk jc5 (jc6,jc7,jc8) jc9 jc10)
  let a1:=lh_3.getD i34.toNat (zj zi)
  let a2:=gW a0 z0.1.2.2.2.2.2.1
  let a3:=(↑(length z0.1.2.2.2.2.2.2.1):Int)
  Tr.br (decide (i34 < i33))
  (Tr.chk (zI i34 lh_3.length) (Tr.chk (decide (i34.toNat < lh_3.length)) (Tr.br (gW a0 a1.1 != i34) (Tr.re (AV.tup [AV.agg [AV.str [],AV.nils,AV.int .i64 0,AV.nils,AV.nils,AV.str [],AV.int .i64 0,AV.int .i64 0,AV.str [],AV.str [],AV.nils],AV.int .i64 7]) []) (Tr.to
  (ow.h5 i33 (IntKind.i64.wrap (i34+1)) z0 jb0 jb2 jb5 jb6 jb7 jb8 jb9 jc0 jc2 jc5 jc6 jc7 jc8 jc9 jc10 lh_3)))))
  (Tr.br (decide (a2 < 0)) (Tr.to (ow.h14 z0.1.2.2.2.2.2.2.1 a3 0 z0 jb0 jb2 jb5 jb6 jb7 jb8 jb9 jc0 a2 jc5 jc6 jc7 jc8 jc9 jc10 4 lh_3 [])) (Tr.to (ow.h14 z0.1.2.2.2.2.2.2.1 a3 0 z0 jb0 jb2 jb5 jb6 jb7 jb8 jb9 jc0 a2 jc5 jc6 jc7 jc8 jc9 jc10 0 lh_3 [])))
 | .h14 l54 i55 i56 z0 jb0 jb2 jb5 jb6 jb7 jb8 jb9 jc0 jc2 jc5 jc6 jc7 jc8 jc9 jc10 jd0 lh_4 lh_5=>
  let a0:=gW (jc0,lh_4,jc2,lh_5,[],ze.mk jc5 (jc6,jc7,jc8) jc9 jc10) (l54.getD i56.toNat (zj Sh.str))
  let a1:=[a0]
  let a2:=decide (lh_5.length+a1.length≤1073741824)
  let a3:=IntKind.i64.wrap (i56+1)
  let a4:=lh_5++a1
  Tr.br (decide (i56 < i55))
  (Tr.chk (zI i56 l54.length) (Tr.br (decide (a0 < 0)) (Tr.chk a2 (Tr.to (ow.h14 l54 i55 a3 z0 jb0 jb2 jb5 jb6 jb7 jb8 jb9 jc0 jc2 jc5 jc6 jc7 jc8 jc9 jc10 4 lh_4 a4))) (Tr.chk a2 (Tr.to (ow.h14 l54 i55 a3 z0 jb0 jb2 jb5 jb6 jb7 jb8 jb9 jc0 jc2 jc5 jc6 jc7 jc8 jc9 jc10 jd0 lh_4 a4)))))
  (Tr.to (ow.h19 z0.1.2.2.2.2.2.2.2.1 (↑(length z0.1.2.2.2.2.2.2.2.1):Int) 0 jb0 jb2 jb5 jb6 jb7 jb8 jb9 jc0 jc2 jc5 jc6 jc7 jc8 jc9 jc10 jd0 lh_4 lh_5 []))
 | .h19 l70 i71 i72 ja0 ja2 ja5 ja6 ja7 ja8 ja9 jb0 jb2 jb5 jb6 jb7 jb8 jb9 jb10 jc0 lh_3 lh_4 lh_5=>
  let a0:=ze.mk jb5 (jb6,jb7,jb8) jb9 jb10
  let a1:=l70.getD i72.toNat (zj (Sh.str.pr Sh.str))
  let a2:=gW (jb0,lh_3,jb2,lh_4,lh_5,a0) a1.1
  let a3:=[(a2,a1.2)]
  let a4:=decide (lh_5.length+a3.length≤1073741824)
  let a5:=IntKind.i64.wrap (i72+1)
  let a6:=lh_5++a3
  let a7:=fI a0 lh_3
  let a8:=lh_3.getD (toNat jb2) (zj zi)
  Tr.br (decide (i72 < i71))
  (Tr.chk (zI i72 l70.length) (Tr.br (decide (a2 < 0)) (Tr.chk a4 (Tr.to (ow.h19 l70 i71 a5 ja0 ja2 ja5 ja6 ja7 ja8 ja9 jb0 jb2 jb5 jb6 jb7 jb8 jb9 jb10 4 lh_3 lh_4 a6))) (Tr.chk a4 (Tr.to (ow.h19 l70 i71 a5 ja0 ja2 ja5 ja6 ja7 ja8 ja9 jb0 jb2 jb5 jb6 jb7 jb8 jb9 jb10 jc0 lh_3 lh_4 a6)))))
  (Tr.br (jc0==0) (Tr.br (a7 != 0) (Tr.re (AV.tup [AV.agg [AV.str [],AV.nils,AV.int .i64 0,AV.nils,AV.nils,AV.str [],AV.int .i64 0,AV.int .i64 0,AV.str [],AV.str [],AV.nils],AV.int .i64 a7]) []) (Tr.chk (zI jb2 lh_3.length) (Tr.chk (decide (toNat jb2 < lh_3.length)) (Tr.re (AV.tup [AV.agg
  [AV.str jb0,AV.vec 0,AV.int .i64 jb2,AV.vec 1,AV.vec 2,AV.str jb5,AV.int .i64 jb6,AV.int .i64 jb7,AV.str jb8,AV.str jb9,AV.sl Sh.expr jb10],AV.int .i64 0]) [AO.vec zi (lh_3.set (toNat jb2) (a8.1,a8.2.1,true)),AO.vec zg lh_4,AO.vec zq lh_5])))) (Tr.br (jc0 != 0) (Tr.re (AV.tup [AV.agg
  [AV.str [],AV.nils,AV.int .i64 0,AV.nils,AV.nils,AV.str [],AV.int .i64 0,AV.int .i64 0,AV.str [],AV.str [],AV.nils],AV.int .i64 jc0]) []) (Tr.chk (zI jb2 lh_3.length) (Tr.chk (decide (toNat jb2 < lh_3.length)) (Tr.re (AV.tup [AV.agg [AV.str jb0,AV.vec 0,AV.int .i64 jb2,AV.vec 1,AV.vec 2,AV.str jb5,AV.int .i64 jb6,AV.int .i64 jb7,
  AV.str jb8,AV.str jb9,AV.sl Sh.expr jb10],AV.int .i64 0]) [AO.vec zi (lh_3.set (toNat jb2) (a8.1,a8.2.1,true)),AO.vec zg lh_4,AO.vec zq lh_5])))))
def Kh (x0:Sem zo):=zW [zw,zg] np 100000000 (W7 x0)
def YF (x0:Sem zo):=(Kh x0).isSome
def sOf (x0:Sem zo):=o2 (Kh x0)
def Z0:=FT [zo] [zw,zg] fun x=>Kh x.1
theorem Va:FK 38 Z0:=vO.T1 (f:=Tryz.f38) (keep:=zeb) (e:=zgG)

def LP:=LO.add 38 Z0
theorem vP:zl LP:=vO.add Va
end

noncomputable def Ms (x0:Sem ag):Tr (Empty ⊕ ao):=
 let a0:=(x0.2.1,x0.2.2.1,x0.2.2.2.1,x0.2.2.2.2.1,x0.2.2.2.2.2.1,x0.2.2.2.2.2.2.1,x0.2.2.2.2.2.2.2.1,x0.2.2.2.2.2.2.2.2.1,zE x0.2.2.2.2.2.2.2.2.2.1,x0.2.2.2.2.2.2.2.2.2.2.1,x0.2.2.2.2.2.2.2.2.2.2.2.1,zE x0.2.2.2.2.2.2.2.2.2.2.2.2.1,x0.2.2.2.2.2.2.2.2.2.2.2.2.2)
 let a1:=sOf a0
 let a2:=bT a1.2
 let a3:=zO x0.1 a1.1.1
 let a4:=((a1.1.1,a1.1.2.1,a1.1.2.2.1,a1.1.2.2.2.1,a1.1.2.2.2.2.1,zE a1.1.2.2.2.2.2),[])
 let a5:=jU x0.1 a4
 let a6:=kG a5 1
 Tr.chk (YF a0)
 (Tr.br (a1.2 != 0)
  (Tr.chk (o4 a1.2) (Tr.re (AV.tup [AV.sl zh a2.1,AV.agg [AV.int .i64 a2.2.1,AV.int .i64 a2.2.2.1,AV.sl zf.sl a2.2.2.2]]) []))
  (Tr.br (decide (a3 ≥ 0)) (Tr.chk true (Tr.re (AV.tup [AV.sl zh (bT 7).1,AV.agg [AV.int .i64 (bT 7).2.1,AV.int .i64 (bT 7).2.2.1,AV.sl zf.sl (bT 7).2.2.2]]) [])) (Tr.br (decide ((↑(length x0.1):Int) ≥ 12)) (Tr.chk true (Tr.re (AV.tup [AV.sl zh (bT 13).1,AV.agg [AV.int .i64 (bT 13).2.1,AV.int .i64 (bT 13).2.2.1,AV.sl zf.sl (bT 13).2.2.2]]) []))
  (Tr.chk (jv x0.1 a4) (Tr.chk (gG a5 1) (Tr.re (AV.tup [AV.sl zh a6.1,AV.agg [AV.int .i64 a6.2.1,AV.int .i64 a6.2.2.1,AV.sl zf.sl a6.2.2.2]]) []))))))
noncomputable def eb (x0:Sem ag):=zW [zh.sl,cw] t0 100000000 (Ms x0)
noncomputable def uV (x0:Sem ag):=(eb x0).isSome
noncomputable def Bn (x0:Sem ag):=o2 (eb x0)
noncomputable def ZH:=FT [ag] [zh.sl,cw] fun x=>eb x.1
theorem UL:FK 17 ZH:=vP.T1 (f:=Tryz.f17) (keep:=k0) (e:=e0)

noncomputable def LQ:=LP.add 17 ZH
theorem vQ:zl LQ:=vP.add UL
noncomputable section

abbrev XA:=mn [(2,[0,1,7,8])]
inductive yu where
 | h2 (l0:List (Sem zg)) (i1:Sem zg) (i7:Int) (i8:Int)
abbrev zcJ:yu→Nat×St
 | .h2 l0 i1 i7 i8=>(2,⟨tm 19 [(0,AV.sl zg l0),(1,AV.int .i64 i1),(7,AV.int .i64 i7),(8,AV.int .i64 i8)],[]⟩)
def Tj (x0:Sem zg.sl) (x1:Sem zg):Tr (yu ⊕ ao):=
 Tr.to (yu.h2 x0 x1 (↑(length x0):Int) 0)
def ER:yu→Tr (yu ⊕ ao)
 | .h2 l0 i1 i7 i8=>
  Tr.br (decide (i8 < i7))
  (Tr.chk (zI i8 l0.length) (Tr.br (i1==l0.getD i8.toNat (zj zg)) (Tr.re (AV.int .i64 i8) []) (Tr.to (yu.h2 l0 i1 i7 (IntKind.i64.wrap (i8+1))))))
  (Tr.re (AV.int .i64 (-1)) [])
def QP (x0:Sem zg.sl) (x1:Sem zg):=zW [zg] ER 100000000 (Tj x0 x1)
def Xi (x0:Sem zg.sl) (x1:Sem zg):=(QP x0 x1).isSome
def ixI (x0:Sem zg.sl) (x1:Sem zg):=o1 (QP x0 x1)
def R1:=FT [zg.sl,zg] [zg] fun x=>QP x.1 x.2.1
theorem Pt:FK 135 R1:=vQ.T1 (f:=Tryz.f135) (keep:=XA) (e:=zcJ)

def LZ:=LQ.add 135 R1
theorem vY:zl LZ:=vQ.add Pt
end

noncomputable def zdT (x0:Sem zg.sl) (x1:Sem zg):Tr (Empty ⊕ ao):=
 Tr.chk (Xi x0 x1) (Tr.re (AV.bool (decide (ixI x0 x1 ≥ 0))) [])
noncomputable def D0 (x0:Sem zg.sl) (x1:Sem zg):=zW [Sh.bool] t0 100000000 (zdT x0 x1)
noncomputable def Mg (x0:Sem zg.sl) (x1:Sem zg):=(D0 x0 x1).isSome
noncomputable def WX (x0:Sem zg.sl) (x1:Sem zg):=o1 (D0 x0 x1)
noncomputable def zay:=FT [zg.sl,zg] [Sh.bool] fun x=>D0 x.1 x.2.1
theorem VL:FK 82 zay:=vY.T1 (f:=Tryz.f82) (keep:=k0) (e:=e0)

noncomputable def L0:=LZ.add 82 zay
theorem vZ:zl L0:=vY.add VL
noncomputable section

abbrev zec:Nat→aj:=fun j=>if j=3 then { slots:=[3,6,14,15,16],prom:=[(6,none,.int .i64)] } else { }
inductive I2 where
 | h3 (l14:List (Sem (Sh.str.pr Sh.expr))) (i15:Int) (i16:Int) (z0:zu [CP.d zw]) (lh_1:List (Sem zg))
abbrev zgH:I2→Nat×St
 | .h3 l14 i15 i16 z0 lh_1=>(3,⟨tm 58 [(3,AV.ptr 0 0),(6,AV.vec 1),(14,AV.sl (Sh.str.pr Sh.expr) l14),(15,AV.int .i64 i15),(16,AV.int .i64 i16)],[AO.box (bK [] [CP.d zw] z0),AO.vec zg lh_1]⟩)
def zh0 (x0:Sem ag) (x1:Sem zw):Tr (I2 ⊕ ao):=
 Tr.to (I2.h3 x0.2.2.2.2.2.2.2.2.2.2.2.1 (↑(length x0.2.2.2.2.2.2.2.2.2.2.2.1):Int) 0 (x1,()) [])
def yl:I2→Tr (I2 ⊕ ao)
 | .h3 l14 i15 i16 z0 lh_1=>
  let a0:=l14.getD i16.toNat (zj (Sh.str.pr Sh.expr))
  let a1:=gW (z0.1.1,z0.1.2.1,z0.1.2.2.1,z0.1.2.2.2.1,z0.1.2.2.2.2.1,zE z0.1.2.2.2.2.2) a0.1
  let a2:=bn (zE a0.2) z0.1.2.1
  let a3:=getD z0.1.2.1 (toNat a1) (zj zi)
  let a4:=[a1]
  Tr.br (decide (i16 < i15))
  (Tr.chk (zI i16 l14.length) (Tr.br (decide (a1 < 0)) (Tr.re (AV.tup [AV.nils,AV.int .i64 4]) []) (Tr.chk (Mg lh_1 a1) (Tr.br (WX lh_1 a1) (Tr.re (AV.tup [AV.nils,AV.int .i64 7]) []) (Tr.br (a2.2 != 0) (Tr.re (AV.tup [AV.nils,AV.int .i64 a2.2]) []) (Tr.chk (zI a1 (length z0.1.2.1)) (Tr.br (bif a2.1 != a3.2.1 then a2.1 != 0 else false) (Tr.re (AV.tup [AV.nils,AV.int .i64 5]) [])
  (Tr.chk (decide (lh_1.length+a4.length≤1073741824)) (Tr.to (I2.h3 l14 i15 (IntKind.i64.wrap (i16+1)) z0 (lh_1++a4)))))))))))
  (Tr.re (AV.tup [AV.vec 0,AV.int .i64 0]) [AO.vec zg lh_1])
def Br (x0:Sem ag) (x1:Sem zw):=zW [zg.sl,zg] yl 100000000 (zh0 x0 x1)
def Fr (x0:Sem ag) (x1:Sem zw):=(Br x0 x1).isSome
def La (x0:Sem ag) (x1:Sem zw):=o2 (Br x0 x1)
def Z8:=FT [ag,zw] [zg.sl,zg] fun x=>Br x.1 x.2.1
theorem Vi:FK 46 Z8:=vZ.T1 (f:=Tryz.f46) (keep:=zec) (e:=zgH)

def FF:=L0.add 46 Z8
theorem lD:zl FF:=vZ.add Vi
end
noncomputable section
def Wt:bx:={ FF with nest:=true }
theorem FG:zl Wt:=⟨⟨lD.sh⟩,lD.fs,lD.mix⟩

abbrev zd4:Nat→aj:=fun j=>if j=13 then { slots:=[1,3,5,6,8,9,61,62,63],fill:=[9] } else if j=19 then { slots:=[1,3,5,6,8,9,10,11,61,62,63,88,89,90] } else { }
inductive A8 where
 | h13 (l6:List (Sem zg)) (l61:List (Sem zf.sl)) (i62:Int) (i63:Int) (z0:zu [CP.d ag]) (z2:zu [CP.d zh]) (jb0:Int) (jb1:Int) (mh_3:List ((Int×Int×zp)×Int)) (lh_4:List (Sem zf.sl))
 | h19 (l6:List (Sem zg)) (i10:Int) (l11:List (Sem zf)) (l61:List (Sem zf.sl)) (i62:Int) (i63:Int) (l88:List (Sem (Sh.str.pr Sh.expr))) (i89:Int) (i90:Int) (z0:zu [CP.d ag]) (z2:zu [CP.d zh]) (jb0:Int) (jb1:Int) (mh_3:List ((Int×Int×zp)×Int)) (lh_4:List (Sem zf.sl)) (jh_4:Nat) (lh_5:List (Sem zf))
abbrev zgC:A8→Nat×St
 | .h13 l6 l61 i62 i63 z0 z2 jb0 jb1 mh_3 lh_4=>(13,⟨tm 123 [(1,AV.ptr 0 0),(3,AV.ptr 1 0),(5,AV.ptr 2 0),(6,AV.sl zg l6),(8,AV.mp 3),(9,AV.vec 4),(61,AV.sl zf.sl l61),(62,AV.int .i64 i62),(63,AV.int .i64 i63)],[AO.box (bK [] [CP.d ag] z0),AO.box [AV.int .i64 jb0,AV.int .i64 jb1,AV.nils],AO.box (bK [] [CP.d zh] z2),AO.vmap true mh_3,AO.vec zf.sl lh_4]⟩)
 | .h19 l6 i10 l11 l61 i62 i63 l88 i89 i90 z0 z2 jb0 jb1 mh_3 lh_4 jh_4 lh_5=>(19,⟨tm 123 [(1,AV.ptr 0 0),(3,AV.ptr 1 0),(5,AV.ptr 2 0),(6,AV.sl zg l6),(8,AV.mp 3),(9,AV.vec 4),(10,AV.int .i64 i10),(11,AV.sl zf l11),(61,AV.sl zf.sl l61),(62,AV.int .i64 i62),(63,AV.int .i64 i63),(88,AV.sl (Sh.str.pr Sh.expr) l88),(89,AV.int .i64 i89),(90,AV.int .i64 i90)],[AO.box (bK [] [CP.d ag] z0),AO.box [AV.int .i64 jb0,AV.int .i64 jb1,AV.nils],AO.box (bK [] [CP.d zh] z2),AO.vmap true mh_3,AO.hol zf lh_4 jh_4 5,AO.vec zf lh_5]⟩)
def JJ (x0:Sem ag):Tr (A8 ⊕ ao):=
 let a0:=zO x0.1 x0.2.2.1
 let a1:=(x0.1,x0.2.1,x0.2.2.1,x0.2.2.2.1,x0.2.2.2.2.1,x0.2.2.2.2.2.1,x0.2.2.2.2.2.2.1,x0.2.2.2.2.2.2.2.1,x0.2.2.2.2.2.2.2.2.1,zE x0.2.2.2.2.2.2.2.2.2.1,x0.2.2.2.2.2.2.2.2.2.2.1,x0.2.2.2.2.2.2.2.2.2.2.2.1,zE x0.2.2.2.2.2.2.2.2.2.2.2.2.1,x0.2.2.2.2.2.2.2.2.2.2.2.2.2)
 let a2:=getD x0.1 (toNat a0) (zj zh)
 let a3:=(a2.1.1,a2.1.2.1,a2.1.2.2.1,a2.1.2.2.2.1,a2.1.2.2.2.2.1,zE a2.1.2.2.2.2.2)
 let a4:=La a1 a3
 let a5:=bT a4.2
 let a6:=(a3,a2.2)
 let a7:=mV a1 a6
 let a8:=bT a7.2
 Tr.br (decide (a0 < 0))
 (Tr.chk true
  (Tr.re (AV.tup [AV.sl zh (bT 6).1,AV.agg [AV.int .i64 (bT 6).2.1,AV.int .i64 (bT 6).2.2.1,AV.sl zf.sl (bT 6).2.2.2]]) []))
 (Tr.chk (zI a0 (length x0.1))
  (Tr.chk (Fr a1 a3) (Tr.br (a4.2 != 0) (Tr.chk (o4 a4.2) (Tr.re (AV.tup [AV.sl zh a5.1,AV.agg [AV.int .i64 a5.2.1,AV.int .i64 a5.2.2.1,AV.sl zf.sl a5.2.2.2]]) [])) (Tr.chk (mO a1 a6).isSome (Tr.br (a7.2 != 0) (Tr.chk (o4 a7.2) (Tr.re (AV.tup [AV.sl zh a8.1,AV.agg [AV.int .i64 a8.2.1,AV.int .i64 a8.2.2.1,AV.sl zf.sl a8.2.2.2]]) []))
  (Tr.chk (decide (length a2.2≤1073741824)) (Tr.to (A8.h13 a4.1 a2.2 (↑(length a2.2):Int) 0 (x0,()) (a2,()) 0 0 a7.1 a2.2))))))))
def CD:A8→Tr (A8 ⊕ ao)
 | .h13 l6 l61 i62 i63 z0 z2 jb0 jb1 mh_3 lh_4=>
  let a0:=l61.getD i63.toNat (zj zf.sl)
  let a1:=(z0.1.1,z0.1.2.1,z0.1.2.2.1,z0.1.2.2.2.1,z0.1.2.2.2.2.1,z0.1.2.2.2.2.2.1,z0.1.2.2.2.2.2.2.1,z0.1.2.2.2.2.2.2.2.1,z0.1.2.2.2.2.2.2.2.2.1,zE z0.1.2.2.2.2.2.2.2.2.2.1,z0.1.2.2.2.2.2.2.2.2.2.2.1,z0.1.2.2.2.2.2.2.2.2.2.2.2.1,zE z0.1.2.2.2.2.2.2.2.2.2.2.2.2.1,z0.1.2.2.2.2.2.2.2.2.2.2.2.2.2)
  let a2:=((z2.1.1.1,z2.1.1.2.1,z2.1.1.2.2.1,z2.1.1.2.2.2.1,z2.1.1.2.2.2.2.1,zE z2.1.1.2.2.2.2.2),lh_4)
  let a3:=nE a1 a2 (↑mh_3.length:Int)
  Tr.br (decide (i63 < i62))
  (Tr.chk (zI i63 l61.length) (Tr.chk (zI z2.1.1.2.2.1 (length a0)) (Tr.br (!fT mh_3 (getD a0 (toNat z2.1.1.2.2.1) (zj zf))) (Tr.to (A8.h13 l6 l61 i62 (IntKind.i64.wrap (i63+1)) z0 z2 jb0 jb1 mh_3 lh_4)) (Tr.chk (decide (length a0≤1073741824)) (Tr.chk (zI i63 lh_4.length) (Tr.chk (decide (i63.toNat < lh_4.length)) (Tr.to
  (A8.h19 l6 i63 a0 l61 i62 i63 z0.1.2.2.2.2.2.2.2.2.2.2.2.1 (↑(length z0.1.2.2.2.2.2.2.2.2.2.2.2.1):Int) 0 z0 z2 jb0 jb1 mh_3 lh_4 i63.toNat a0))))))))
  (Tr.chk (decide (mh_3.length≤1073741824)) (Tr.chk (kF a1 a2 (↑mh_3.length:Int)) (Tr.re (AV.tup [AV.sl zh a3.1,AV.agg [AV.int .i64 a3.2.1,AV.int .i64 a3.2.2.1,AV.sl zf.sl a3.2.2.2]]) [])))
 | .h19 l6 i10 l11 l61 i62 i63 l88 i89 i90 z0 z2 jb0 jb1 mh_3 lh_4 jh_4 lh_5=>
  let a0:=l6.getD i90.toNat (zj zg)
  let a1:=l88.getD i90.toNat (zj (Sh.str.pr Sh.expr))
  Tr.br (decide (i90 < i89))
  (Tr.chk (zI i90 l88.length) (Tr.chk (zI i10 lh_4.length) (Tr.chk (decide (i10.toNat=jh_4)) (Tr.chk (zI i90 l6.length) (Tr.chk (zI a0 lh_5.length) (Tr.chk (decide (toNat a0 < lh_5.length)) (Tr.to (A8.h19 l6 i10 l11 l61 i62 i63 l88 i89 (IntKind.i64.wrap (i90+1)) z0 z2 jb0 jb1 mh_3 lh_4 jh_4 (lh_5.set (toNat a0) (il (zE a1.2) z2.1.1.2.1 l11))))))))))
  (Tr.to (A8.h13 l6 l61 i62 (IntKind.i64.wrap (i63+1)) z0 z2 jb0 jb1 mh_3 (lh_4.set jh_4 lh_5)))
def fW (x0:Sem ag):=zW [zh.sl,cw] CD 100000000 (JJ x0)
def uZ (x0:Sem ag):=(fW x0).isSome
def Bs (x0:Sem ag):=o2 (fW x0)
def ZL:=FT [ag] [zh.sl,cw] fun x=>fW x.1
theorem UP:FK 20 ZL:=FG.T1 (f:=Tryz.f20) (keep:=zd4) (e:=zgC)

end
noncomputable def FH:=FF.add 20 ZL
theorem v6:zl FH:=lD.add UP

noncomputable def zav:zF:=zU (List.replicate 2 none) (bZ FH Tryz.f80 (List.replicate 2 none))
theorem VI:FK 80 zav:=aw _ v6 (aS (by kernel_rfl))

noncomputable def vR:=FH.add 80 zav
theorem vS:zl vR:=v6.add VI

abbrev Tu:=mn [(2,[0,1,7,8])]
inductive I1 where
 | h2 (i7:Int) (i8:Int) (lh_0:List (Sem zh)) (jb0:zp)
abbrev Lh:I1→Nat×St
 | .h2 i7 i8 lh_0 jb0=>(2,⟨tm 19 [(0,AV.vec 0),(1,AV.clo (Fn.func 80) [] [AV.ptr 1 0]),(7,AV.int .i64 i7),(8,AV.int .i64 i8)],[AO.vec zh lh_0,AO.box [AV.str jb0]]⟩)
theorem zeK:zA vR.P 36 Tryz.f36 2:=aS (by kernel_rfl)
noncomputable def zdQ (l:List (Sem zh)) (n:zp):Tr (I1 ⊕ ao):=
 Tr.to (I1.h2 (↑l.length:Int) 0 l n)
theorem zc5 (l:List (Sem zh)) (n:zp):rn vR 2 Tu Tryz.f36 [AV.vec 0,AV.clo (Fn.func 80) [] [AV.ptr 1 0]] [AO.vec zh l,AO.box [AV.str n]]=(zdQ l n).map (lf Tryz.f36 Lh):=by kernel_rfl
noncomputable def ON:I1→Tr (I1 ⊕ ao)
 | .h2 i7 i8 lh_0 jb0=>
  let a0:=lh_0.getD i8.toNat (zj zh)
  Tr.br (decide (i8 < i7))
  (Tr.chk (zI i8 lh_0.length) (Tr.chk (decide (i8.toNat < lh_0.length)) (Tr.br (a0.1.1==jb0) (Tr.re (AV.int .i64 i8) [AO.vec zh lh_0,AO.box [AV.str jb0]]) (Tr.to (I1.h2 i7 (IntKind.i64.wrap (i8+1)) lh_0 jb0)))))
  (Tr.re (AV.int .i64 (-1)) [AO.vec zh lh_0,AO.box [AV.str jb0]])
theorem zfw:∀ s,run vR 2 Tu (Func.results Tryz.f36).toList 400 (zy Tryz.f36 (Lh s).1) (Lh s).2=(ON s).map (lf Tryz.f36 Lh):=by intro s; cases s <;> kernel_rfl
abbrev JU (n:zp):Sem zh→Bool:=fun y=>y.1.1==n
theorem Xk (l:List (Sem zh)) (s:zp) (hl:l.length≤1000000):∀ (m i n:Nat),l.length - i=m→i≤l.length→m < n→
  bw ON n (.h2 (l.length:Int) (i:Int) l s)=some (.int .i64 (zL (JU s) (l.drop i) i),[AO.vec zh l,AO.box [AV.str s]]):=by
 intro m
 induction m with
 | zero=>
  intro i n hm hi hn
  obtain rfl:i=l.length:=by omega
  obtain ⟨n,rfl⟩:∃ k,n=k+1:=⟨n - 1,by omega⟩
  rw [bw]
  simp only [ON,Tr.val,zY,cL]
  rfl
 | succ m IH=>
  intro i n hm hi hn
  have hlt:i < l.length:=by omega
  have h2:decide ((i:Int).toNat < l.length)=true:=by simpa using hlt
  obtain ⟨n,rfl⟩:∃ k,n=k+1:=⟨n - 1,by omega⟩
  rw [bw,cX hlt]
  simp only [ON,Tr.val,zT hlt,zC hlt,h2,ae l _ hlt,zD i (by unfold zB; omega),if_true,zL]
  by_cases h:JU s l[i]=true
  ·have h':(l[i].1.1==s)=true:=h
   rw [h]
   simp only [h',if_true]
  ·have h':¬ (l[i].1.1==s)=true:=h
   rw [if_neg h',Bool.eq_false_iff.2 h]
   exact IH (i+1) n (by omega) (by omega) (by omega)
def zb8:cG [none,none]:=fun a h=>match a,h with
 | (.vec 0,.clo (.func 80) [] [.ptr 1 0],_),[.vec Gt l,.box [.str s]]=>.chk (decide (length l≤1000000)) (.ok (.int .i64 (zL (JU s) l 0),[.vec zh l,.box [.str s]]))
 | _,_=>.err
def ZZ:zF:=zU [none,none] zb8
theorem U8:FK 36 ZZ:=by
 refine fv (ι:=List (Sem zh)×zp) (args:=fun _=>[AV.vec 0,AV.clo (Fn.func 80) [] [AV.ptr 1 0]]) (heap:=fun y=>[AO.vec zh y.1,AO.box [AV.str y.2]]) (i:=fun y=>zdQ y.1 y.2) (t:=ON) (e:=Lh) (n:=100000000) (n0:=2) vS zeK (fun _=>rfl) (fun y=>zc5 _ _) zfw (fun a h res hv=>?_)
 unfold zb8 at hv
 split at hv
 ·rename_i u l s
  simp only [Tr.val] at hv
  split at hv
  ·rename_i h1
   simp only [ap] at hv
   subst hv
   have h1:length l≤1000000:=fj h1
   have:=Xk l s h1 l.length 0 100000000 rfl (aV _) (by omega)
   rw [List.drop_zero] at this
   exact ⟨(l,s),rfl,rfl,this⟩
  ·cases hv
 ·simp at hv

noncomputable def vT:=vR.add 36 ZZ
theorem vU:zl vT:=vS.add U8

abbrev Ty:=mn [(5,[0,1,5,6])]
inductive E7 where
 | h5 (i5:Int) (i6:Int) (lh_0:List (Sem zh)) (jb0:zp)
abbrev Ln:E7→Nat×St
 | .h5 i5 i6 lh_0 jb0=>(5,⟨tm 42 [(0,AV.vec 0),(1,AV.clo (Fn.func 80) [] [AV.ptr 1 0]),(5,AV.int .i64 i5),(6,AV.int .i64 i6)],[AO.vec zh lh_0,AO.box [AV.str jb0]]⟩)
theorem zff:zA vT.P 79 Tryz.f79 2:=aS (by kernel_rfl)
noncomputable def QM (l:List (Sem zh)) (n:zp):Tr (E7 ⊕ ao):=
 let a0:=zL (JU n) l 0
 Tr.chk (decide (l.length≤1000000))
 (Tr.br (a0==-1)
  (Tr.re (AV.vec 0) [AO.vec zh l,AO.box [AV.str n]])
  (Tr.to (E7.h5 a0 (IntKind.i64.wrap (a0+1)) l n)))
theorem zdi (l:List (Sem zh)) (n:zp):rn vT 2 Ty Tryz.f79 [AV.vec 0,AV.clo (Fn.func 80) [] [AV.ptr 1 0]] [AO.vec zh l,AO.box [AV.str n]]=(QM l n).map (lf Tryz.f79 Ln):=by kernel_rfl
noncomputable def Kn:E7→Tr (E7 ⊕ ao)
 | .h5 i5 i6 lh_0 jb0=>
  let a0:=lh_0.getD i6.toNat (zj zh)
  let a1:=IntKind.i64.wrap (i6+1)
  let a2:=decide (0≤i5)
  let a3:=List.take i5.toNat lh_0++List.replicate (lh_0.length - i5.toNat) (([],[],0,[],[],ze.mk [] (0,0,[]) [] []),[])
  let a4:=(↑a3.length:Int)
  Tr.br (decide (i6 < (↑lh_0.length:Int)))
  (Tr.chk (zI i6 lh_0.length) (Tr.chk (decide (i6.toNat < lh_0.length)) (Tr.br (!a0.1.1==jb0) (Tr.chk (zI i5 lh_0.length) (Tr.chk (decide (i5.toNat < lh_0.length)) (Tr.to (E7.h5 (IntKind.i64.wrap (i5+1)) a1 (lh_0.set i5.toNat ((a0.1.1,a0.1.2.1,a0.1.2.2.1,a0.1.2.2.2.1,a0.1.2.2.2.2.1,zE a0.1.2.2.2.2.2),a0.2)) jb0)))) (Tr.to (E7.h5 i5 a1 lh_0 jb0)))))
  (Tr.chk (a2&&decide (i5≤(↑lh_0.length:Int))) (Tr.chk (decide (i5.toNat≤lh_0.length)) (Tr.chk (decide (0≤0)&&a2&&decide (i5≤a4)) (Tr.re (AV.sl zh (List.take (i5.toNat - toNat 0) (List.drop (toNat 0) a3))) [AO.frz zh a3,AO.box [AV.str jb0]]))))
theorem zfG:∀ s,run vT 2 Ty (Func.results Tryz.f79).toList 400 (zy Tryz.f79 (Ln s).1) (Ln s).2=(Kn s).map (lf Tryz.f79 Ln):=by intro s; cases s <;> kernel_rfl
noncomputable def SV (l:List (Sem zh)) (n:zp):=bl Kn 100000000 (QM l n)

def bf (db:List (Sem zh)) (n:zp):List (Sem zh):=db.filter fun y => !(y.1.1==n)
abbrev Rx:Sem zh:=(([],[],0,[],[],ze.mk [] (0,0,[]) [] []),[])
abbrev Rw (s:zp) (l:List (Sem zh)):List (Sem zh):=bf l s++List.replicate (l.length - (bf l s).length) Rx
def zf9 (s:zp) (l:List (Sem zh)):List AO:=[AO.frz zh (Rw s l),AO.box [AV.str s]]
theorem Qq (l:List (Sem zh)) (s:zp) (hl:l.length≤1000000):∀ (m i6 i5 n:Nat) (cur:List (Sem zh)),l.length - i6=m→i6≤l.length→i5≤i6→cur.length=l.length→
  cur.take i5=bf (l.take i6) s→cur.drop i6=l.drop i6→m < n→
  bw Kn n (.h5 (i5:Int) (i6:Int) cur s)=some (.sl zh (bf l s),zf9 s l):=by
 intro m
 induction m with
 | zero=>
  intro i6 i5 n cur hm' hi h5 hcl ht hd hn
  obtain rfl:i6=l.length:=by omega
  obtain ⟨n,rfl⟩:∃ k,n=k+1:=⟨n - 1,by omega⟩
  rw [List.take_length] at ht
  have hlen5:(bf l s).length=i5:=by rw [← ht,sx]; omega
  have e1:decide ((l.length:Int) < (cur.length:Int))=false:=by rw [hcl]; simp
  have e2:(decide ((0:Int)≤(i5:Int))&&decide ((i5:Int)≤(cur.length:Int)))=true:=by simp; omega
  have e3:decide ((i5:Int).toNat≤cur.length)=true:=by simp; omega
  have e4:(decide ((0:Int)≤0)&&decide ((0:Int)≤(i5:Int))&&decide ((i5:Int)≤((List.take (i5:Int).toNat cur++List.replicate (cur.length - (i5:Int).toNat) Rx).length:Int)))=true:=by simp; omega
  rw [bw]
  simp only [Kn,Tr.val,e1,e2,e3,if_true,zH,if_false]
  have e5:List.take ((i5:Int).toNat - toNat 0) (List.drop (toNat 0) (List.take (i5:Int).toNat cur++List.replicate (cur.length - (i5:Int).toNat) Rx))=bf l s:=by
   simp only [aQ,Int.toNat_zero,List.drop_zero,Nat.sub_zero]
   rw [List.take_append_of_le_length (by simp; omega),List.take_take,Nat.min_self,ht]
  have e6:List.take (i5:Int).toNat cur++List.replicate (cur.length - (i5:Int).toNat) Rx=Rw s l:=by
   simp only [aQ]
   rw [ht,hcl]
   unfold Rw
   rw [hlen5]
  rw [if_pos (by simp; omega),e5,e6]
  rfl
 | succ m IH=>
  intro i6 i5 n cur hm' hi h5 hcl ht hd hn
  obtain ⟨n,rfl⟩:∃ k,n=k+1:=⟨n - 1,by omega⟩
  have hlt:i6 < l.length:=by omega
  have hltc:i6 < cur.length:=by omega
  have h5c:i5 < cur.length:=by omega
  have hc6:cur[i6]=l[i6]:=by
   have:=congrArg (·[0]?) hd
   simp only [jO,oC] at this
   rw [zJ hltc,zJ hlt] at this
   exact Option.some.inj this
  have h2:decide ((i6:Int).toNat < cur.length)=true:=by simpa using hltc
  have h3:decide ((i5:Int).toNat < cur.length)=true:=by simpa using h5c
  have ht6:bf (l.take (i6+1)) s=bf (l.take i6) s++(if (l[i6].1.1==s)=true then [] else [l[i6]]):=by
   unfold bf
   rw [AY hlt,List.filter_append]
   cases hq:(l[i6].1.1==s) <;> simp [hq]
  have hd6:cur.drop (i6+1)=l.drop (i6+1):=by
   have:=congrArg (List.drop 1) hd
   simpa [List.drop_drop,oB] using this
  rw [bw]
  simp only [Kn,Tr.val,zm,Prod.eta,zT hltc,zC hltc,zC h5c,h2,h3,ae cur _ hltc,hc6,zD i6 (by unfold zB; omega),zD i5 (by unfold zB; omega),if_true]
  cases hk:(l[i6].1.1==s) with
  | true=>
   simp only [fk,zH,if_false]
   refine IH (i6+1) i5 n cur (by omega) (by omega) (by omega) hcl ?_ hd6 (by omega)
   rw [ht6,hk,if_pos rfl,jQ,ht]
  | false=>
   simp only [pH,if_true]
   refine IH (i6+1) (i5+1) n _ (by omega) (by omega) (by omega) (by simpa using hcl) ?_ ?_ (by omega)
   ·rw [ht6,hk,if_neg (by simp),← ht]
    simp only [aQ]
    rw [AY (by simpa using h5c)]
    simp [List.take_set_of_le]
   ·simp only [aQ]
    rw [List.drop_set_of_lt (by omega)]
    exact hd6
theorem Lf (l:List (Sem zh)) (s:zp) (hl:l.length≤1000000):
  SV l s=some (if zL (JU s) l 0==-1 then (.vec 0,[AO.vec zh l,AO.box [AV.str s]]) else (.sl zh (bf l s),zf9 s l)):=by
 have h0:decide (l.length≤1000000)=true:=aq hl
 unfold SV bl QM
 simp only [Tr.val,h0,if_true]
 by_cases h1:(zL (JU s) l 0==-1)=true
 ·simp only [h1,if_true]
 ·rw [if_neg h1,if_neg h1]
  rcases cd (JU s) l 0 with ⟨h2,_⟩ | ⟨k,hk',h2,h3,h4⟩
  ·exfalso; apply h1; rw [h2]; rfl
  ·rw [h2,eG,zD k (by unfold zB; omega)]
   refine Qq l s hl (l.length - (k+1)) (k+1) k 100000000 l rfl (by omega) (by omega) rfl ?_ rfl (by omega)
   unfold bf
   rw [AY hk',List.filter_append,List.filter_cons_of_neg (by simpa using h3),List.filter_nil,jQ]
   refine (List.filter_eq_self.2 fun y hy=>?_).symm
   have:=h4 y hy
   show (!JU s y)=true
   rw [this]; rfl
def zcd:cG [none,none]:=fun a h=>match a,h with
 | (.vec 0,.clo (.func 80) [] [.ptr 1 0],_),[.vec Gt l,.box [.str s]]=>.chk (decide (length l≤1000000)) (.br (zL (JU s) l 0==-1)
   (.ok (.vec 0,[.vec zh l,.box [.str s]]))
   (.ok (.sl zh (bf l s),[.frz zh (Rw s l),.box [.str s]])))
 | _,_=>.err
def zat:zF:=zU [none,none] zcd
theorem VG:FK 79 zat:=by
 refine fv (ι:=List (Sem zh)×zp) (args:=fun _=>[AV.vec 0,AV.clo (Fn.func 80) [] [AV.ptr 1 0]]) (heap:=fun y=>[AO.vec zh y.1,AO.box [AV.str y.2]]) (i:=fun y=>QM y.1 y.2) (t:=Kn) (e:=Ln) (n:=100000000) (n0:=2) vU zff (fun _=>rfl) (fun y=>zdi _ _) zfG (fun a h res hv=>?_)
 unfold zcd at hv
 split at hv
 ·rename_i u l s
  simp only [Tr.val] at hv
  split at hv
  ·rename_i h1
   refine ⟨(l,s),rfl,rfl,(Lf l s (fj h1)).trans ?_⟩
   split at hv
   ·rename_i h3
    rw [if_pos h3]
    exact hv
   ·rename_i h3
    rw [if_neg h3]
    exact hv
  ·cases hv
 ·simp at hv

noncomputable def LU:=vT.add 79 zat
theorem vV:zl LU:=vU.add VG

noncomputable def Xa (x0:Sem zh.sl) (x1:Sem Sh.str):Tr (Empty ⊕ ao):=
 Tr.chk (decide (length x0≤1073741824))
 (Tr.chk (decide (length x0≤1000000))
  (Tr.br (zL (JU x1) x0 0==-1) (Tr.re (AV.vec 0) [AO.vec zh x0]) (Tr.re (AV.sl zh (bf x0 x1)) [])))
noncomputable def u0 (x0:Sem zh.sl) (x1:Sem Sh.str):=zW [zh.sl] t0 100000000 (Xa x0 x1)
noncomputable def Ft (x0:Sem zh.sl) (x1:Sem Sh.str):=(u0 x0 x1).isSome
noncomputable def Lc (x0:Sem zh.sl) (x1:Sem Sh.str):=o1 (u0 x0 x1)
noncomputable def Z6:=FT [zh.sl,Sh.str] [zh.sl] fun x=>u0 x.1 x.2.1
theorem Vg:FK 42 Z6:=vV.T1 (f:=Tryz.f42) (keep:=k0) (e:=e0)

noncomputable def LW:=LU.add 42 Z6
theorem vW:zl LW:=vV.add Vg

noncomputable def WY (x0:Sem ag):Tr (Empty ⊕ ao):=
 let a0:=zO x0.1 x0.2.2.1
 let a1:=Lc x0.1 x0.2.2.1
 let a2:=kG a1 1
 Tr.br (decide (a0 < 0))
 (Tr.chk true
  (Tr.re (AV.tup [AV.sl zh (bT 6).1,AV.agg [AV.int .i64 (bT 6).2.1,AV.int .i64 (bT 6).2.2.1,AV.sl zf.sl (bT 6).2.2.2]]) []))
 (Tr.chk (Ft x0.1 x0.2.2.1)
  (Tr.chk (gG a1 1) (Tr.re (AV.tup [AV.sl zh a2.1,AV.agg [AV.int .i64 a2.2.1,AV.int .i64 a2.2.2.1,AV.sl zf.sl a2.2.2.2]]) [])))
noncomputable def mK (x0:Sem ag):=zW [zh.sl,cw] t0 100000000 (WY x0)
noncomputable def Fl (x0:Sem ag):=(mK x0).isSome
noncomputable def K9 (x0:Sem ag):=o2 (mK x0)
noncomputable def ZI:=FT [ag] [zh.sl,cw] fun x=>mK x.1
theorem UM:FK 18 ZI:=vW.T1 (f:=Tryz.f18) (keep:=k0) (e:=e0)

noncomputable def LY:=LW.add 18 ZI
theorem vX:zl LY:=vW.add UM

noncomputable def OY (x0:Sem zh.sl) (x1:Sem zo):Tr (Empty ⊕ ao):=
 let a0:=(x1.1,x1.2.1,x1.2.2.1,x1.2.2.2.1,x1.2.2.2.2.1,x1.2.2.2.2.2.1,x1.2.2.2.2.2.2.1,x1.2.2.2.2.2.2.2.1,zE x1.2.2.2.2.2.2.2.2.1,x1.2.2.2.2.2.2.2.2.2.1,x1.2.2.2.2.2.2.2.2.2.2.1,zE x1.2.2.2.2.2.2.2.2.2.2.2.1,x1.2.2.2.2.2.2.2.2.2.2.2.2)
 let a1 := !dO a0
 let a2:=pt a0&&bif a1 then true else tH x0
 let a3:=bif a1 then true else jt x0 != 0
 let a4:=(x0,a0)
 let a5:=Bn a4
 let a6:=K9 a4
 let a7:=Bo a4
 let a8:=Bs a4
 let a9:=Bq a4
 let a10:=Bl a4
 Tr.chk true
 (Tr.chk true
  (Tr.chk true (Tr.chk true (Tr.chk true (Tr.chk true (Tr.br (x1.1==[99,114,101,97,116,101]) (Tr.chk a2 (Tr.br a3 (Tr.re (AV.tup [AV.sl zh x0,AV.agg [AV.int .i64 1,AV.int .i64 0,AV.nils]]) []) (Tr.chk (uV a4) (Tr.br (a5.2.1 != 0) (Tr.re (AV.tup [AV.sl zh x0,AV.agg [AV.int .i64 a5.2.1,AV.int .i64 a5.2.2.1,AV.sl zf.sl a5.2.2.2]]) []) (Tr.re (AV.tup [AV.sl zh a5.1,
  AV.agg [AV.int .i64 a5.2.1,AV.int .i64 a5.2.2.1,AV.sl zf.sl a5.2.2.2]]) []))))) (Tr.br (x1.1==[100,114,111,112]) (Tr.chk a2 (Tr.br a3 (Tr.re (AV.tup [AV.sl zh x0,AV.agg [AV.int .i64 1,AV.int .i64 0,AV.nils]]) []) (Tr.chk (Fl a4) (Tr.br (a6.2.1 != 0) (Tr.re (AV.tup [AV.sl zh x0,AV.agg [AV.int .i64 a6.2.1,AV.int .i64 a6.2.2.1,AV.sl zf.sl a6.2.2.2]]) []) (Tr.re
  (AV.tup [AV.sl zh a6.1,AV.agg [AV.int .i64 a6.2.1,AV.int .i64 a6.2.2.1,AV.sl zf.sl a6.2.2.2]]) []))))) (Tr.br (x1.1==[105,110,115,101,114,116]) (Tr.chk a2 (Tr.br a3 (Tr.re (AV.tup [AV.sl zh x0,AV.agg [AV.int .i64 1,AV.int .i64 0,AV.nils]]) []) (Tr.chk (uW a4) (Tr.br (a7.2.1 != 0) (Tr.re (AV.tup [AV.sl zh x0,AV.agg [AV.int .i64 a7.2.1,AV.int .i64 a7.2.2.1,
  AV.sl zf.sl a7.2.2.2]]) []) (Tr.re (AV.tup [AV.sl zh a7.1,AV.agg [AV.int .i64 a7.2.1,AV.int .i64 a7.2.2.1,AV.sl zf.sl a7.2.2.2]]) []))))) (Tr.br (x1.1==[117,112,100,97,116,101]) (Tr.chk a2 (Tr.br a3 (Tr.re (AV.tup [AV.sl zh x0,AV.agg [AV.int .i64 1,AV.int .i64 0,AV.nils]]) []) (Tr.chk (uZ a4) (Tr.br (a8.2.1 != 0) (Tr.re (AV.tup [AV.sl zh x0,AV.agg
  [AV.int .i64 a8.2.1,AV.int .i64 a8.2.2.1,AV.sl zf.sl a8.2.2.2]]) []) (Tr.re (AV.tup [AV.sl zh a8.1,AV.agg [AV.int .i64 a8.2.1,AV.int .i64 a8.2.2.1,AV.sl zf.sl a8.2.2.2]]) []))))) (Tr.br (x1.1==[100,101,108,101,116,101]) (Tr.chk a2 (Tr.br a3 (Tr.re (AV.tup [AV.sl zh x0,AV.agg [AV.int .i64 1,AV.int .i64 0,AV.nils]]) []) (Tr.chk (uY a4) (Tr.br (a9.2.1 != 0) (Tr.re
  (AV.tup [AV.sl zh x0,AV.agg [AV.int .i64 a9.2.1,AV.int .i64 a9.2.2.1,AV.sl zf.sl a9.2.2.2]]) []) (Tr.re (AV.tup [AV.sl zh a9.1,AV.agg [AV.int .i64 a9.2.1,AV.int .i64 a9.2.2.1,AV.sl zf.sl a9.2.2.2]]) []))))) (Tr.br (x1.1==[115,101,108,101,99,116]) (Tr.chk a2 (Tr.br a3 (Tr.re (AV.tup [AV.sl zh x0,AV.agg [AV.int .i64 1,AV.int .i64 0,AV.nils]]) [])
  (Tr.chk (uU a4) (Tr.br (a10.2.1 != 0) (Tr.re (AV.tup [AV.sl zh x0,AV.agg [AV.int .i64 a10.2.1,AV.int .i64 a10.2.2.1,AV.sl zf.sl a10.2.2.2]]) []) (Tr.re (AV.tup [AV.sl zh a10.1,AV.agg [AV.int .i64 a10.2.1,AV.int .i64 a10.2.2.1,AV.sl zf.sl a10.2.2.2]]) []))))) (Tr.re (AV.tup [AV.sl zh x0,AV.agg [AV.int .i64 1,AV.int .i64 0,AV.nils]]) []))))))))))))
noncomputable def gF (x0:Sem zh.sl) (x1:Sem zo):=zW [zh.sl,cw] t0 100000000 (OY x0 x1)
noncomputable def K0 (x0:Sem zh.sl) (x1:Sem zo):=(gF x0 x1).isSome
noncomputable def bDo (x0:Sem zh.sl) (x1:Sem zo):=o2 (gF x0 x1)
noncomputable def F9w:=FT [zh.sl,zo] [zh.sl,cw] fun x=>gF x.1 x.2.1
theorem zb0:FK 9 F9w:=vX.T1 (f:=Tryz.f9) (keep:=k0) (e:=e0)

noncomputable def LR:=LY.add 9 F9w
theorem FD:zl LR:=vX.add zb0
end Cad
