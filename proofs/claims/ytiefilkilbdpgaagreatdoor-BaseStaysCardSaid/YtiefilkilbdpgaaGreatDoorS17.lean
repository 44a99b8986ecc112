/- The document's parser. Statements of texts. Rows: the sorter. Rows: the sorter compares. Rows: insertion sort. Rows: insertion sort: its contract. -/
import Derived.Test.YtiefilkilbdpgaaGreatDoorS16
import Derived.Test.YtiefilkilbdpgaaGreatDoorS13
import Derived.Test.YtiefilkilbdpgaaGreatDoorS11
namespace Cad
open Go Go.Proofs
open Int (toNat)
open List (getD)
open List (length)
noncomputable section
set_option maxHeartbeats 4000000
def Lb:=Ss.add 115 QZ
theorem vE:zl Lb:=IN.add Oo

abbrev zdB:Nat→ah:=fun j=>if j=17 then { slots:=[2,4,6,7,8],prom:=[(7,some 14,zf)] } else if j=25 then { slots:=[2,4,6,7,9] } else { }
inductive Ck where
 | h17 (l4:List (Sem zq)) (z0:zu eK) (z1:zu zK) (jc0:List UInt8) (jc1:Sem Sh.str) (jc2:List UInt8) (jc5:List UInt8) (jc8:List UInt8) (jc9:Int) (jc10:Int) (jc11:List UInt8) (jc12:List UInt8) (jc16:List UInt8) (jc17:Int) (jc18:Int) (jc19:List UInt8) (jc20:List UInt8) (jc22:List UInt8) (lh_3:List (Sem zf))
 | h25 (l4:List (Sem zq)) (z0:zu eK) (z1:zu zK) (z2:zu eK)
 | h17b (l4:List (Sem zq)) (b8:Sem Sh.bool) (z0:zu eK) (z1:zu zK) (jc0:List UInt8) (jc1:Sem Sh.str) (jc2:List UInt8) (jc5:List UInt8) (jc8:List UInt8) (jc9:Int) (jc10:Int) (jc11:List UInt8) (jc12:List UInt8) (jc16:List UInt8) (jc17:Int) (jc18:Int) (jc19:List UInt8) (jc20:List UInt8) (jc22:List UInt8) (lh_3:List (Sem zf))
abbrev zf2:Ck→Nat×St
 | .h17 l4 z0 z1 jc0 jc1 jc2 jc5 jc8 jc9 jc10 jc11 jc12 jc16 jc17 jc18 jc19 jc20 jc22 lh_3=>(17,⟨tm 172 [(2,AV.ptr 0 0),(4,AV.sl zq l4),(6,AV.ptr 1 0),(7,AV.ptr 2 0),(8,AV.kb true)],[AO.box (bJ [] eK z0),AO.box (bJ [] zK z1),AO.box [AV.str jc0,AV.str jc1,AV.str jc2,AV.nils,AV.nils,AV.str jc5,AV.nils,AV.nils,AV.str jc8,AV.int .i64 jc9,AV.int .i64 jc10,AV.str jc11,AV.str jc12,AV.nils,AV.vec 3,AV.nils,AV.str jc16,AV.int .i64 jc17,AV.int .i64 jc18,AV.str jc19,AV.str jc20,AV.nils,AV.str jc22],AO.vec zf lh_3]⟩)
 | .h25 l4 z0 z1 z2=>(25,⟨tm 172 [(2,AV.ptr 0 0),(4,AV.sl zq l4),(6,AV.ptr 1 0),(7,AV.ptr 2 0),(9,AV.kb true)],[AO.box (bJ [] eK z0),AO.box (bJ [] zK z1),AO.box (bJ [] eK z2)]⟩)
 | .h17b l4 b8 z0 z1 jc0 jc1 jc2 jc5 jc8 jc9 jc10 jc11 jc12 jc16 jc17 jc18 jc19 jc20 jc22 lh_3=>(17,⟨tm 172 [(2,AV.ptr 0 0),(4,AV.sl zq l4),(6,AV.ptr 1 0),(7,AV.ptr 2 0),(8,AV.bool b8)],[AO.box (bJ [] eK z0),AO.box (bJ [] zK z1),AO.box [AV.str jc0,AV.str jc1,AV.str jc2,AV.nils,AV.nils,AV.str jc5,AV.nils,AV.nils,AV.str jc8,AV.int .i64 jc9,AV.int .i64 jc10,AV.str jc11,AV.str jc12,AV.nils,AV.vec 3,AV.nils,AV.str jc16,AV.int .i64 jc17,AV.int .i64 jc18,AV.str jc19,AV.str jc20,AV.nils,AV.str jc22],AO.vec zf lh_3]⟩)
def zhl (x0:Sem Sh.str):Tr (Ck ⊕ aj):=
 let a0:=((Ae x0).1,0,true,())
 let a1:=bj a0 [67,82,69,65,84,69]
 let a2:=(a1.2.1,a1.2.2.1,a1.2.2.2.1,())
 let a3:=DP a2 ([],[],[],[],[],0,0,[],[],[],0,0,[],[],[],())
 let a4:=(↑(length (Ae x0).1):Int)
 let a5:=(a3.2.1,a3.2.2.1,a3.2.2.2.1,[],a3.2.2.2.2.1,a3.2.2.2.2.2.1,a3.2.2.2.2.2.2.1,a3.2.2.2.2.2.2.2.1,zE a3.2.2.2.2.2.2.2.2.1,[],[],ze.mk a3.2.2.2.2.2.2.2.2.2.1 (a3.2.2.2.2.2.2.2.2.2.2.1,a3.2.2.2.2.2.2.2.2.2.2.2.1,a3.2.2.2.2.2.2.2.2.2.2.2.2.1) a3.2.2.2.2.2.2.2.2.2.2.2.2.2.1 [],a3.2.2.2.2.2.2.2.2.2.2.2.2.2.2.1)
 let a6:=mU a5
 let a7:=bj a2 [68,82,79,80]
 let a8:=(a7.2.1,a7.2.2.1,a7.2.2.2.1,())
 let a9:=zZ a8 [84,65,66,76,69]
 let a10:=(a9.1,a9.2.1,a9.2.2.1,())
 let a11:=aO a10
 let a12:=([100,114,111,112],a11.1,[],[],[],[],[],[],ze.mk [] (0,0,[]) [] [],[],[],ze.mk [] (0,0,[]) [] [],[])
 let a13:=mU a12
 let a14:=bj a8 [73,78,83,69,82,84]
 let a15:=(a14.2.1,a14.2.2.1,a14.2.2.2.1,())
 let a16:=zZ a15 [73,78,84,79]
 let a17:=(a16.1,a16.2.1,a16.2.2.1,())
 let a18:=aO a17
 let a19:=(a18.2.1,a18.2.2.1,a18.2.2.2.1,())
 let a20:=zZ a19 [86,65,76,85,69,83]
 let a21:=(a20.1,a20.2.1,a20.2.2.1,())
 let a22:=bj a15 [85,80,68,65,84,69]
 let a23:=(a22.2.1,a22.2.2.1,a22.2.2.2.1,())
 let a24:=aO a23
 let a25:=(a24.2.1,a24.2.2.1,a24.2.2.2.1,())
 let a26:=bj a23 [68,69,76,69,84,69]
 let a27:=(a26.2.1,a26.2.2.1,a26.2.2.2.1,())
 let a28:=zZ a27 [70,82,79,77]
 let a29:=(a28.1,a28.2.1,a28.2.2.1,())
 let a30:=aO a29
 let a31:=(a30.2.1,a30.2.2.1,a30.2.2.2.1,())
 let a32:=dq a31 [87,72,69,82,69]
 let a33:=([100,101,108,101,116,101],a30.1,[],[],[],[],[],[],ze.mk [] (0,0,[]) [] [],[],[],zE a32.1,[])
 let a34:=mU a33
 let a35:=bj a27 [83,69,76,69,67,84]
 let a36:=(a35.2.1,a35.2.2.1,a35.2.2.2.1,())
 let a37:=zZ a36 [42]
 let a38:=(a37.1,a37.2.1,a37.2.2.1,())
 let a39:=zZ a38 [70,82,79,77]
 let a40:=(a39.1,a39.2.1,a39.2.2.1,())
 let a41:=aO a40
 let a42:=(a41.2.1,a41.2.2.1,a41.2.2.2.1,())
 let a43:=dq a42 [87,72,69,82,69]
 let a44:=([115,101,108,101,99,116],a41.1,[],[],[],[],[],[],ze.mk [] (0,0,[]) [] [],[],[],zE a43.1,[])
 let a45:=mU a44
 let a46:=bj a36 [71,82,65,78,84]
 let a47:=(a46.2.1,a46.2.2.1,a46.2.2.2.1,())
 let a48:=mW a47 [82,69,65,68]
 let a49:=bj a47 [82,69,86,79,75,69]
 let a50:=(a49.2.1,a49.2.2.1,a49.2.2.2.1,())
 let a51:=mW a50 [82,69,65,68]
 let a52:=bj a50 [77,73,71,82,65,84,69]
 let a53:=(a52.2.1,a52.2.2.1,a52.2.2.2.1,())
 let a54:=Ta a53 ([],[],[],[],[],0,0,[],[],[],0,0,[],[],[],())
 let a55:=(a54.2.1,a54.2.2.1,a54.2.2.2.1,a54.2.2.2.2.1,[],a54.2.2.2.2.2.1,[],[],zE a54.2.2.2.2.2.2.1,[],[],ze.mk a54.2.2.2.2.2.2.2.1 (a54.2.2.2.2.2.2.2.2.1,a54.2.2.2.2.2.2.2.2.2.1,a54.2.2.2.2.2.2.2.2.2.2.1) a54.2.2.2.2.2.2.2.2.2.2.2.1 [],a54.2.2.2.2.2.2.2.2.2.2.2.2.1)
 let a56:=mU a55
 Tr.chk (Nl x0)
 (Tr.br (!(Ae x0).2)
  (Tr.re (AV.tup [AV.agg [AV.str [],AV.str [],AV.str [],AV.nils,AV.nils,AV.str [],AV.nils,AV.nils,AV.str [],AV.int .i64 0,AV.int .i64 0,AV.str [],AV.str [],AV.nils,AV.nils,AV.nils,AV.str [],AV.int .i64 0,AV.int .i64 0,AV.str [],AV.str [],AV.nils,AV.str []],AV.kb false]) [])
  (Tr.chk (aS a0 [67,82,69,65,84,69]) (Tr.br a1.1 (Tr.chk (Ag a2 ([],[],[],[],[],0,0,[],[],[],0,0,[],[],[],())) (Tr.br (bif !a3.1.2.2.1 then true else a3.1.2.1 != a4) (Tr.re (AV.tup [AV.agg [AV.str [],AV.str [],AV.str [],AV.nils,AV.nils,AV.str [],AV.nils,AV.nils,AV.str [],AV.int .i64 0,AV.int .i64 0,
  AV.str [],AV.str [],AV.nils,AV.nils,AV.nils,AV.str [],AV.int .i64 0,AV.int .i64 0,AV.str [],AV.str [],AV.nils,AV.str []],AV.kb false]) []) (Tr.chk (jY a5) (Tr.br (!a6.2) (Tr.re (AV.tup [AV.agg [AV.str [],AV.str [],AV.str [],AV.nils,AV.nils,AV.str [],AV.nils,AV.nils,AV.str [],AV.int .i64 0,AV.int .i64 0,
  AV.str [],AV.str [],AV.nils,AV.nils,AV.nils,AV.str [],AV.int .i64 0,AV.int .i64 0,AV.str [],AV.str [],AV.nils,AV.str []],AV.kb false]) []) (Tr.re (AV.tup [AV.agg [AV.str a3.2.1,AV.str a3.2.2.1,AV.str a3.2.2.2.1,AV.nils,AV.vec 0,AV.str a3.2.2.2.2.2.1,AV.vec 1,AV.vec 2,AV.str (ze.op a3.2.2.2.2.2.2.2.2.1),AV.int .i64 (ze.v a3.2.2.2.2.2.2.2.2.1).1,
  AV.int .i64 (ze.v a3.2.2.2.2.2.2.2.2.1).2.1,AV.str (ze.v a3.2.2.2.2.2.2.2.2.1).2.2,AV.str (ze.s a3.2.2.2.2.2.2.2.2.1),AV.sl Sh.expr (ze.l a3.2.2.2.2.2.2.2.2.1),AV.nils,AV.nils,AV.str a3.2.2.2.2.2.2.2.2.2.1,AV.int .i64 a3.2.2.2.2.2.2.2.2.2.2.1,AV.int .i64 a3.2.2.2.2.2.2.2.2.2.2.2.1,AV.str a3.2.2.2.2.2.2.2.2.2.2.2.2.1,AV.str a3.2.2.2.2.2.2.2.2.2.2.2.2.2.1,AV.nils,
  AV.str a3.2.2.2.2.2.2.2.2.2.2.2.2.2.2.1],AV.kb true]) [AO.vec zi a3.2.2.2.2.1,AO.vec Sh.str a3.2.2.2.2.2.2.1,AO.vec (Sh.str.pr Sh.str) a3.2.2.2.2.2.2.2.1]))))) (Tr.chk (aS a2 [68,82,79,80]) (Tr.br a7.1 (Tr.chk (zP a8 [84,65,66,76,69]) (Tr.chk (ar a10) (Tr.br (bif !a11.2.2.2.1 then true else a11.2.2.1 != a4) (Tr.re (AV.tup [AV.agg
  [AV.str [],AV.str [],AV.str [],AV.nils,AV.nils,AV.str [],AV.nils,AV.nils,AV.str [],AV.int .i64 0,AV.int .i64 0,AV.str [],AV.str [],AV.nils,AV.nils,AV.nils,AV.str [],AV.int .i64 0,AV.int .i64 0,AV.str [],AV.str [],AV.nils,AV.str []],AV.kb false]) []) (Tr.chk (jY a12) (Tr.br (!a13.2) (Tr.re (AV.tup [AV.agg
  [AV.str [],AV.str [],AV.str [],AV.nils,AV.nils,AV.str [],AV.nils,AV.nils,AV.str [],AV.int .i64 0,AV.int .i64 0,AV.str [],AV.str [],AV.nils,AV.nils,AV.nils,AV.str [],AV.int .i64 0,AV.int .i64 0,AV.str [],AV.str [],AV.nils,AV.str []],AV.kb false]) []) (Tr.re (AV.tup [AV.agg
  [AV.str [100,114,111,112],AV.str a11.1,AV.str [],AV.nils,AV.nils,AV.str [],AV.nils,AV.nils,AV.str [],AV.int .i64 0,AV.int .i64 0,AV.str [],AV.str [],AV.nils,AV.nils,AV.nils,AV.str [],AV.int .i64 0,AV.int .i64 0,AV.str [],AV.str [],AV.nils,AV.str []],AV.kb true]) [])))))) (Tr.chk (aS a8 [73,78,83,69,82,84]) (Tr.br a14.1 (Tr.chk (zP a15 [73,78,84,79])
  (Tr.chk (ar a17) (Tr.chk (zP a19 [86,65,76,85,69,83]) (Tr.chk (zP a21 [40]) (Tr.to (Ck.h17 (Ae x0).1 ([],[],[],[],[],0,0,[],[],[],0,0,[],[],[],()) (zZ a21 [40]) [105,110,115,101,114,116] a18.1 [] [] [] 0 0 [] [] [] 0 0 [] [] [] [])))))) (Tr.chk (aS a15 [85,80,68,65,84,69]) (Tr.br a22.1 (Tr.chk (ar a23)
  (Tr.chk (zP a25 [83,69,84]) (Tr.to (Ck.h25 (Ae x0).1 ([],[],[],[],[],0,0,[],[],[],0,0,[],[],[],()) (zZ a25 [83,69,84]) ([117,112,100,97,116,101],a24.1,[],[],[],0,0,[],[],[],0,0,[],[],[],()))))) (Tr.chk (aS a23 [68,69,76,69,84,69]) (Tr.br a26.1 (Tr.chk (zP a27 [70,82,79,77]) (Tr.chk (ar a29)
  (Tr.chk (cA a31 [87,72,69,82,69]) (Tr.br (bif !a32.2.2.2.1 then true else a32.2.2.1 != a4) (Tr.re (AV.tup [AV.agg [AV.str [],AV.str [],AV.str [],AV.nils,AV.nils,AV.str [],AV.nils,AV.nils,AV.str [],AV.int .i64 0,AV.int .i64 0,AV.str [],AV.str [],AV.nils,AV.nils,AV.nils,AV.str [],AV.int .i64 0,AV.int .i64 0,AV.str [],AV.str [],AV.nils,AV.str []],AV.kb false]) [])
  (Tr.chk (jY a33) (Tr.br (!a34.2) (Tr.re (AV.tup [AV.agg [AV.str [],AV.str [],AV.str [],AV.nils,AV.nils,AV.str [],AV.nils,AV.nils,AV.str [],AV.int .i64 0,AV.int .i64 0,AV.str [],AV.str [],AV.nils,AV.nils,AV.nils,AV.str [],AV.int .i64 0,AV.int .i64 0,AV.str [],AV.str [],AV.nils,AV.str []],AV.kb false]) []) (Tr.re (AV.tup [AV.agg
  [AV.str [100,101,108,101,116,101],AV.str a30.1,AV.str [],AV.nils,AV.nils,AV.str [],AV.nils,AV.nils,AV.str [],AV.int .i64 0,AV.int .i64 0,AV.str [],AV.str [],AV.nils,AV.nils,AV.nils,AV.str (ze.op a32.1),AV.int .i64 (ze.v a32.1).1,AV.int .i64 (ze.v a32.1).2.1,AV.str (ze.v a32.1).2.2,AV.str (ze.s a32.1),AV.sl Sh.expr (ze.l a32.1),AV.str []],
  AV.kb true]) []))))))) (Tr.chk (aS a27 [83,69,76,69,67,84]) (Tr.br a35.1 (Tr.chk (zP a36 [42]) (Tr.chk (zP a38 [70,82,79,77]) (Tr.chk (ar a40) (Tr.chk (cA a42 [87,72,69,82,69]) (Tr.br (bif !a43.2.2.2.1 then true else a43.2.2.1 != a4) (Tr.re (AV.tup [AV.agg
  [AV.str [],AV.str [],AV.str [],AV.nils,AV.nils,AV.str [],AV.nils,AV.nils,AV.str [],AV.int .i64 0,AV.int .i64 0,AV.str [],AV.str [],AV.nils,AV.nils,AV.nils,AV.str [],AV.int .i64 0,AV.int .i64 0,AV.str [],AV.str [],AV.nils,AV.str []],AV.kb false]) []) (Tr.chk (jY a44) (Tr.br (!a45.2) (Tr.re (AV.tup [AV.agg
  [AV.str [],AV.str [],AV.str [],AV.nils,AV.nils,AV.str [],AV.nils,AV.nils,AV.str [],AV.int .i64 0,AV.int .i64 0,AV.str [],AV.str [],AV.nils,AV.nils,AV.nils,AV.str [],AV.int .i64 0,AV.int .i64 0,AV.str [],AV.str [],AV.nils,AV.str []],AV.kb false]) []) (Tr.re (AV.tup [AV.agg
  [AV.str [115,101,108,101,99,116],AV.str a41.1,AV.str [],AV.nils,AV.nils,AV.str [],AV.nils,AV.nils,AV.str [],AV.int .i64 0,AV.int .i64 0,AV.str [],AV.str [],AV.nils,AV.nils,AV.nils,AV.str (ze.op a43.1),AV.int .i64 (ze.v a43.1).1,AV.int .i64 (ze.v a43.1).2.1,AV.str (ze.v a43.1).2.2,AV.str (ze.s a43.1),AV.sl Sh.expr (ze.l a43.1),AV.str []],
  AV.kb true]) [])))))))) (Tr.chk (aS a36 [71,82,65,78,84]) (Tr.br a46.1 (Tr.chk (ka a47 [82,69,65,68]) (Tr.br a48.1 Tr.err Tr.err)) (Tr.chk (aS a47 [82,69,86,79,75,69]) (Tr.br a49.1 (Tr.chk (ka a50 [82,69,65,68]) (Tr.br a51.1 Tr.err Tr.err)) (Tr.chk (aS a50 [77,73,71,82,65,84,69]) (Tr.br a52.1
  (Tr.chk (Nw a53 ([],[],[],[],[],0,0,[],[],[],0,0,[],[],[],())) (Tr.br (bif !a54.1.2.2.1 then true else a54.1.2.1 != a4) (Tr.re (AV.tup [AV.agg [AV.str [],AV.str [],AV.str [],AV.nils,AV.nils,AV.str [],AV.nils,AV.nils,AV.str [],AV.int .i64 0,AV.int .i64 0,AV.str [],AV.str [],AV.nils,AV.nils,AV.nils,AV.str [],
  AV.int .i64 0,AV.int .i64 0,AV.str [],AV.str [],AV.nils,AV.str []],AV.kb false]) []) (Tr.chk (jY a55) (Tr.br (!a56.2) (Tr.re (AV.tup [AV.agg [AV.str [],AV.str [],AV.str [],AV.nils,AV.nils,AV.str [],AV.nils,AV.nils,AV.str [],AV.int .i64 0,AV.int .i64 0,AV.str [],AV.str [],AV.nils,AV.nils,AV.nils,
  AV.str [],AV.int .i64 0,AV.int .i64 0,AV.str [],AV.str [],AV.nils,AV.str []],AV.kb false]) []) (Tr.re (AV.tup [AV.agg [AV.str a54.2.1,AV.str a54.2.2.1,AV.str a54.2.2.2.1,AV.vec 0,AV.nils,AV.str a54.2.2.2.2.2.1,AV.nils,AV.nils,AV.str (ze.op a54.2.2.2.2.2.2.1),AV.int .i64 (ze.v a54.2.2.2.2.2.2.1).1,AV.int .i64 (ze.v a54.2.2.2.2.2.2.1).2.1,
  AV.str (ze.v a54.2.2.2.2.2.2.1).2.2,AV.str (ze.s a54.2.2.2.2.2.2.1),AV.sl Sh.expr (ze.l a54.2.2.2.2.2.2.1),AV.nils,AV.nils,AV.str a54.2.2.2.2.2.2.2.1,AV.int .i64 a54.2.2.2.2.2.2.2.2.1,AV.int .i64 a54.2.2.2.2.2.2.2.2.2.1,AV.str a54.2.2.2.2.2.2.2.2.2.2.1,AV.str a54.2.2.2.2.2.2.2.2.2.2.2.1,AV.nils,AV.str a54.2.2.2.2.2.2.2.2.2.2.2.2.1],AV.kb true])
  [AO.vec Sh.str a54.2.2.2.2.1]))))) (Tr.br (bif !a52.2.2.2.1 then true else a52.2.2.1 != a4) (Tr.re (AV.tup [AV.agg [AV.str [],AV.str [],AV.str [],AV.nils,AV.nils,AV.str [],AV.nils,AV.nils,AV.str [],AV.int .i64 0,AV.int .i64 0,AV.str [],AV.str [],AV.nils,AV.nils,AV.nils,AV.str [],AV.int .i64 0,AV.int .i64 0,AV.str [],AV.str [],AV.nils,AV.str []],AV.kb false]) [])
  (Tr.chk true (Tr.br true (Tr.re (AV.tup [AV.agg [AV.str [],AV.str [],AV.str [],AV.nils,AV.nils,AV.str [],AV.nils,AV.nils,AV.str [],AV.int .i64 0,AV.int .i64 0,AV.str [],AV.str [],AV.nils,AV.nils,AV.nils,AV.str [],AV.int .i64 0,AV.int .i64 0,AV.str [],AV.str [],AV.nils,AV.str []],AV.kb false]) []) (Tr.re (AV.tup [AV.agg
  [AV.str [],AV.str [],AV.str [],AV.nils,AV.nils,AV.str [],AV.nils,AV.nils,AV.str [],AV.int .i64 0,AV.int .i64 0,AV.str [],AV.str [],AV.nils,AV.nils,AV.nils,AV.str [],AV.int .i64 0,AV.int .i64 0,AV.str [],AV.str [],AV.nils,AV.str []],AV.kb true]) [])))))))))))))))))))))))
def zhX:Ck→Tr (Ck ⊕ aj)
 | .h17 l4 z0 z1 jc0 jc1 jc2 jc5 jc8 jc9 jc10 jc11 jc12 jc16 jc17 jc18 jc19 jc20 jc22 lh_3=>
  let a0:=(z1.1,z1.2.1,z1.2.2.1,())
  let a1:=HQ a0
  let a2:=[a1.1]
  let a3:=(a1.2.1,a1.2.2.1,a1.2.2.2.1,())
  let a4:=bj a3 [44]
  let a5:=zZ a0 [41]
  let a6:=(jc0,jc1,jc2,[],[],jc5,[],[],ze.mk jc8 (jc9,jc10,jc11) jc12 [],lh_3,[],ze.mk jc16 (jc17,jc18,jc19) jc20 [],jc22)
  let a7:=mU a6
  Tr.br z1.2.2.1
  (Tr.chk (F0 a0) (Tr.chk (decide (lh_3.length+a2.length≤1073741824)) (Tr.chk (aS a3 [44]) (Tr.to (Ck.h17b l4 a4.1 z0 a4.2 jc0 jc1 jc2 jc5 jc8 jc9 jc10 jc11 jc12 jc16 jc17 jc18 jc19 jc20 jc22 (lh_3++a2))))))
  (Tr.chk (zP a0 [41]) (Tr.br (bif !a5.2.2.1 then true else a5.2.1 != (↑l4.length:Int)) (Tr.re (AV.tup [AV.agg [AV.str [],AV.str [],AV.str [],AV.nils,AV.nils,AV.str [],AV.nils,AV.nils,AV.str [],AV.int .i64 0,AV.int .i64 0,AV.str [],AV.str [],AV.nils,AV.nils,AV.nils,AV.str [],AV.int .i64 0,AV.int .i64 0,AV.str [],AV.str [],AV.nils,AV.str []],AV.kb false]) [])
  (Tr.chk (jY a6) (Tr.br (!a7.2) (Tr.re (AV.tup [AV.agg [AV.str [],AV.str [],AV.str [],AV.nils,AV.nils,AV.str [],AV.nils,AV.nils,AV.str [],AV.int .i64 0,AV.int .i64 0,AV.str [],AV.str [],AV.nils,AV.nils,AV.nils,AV.str [],AV.int .i64 0,AV.int .i64 0,AV.str [],AV.str [],AV.nils,AV.str []],AV.kb false]) []) (Tr.re (AV.tup [AV.agg
  [AV.str jc0,AV.str jc1,AV.str jc2,AV.nils,AV.nils,AV.str jc5,AV.nils,AV.nils,AV.str jc8,AV.int .i64 jc9,AV.int .i64 jc10,AV.str jc11,AV.str jc12,AV.nils,AV.vec 0,AV.nils,AV.str jc16,AV.int .i64 jc17,AV.int .i64 jc18,AV.str jc19,AV.str jc20,AV.nils,AV.str jc22],AV.kb true]) [AO.vec zf lh_3])))))
 | .h25 l4 _ z1 z2=>
  let a0:=(z1.1,z1.2.1,z1.2.2.1,())
  let a1:=aO a0
  let a2:=dq a0 [87,72,69,82,69]
  let a3:=(z2.1,z2.2.1,z2.2.2.1,[],[],z2.2.2.2.1,[],[],ze.mk z2.2.2.2.2.1 (z2.2.2.2.2.2.1,z2.2.2.2.2.2.2.1,z2.2.2.2.2.2.2.2.1) z2.2.2.2.2.2.2.2.2.1 [],[],[],zE a2.1,z2.2.2.2.2.2.2.2.2.2.2.2.2.2.2.1)
  let a4:=mU a3
  Tr.br z1.2.2.1 (Tr.chk (ar a0) (Tr.chk (zP (a1.2.1,a1.2.2.1,a1.2.2.2.1,()) [61]) Tr.err))
  (Tr.chk (cA a0 [87,72,69,82,69]) (Tr.br (bif !a2.2.2.2.1 then true else a2.2.2.1 != (↑l4.length:Int)) (Tr.re (AV.tup [AV.agg [AV.str [],AV.str [],AV.str [],AV.nils,AV.nils,AV.str [],AV.nils,AV.nils,AV.str [],AV.int .i64 0,AV.int .i64 0,AV.str [],AV.str [],AV.nils,AV.nils,AV.nils,AV.str [],AV.int .i64 0,AV.int .i64 0,AV.str [],AV.str [],AV.nils,AV.str []],
  AV.kb false]) []) (Tr.chk (jY a3) (Tr.br (!a4.2) (Tr.re (AV.tup [AV.agg [AV.str [],AV.str [],AV.str [],AV.nils,AV.nils,AV.str [],AV.nils,AV.nils,AV.str [],AV.int .i64 0,AV.int .i64 0,AV.str [],AV.str [],AV.nils,AV.nils,AV.nils,AV.str [],AV.int .i64 0,AV.int .i64 0,AV.str [],AV.str [],AV.nils,AV.str []],AV.kb false]) []) (Tr.re (AV.tup [AV.agg
  [AV.str z2.1,AV.str z2.2.1,AV.str z2.2.2.1,AV.nils,AV.nils,AV.str z2.2.2.2.1,AV.nils,AV.nils,AV.str z2.2.2.2.2.1,AV.int .i64 z2.2.2.2.2.2.1,AV.int .i64 z2.2.2.2.2.2.2.1,AV.str z2.2.2.2.2.2.2.2.1,AV.str z2.2.2.2.2.2.2.2.2.1,AV.nils,AV.nils,AV.nils,AV.str (ze.op a2.1),AV.int .i64 (ze.v a2.1).1,AV.int .i64 (ze.v a2.1).2.1,
  AV.str (ze.v a2.1).2.2,AV.str (ze.s a2.1),AV.sl Sh.expr (ze.l a2.1),AV.str z2.2.2.2.2.2.2.2.2.2.2.2.2.2.2.1],AV.kb true]) [])))))
 | .h17b l4 b8 z0 z1 jc0 jc1 jc2 jc5 jc8 jc9 jc10 jc11 jc12 jc16 jc17 jc18 jc19 jc20 jc22 lh_3=>
  let a0:=(z1.1,z1.2.1,z1.2.2.1,())
  let a1:=HQ a0
  let a2:=[a1.1]
  let a3:=(a1.2.1,a1.2.2.1,a1.2.2.2.1,())
  let a4:=bj a3 [44]
  let a5:=zZ a0 [41]
  let a6:=(jc0,jc1,jc2,[],[],jc5,[],[],ze.mk jc8 (jc9,jc10,jc11) jc12 [],lh_3,[],ze.mk jc16 (jc17,jc18,jc19) jc20 [],jc22)
  let a7:=mU a6
  Tr.br (bif b8 then z1.2.2.1 else false)
  (Tr.chk (F0 a0) (Tr.chk (decide (lh_3.length+a2.length≤1073741824)) (Tr.chk (aS a3 [44]) (Tr.to (Ck.h17b l4 a4.1 z0 a4.2 jc0 jc1 jc2 jc5 jc8 jc9 jc10 jc11 jc12 jc16 jc17 jc18 jc19 jc20 jc22 (lh_3++a2))))))
  (Tr.chk (zP a0 [41]) (Tr.br (bif !a5.2.2.1 then true else a5.2.1 != (↑l4.length:Int)) (Tr.re (AV.tup [AV.agg [AV.str [],AV.str [],AV.str [],AV.nils,AV.nils,AV.str [],AV.nils,AV.nils,AV.str [],AV.int .i64 0,AV.int .i64 0,AV.str [],AV.str [],AV.nils,AV.nils,AV.nils,AV.str [],AV.int .i64 0,AV.int .i64 0,AV.str [],AV.str [],AV.nils,AV.str []],AV.kb false]) [])
  (Tr.chk (jY a6) (Tr.br (!a7.2) (Tr.re (AV.tup [AV.agg [AV.str [],AV.str [],AV.str [],AV.nils,AV.nils,AV.str [],AV.nils,AV.nils,AV.str [],AV.int .i64 0,AV.int .i64 0,AV.str [],AV.str [],AV.nils,AV.nils,AV.nils,AV.str [],AV.int .i64 0,AV.int .i64 0,AV.str [],AV.str [],AV.nils,AV.str []],AV.kb false]) []) (Tr.re (AV.tup [AV.agg
  [AV.str jc0,AV.str jc1,AV.str jc2,AV.nils,AV.nils,AV.str jc5,AV.nils,AV.nils,AV.str jc8,AV.int .i64 jc9,AV.int .i64 jc10,AV.str jc11,AV.str jc12,AV.nils,AV.vec 0,AV.nils,AV.str jc16,AV.int .i64 jc17,AV.int .i64 jc18,AV.str jc19,AV.str jc20,AV.nils,AV.str jc22],AV.kb true]) [AO.vec zf lh_3])))))
def wA (x0:Sem Sh.str):=zW [zm,Sh.bool] zhX 100000000 (zhl x0)
def Nr (x0:Sem Sh.str):=(wA x0).isSome
def bV (x0:Sem Sh.str):=o2 (wA x0)
def ZA:=FT [Sh.str] [zm,Sh.bool] fun x=>wA x.1
theorem UG:FK 62 ZA:=vE.T1 (f:=Tryz.f62) (keep:=zdB) (e:=zf2)

def zca:=Lb.add 62 ZA
theorem IP:zl zca:=vE.add UG
end

noncomputable def zhf (x0:Sem Sh.str):Tr (Empty ⊕ aj):=
 Tr.chk (Nr x0)
 (Tr.re
  (AV.agg [AV.str (bV x0).1.1,AV.str (bV x0).1.2.1,AV.str (bV x0).1.2.2.1,AV.sl Sh.str (bV x0).1.2.2.2.1,AV.sl zi (bV x0).1.2.2.2.2.1,AV.str (bV x0).1.2.2.2.2.2.1,AV.sl Sh.str (bV x0).1.2.2.2.2.2.2.1,AV.sl (Sh.str.pr Sh.str) (bV x0).1.2.2.2.2.2.2.2.1,AV.str (ze.op (bV x0).1.2.2.2.2.2.2.2.2.1),
  AV.int .i64 (ze.v (bV x0).1.2.2.2.2.2.2.2.2.1).1,AV.int .i64 (ze.v (bV x0).1.2.2.2.2.2.2.2.2.1).2.1,AV.str (ze.v (bV x0).1.2.2.2.2.2.2.2.2.1).2.2,AV.str (ze.s (bV x0).1.2.2.2.2.2.2.2.2.1),AV.sl Sh.expr (ze.l (bV x0).1.2.2.2.2.2.2.2.2.1),AV.sl zf (bV x0).1.2.2.2.2.2.2.2.2.2.1,AV.sl (Sh.str.pr Sh.expr) (bV x0).1.2.2.2.2.2.2.2.2.2.2.1,
  AV.str (ze.op (bV x0).1.2.2.2.2.2.2.2.2.2.2.2.1),AV.int .i64 (ze.v (bV x0).1.2.2.2.2.2.2.2.2.2.2.2.1).1,AV.int .i64 (ze.v (bV x0).1.2.2.2.2.2.2.2.2.2.2.2.1).2.1,AV.str (ze.v (bV x0).1.2.2.2.2.2.2.2.2.2.2.2.1).2.2,AV.str (ze.s (bV x0).1.2.2.2.2.2.2.2.2.2.2.2.1),AV.sl Sh.expr (ze.l (bV x0).1.2.2.2.2.2.2.2.2.2.2.2.1),
  AV.str (bV x0).1.2.2.2.2.2.2.2.2.2.2.2.2])
  [])
noncomputable def zdO (x0:Sem Sh.str):=zW [zm] t0 100000000 (zhf x0)
noncomputable def Zd:=FT [Sh.str] [zm] fun x=>zdO x.1
theorem Uh:FK 32 Zd:=IP.T1 (f:=Tryz.f32) (keep:=k0) (e:=e0)


noncomputable def Rc:zF:=zU (List.replicate 1 none) (bZ A4 Tryz.f133 (List.replicate 1 none))
theorem OE:FK 133 Rc:=au _ oS (aQ (by kernel_rfl))

noncomputable def Rz:zF:=zU (List.replicate 2 none) (bZ A4 Tryz.f202 (List.replicate 2 none))
theorem O0:FK 202 Rz:=au _ oS (aQ (by kernel_rfl))

noncomputable def ET:=A4.addL [(133,Rc),(202,Rz)]
theorem uZ:zl ET:=oS.addL <| fc OE <| fc O0 <|  jf

noncomputable def Re:zF:=zU (List.replicate 3 none) (bZ ET Tryz.f134 (List.replicate 3 none))
theorem OG:FK 134 Re:=au _ uZ (aQ (by kernel_rfl))

noncomputable def u0:=ET.add 134 Re
theorem u4:zl u0:=uZ.add OG

abbrev Mi:=lz [(1,[0,1,2,3,8]),(4,[0,1,2,3,8,9])]
inductive rS where
 | h1 (i1:Int) (i2:Int) (i3f_0_0:Int) (i8:Int) (lh_0:List (Sem zf.sl))
 | h4 (i1:Int) (i2:Int) (i3f_0_0:Int) (i8:Int) (i9:Int) (lh_0:List (Sem zf.sl))
abbrev CL:rS→Nat×St
 | .h1 i1 i2 i3f_0_0 i8 lh_0=>(1,⟨tm 53 [(0,AV.vec 0),(1,AV.int .i64 i1),(2,AV.int .i64 i2),(3,AV.clo (Fn.func 134) [AV.agg [AV.int .i64 i3f_0_0]] []),(8,AV.int .i64 i8)],[AO.vec zf.sl lh_0]⟩)
 | .h4 i1 i2 i3f_0_0 i8 i9 lh_0=>(4,⟨tm 53 [(0,AV.vec 0),(1,AV.int .i64 i1),(2,AV.int .i64 i2),(3,AV.clo (Fn.func 134) [AV.agg [AV.int .i64 i3f_0_0]] []),(8,AV.int .i64 i8),(9,AV.int .i64 i9)],[AO.vec zf.sl lh_0]⟩)
theorem Xj:zA u0.P 248 Tryz.f248 4:=aQ (by kernel_rfl)
noncomputable def G3 (l:List (List (Sem zf))) (a:Int) (b:Int) (k:Int):Tr (rS ⊕ aj):=
 Tr.to (rS.h1 a b k (IntKind.i64.wrap (a+1)) l)
theorem V3 (l:List (List (Sem zf))) (a:Int) (b:Int) (k:Int):rn u0 1 Mi Tryz.f248 [AV.vec 0,AV.int .i64 a,AV.int .i64 b,AV.clo (Fn.func 134) [AV.agg [AV.int .i64 k]] []] [AO.vec (Sh.sl zf) l]=(G3 l a b k).map (lf Tryz.f248 CL):=by kernel_rfl
noncomputable def oD:rS→Tr (rS ⊕ aj)
 | .h1 i1 i2 i3f_0_0 i8 lh_0=>
  Tr.br (decide (i8 < i2)) (Tr.to (rS.h4 i1 i2 i3f_0_0 i8 i8 lh_0))
  (Tr.re (AV.tup []) [AO.vec zf.sl lh_0])
 | .h4 i1 i2 i3f_0_0 i8 i9 lh_0=>
  let a0:=decide (i9.toNat < lh_0.length)
  let a1:=IntKind.i64.wrap (i9 - 1)
  let a2:=zI a1 lh_0.length
  let a3:=decide (a1.toNat < lh_0.length)
  let a4:=decide (i3f_0_0 < 0)
  let a5:=lh_0.getD i9.toNat (zj zf.sl)
  let a6:=(↑(length a5):Int)
  let a7:=bif a4 then true else decide (i3f_0_0 ≥ a6)
  let a8:=lh_0.getD a1.toNat (zj zf.sl)
  let a9:=(↑(length a8):Int)
  let a10:=bif a4 then true else decide (i3f_0_0 ≥ a9)
  let a11:=bif a10 then true else zI i3f_0_0 (length a8)
  let a12:=getD a8 i3f_0_0.toNat (zj zf)
  let a13:=getD a5 i3f_0_0.toNat (zj zf)
  let a14:=bif a7 then bif a10 then bc (0,0,[]) (0,0,[]) else bc (0,0,[]) a12 else bif a10 then bc a13 (0,0,[]) else bc a13 a12
  let a15:=lh_0.set i9.toNat a8
  Tr.chk (bif decide (i9 > i1) then zI i9 lh_0.length&&(a0&&(a2&&(a3&&bif a7 then a11 else zI i3f_0_0 (length a5)&&a11))) else true)
  (Tr.br (bif decide (i9 > i1) then decide (a14 < 0) else false) (Tr.chk a2 (Tr.chk a3 (Tr.chk (zI i9 lh_0.length) (Tr.chk a0 (Tr.chk (zI i9 lh_0.length) (Tr.chk a0 (Tr.chk (zI a1 a15.length) (Tr.chk (decide (a1.toNat < a15.length)) (Tr.to (rS.h4 i1 i2 i3f_0_0 i8 a1 (a15.set a1.toNat a5))))))))))) (Tr.to (rS.h1 i1 i2 i3f_0_0 (IntKind.i64.wrap (i8+1)) lh_0)))
theorem Xt:∀ s,run u0 1 Mi (Func.results Tryz.f248).toList 400 (zy Tryz.f248 (CL s).1) (CL s).2=(oD s).map (lf Tryz.f248 CL):=by intro s; cases s <;> kernel_rfl
noncomputable def Fl (l:List (List (Sem zf))) (a:Int) (b:Int) (k:Int):=bh oD 100000000 (G3 l a b k)


def B9 (r:Option aj):Option (List (List (Sem zf))):=match r with
 | some (.tup [],[.vec (.sl wj) l])=>some l
 | _=>none
theorem nV {r:Option aj} (h:(B9 r).isSome=true):r=some (.tup [],[.vec (.sl zf) ((B9 r).getD [])]):=by
 unfold B9 at h ⊢
 split at h
 ·rfl
 ·cases h
noncomputable def rq (l:List (List (Sem zf))) (a b k:Int):=B9 (Fl l a b k)
noncomputable def R0:cF [none,none,none,none]:=fun x h=>match x,h with
 | (.vec 0,.int .i64 a,.int .i64 b,.clo (.func 134) [.agg [.int .i64 k]] [],_),[.vec (.sl wj) l]=>.chk ((rq l a b k).isSome) (.ok (.tup [],[.vec (.sl zf) ((rq l a b k).getD [])]))
 | _,_=>.err
noncomputable def RC:zF:=zU [none,none,none,none] R0
theorem O3:FK 248 RC:=by
 refine fk (ι:=List (List (Sem zf))×Int×Int×Int) (args:=fun y=>[AV.vec 0,AV.int .i64 y.2.1,AV.int .i64 y.2.2.1,AV.clo (Fn.func 134) [AV.agg [AV.int .i64 y.2.2.2]] []]) (heap:=fun y=>[AO.vec zf.sl y.1]) (i:=fun y=>G3 y.1 y.2.1 y.2.2.1 y.2.2.2) (t:=oD) (e:=CL) (n:=100000000) (n0:=1) u4 Xj (fun _=>rfl) (fun y=>V3 _ _ _ _) Xt (fun x h res hv=>?_)
 unfold R0 at hv
 split at hv
 ·rename_i a b k u l
  simp only [Tr.val] at hv
  split at hv
  ·rename_i h1
   simp only [ao] at hv
   subst hv
   exact ⟨(l,a,b,k),rfl,rfl,nV h1⟩
  ·cases hv
 ·simp at hv

noncomputable def u5:=u0.add 248 RC
theorem u6:zl u5:=u4.add O3
noncomputable section

abbrev Ml:=lz [(1,[0,1,2,3,10])]
inductive xZ where
 | h1 (i1:Int) (i2:Int) (i3:Int) (i10:Int) (lh_0:List (Sem zf.sl))
abbrev CO:xZ→Nat×St
 | .h1 i1 i2 i3 i10 lh_0=>(1,⟨tm 38 [(0,AV.vec 0),(1,AV.int .i64 i1),(2,AV.int .i64 i2),(3,AV.int .i64 i3),(10,AV.int .i64 i10)],[AO.vec zf.sl lh_0]⟩)
theorem Xl:zA u5.P 293 Tryz.f293 5:=aQ (by kernel_rfl)
def LK (l:List (List (Sem zf))) (a:Int) (b:Int) (n:Int) (_:Int):Tr (xZ ⊕ aj):=
 Tr.to (xZ.h1 a b n 0 l)
theorem V9 (l:List (List (Sem zf))) (a:Int) (b:Int) (n:Int) (k:Int):rn u5 1 Ml Tryz.f293 [AV.vec 0,AV.int .i64 a,AV.int .i64 b,AV.int .i64 n,AV.clo (Fn.func 134) [AV.agg [AV.int .i64 k]] []] [AO.vec (Sh.sl zf) l]=(LK l a b n k).map (lf Tryz.f293 CO):=by kernel_rfl
def Ap:xZ→Tr (xZ ⊕ aj)
 | .h1 i1 i2 i3 i10 lh_0=>
  let a0:=IntKind.i64.wrap (i2+i10)
  let a1:=IntKind.i64.wrap (i1+i10)
  let a2:=zI a1 lh_0.length
  let a3:=decide (a1.toNat < lh_0.length)
  let a4:=lh_0.set a1.toNat (lh_0.getD a0.toNat (zj zf.sl))
  Tr.br (decide (i10 < i3))
  (Tr.chk (zI a0 lh_0.length) (Tr.chk (decide (a0.toNat < lh_0.length)) (Tr.chk a2 (Tr.chk a3 (Tr.chk a2 (Tr.chk a3 (Tr.chk (zI a0 a4.length) (Tr.chk (decide (a0.toNat < a4.length)) (Tr.to (xZ.h1 i1 i2 i3 (IntKind.i64.wrap (i10+1)) (a4.set a0.toNat (lh_0.getD a1.toNat (zj zf.sl)))))))))))))
  (Tr.re (AV.tup []) [AO.vec zf.sl lh_0])
theorem Xw:∀ s,run u5 1 Ml (Func.results Tryz.f293).toList 400 (zy Tryz.f293 (CO s).1) (CO s).2=(Ap s).map (lf Tryz.f293 CO):=by intro s; cases s <;> kernel_rfl
def zff (l:List (List (Sem zf))) (a:Int) (b:Int) (n:Int) (k:Int):=bh Ap 100000000 (LK l a b n k)

def Gc (l:List (List (Sem zf))) (a b n k:Int):=B9 (zff l a b n k)
def R2:cF [none,none,none,none,none]:=fun x h=>match x,h with
 | (.vec 0,.int .i64 a,.int .i64 b,.int .i64 n,.clo (.func 134) [.agg [.int .i64 k]] [],_),[.vec (.sl wj) l]=>.chk ((Gc l a b n k).isSome) (.ok (.tup [],[.vec (.sl zf) ((Gc l a b n k).getD [])]))
 | _,_=>.err
def RJ:zF:=zU [none,none,none,none,none] R2
theorem Pa:FK 293 RJ:=by
 refine fk (ι:=List (List (Sem zf))×Int×Int×Int×Int) (args:=fun y=>[AV.vec 0,AV.int .i64 y.2.1,AV.int .i64 y.2.2.1,AV.int .i64 y.2.2.2.1,AV.clo (Fn.func 134) [AV.agg [AV.int .i64 y.2.2.2.2]] []]) (heap:=fun y=>[AO.vec zf.sl y.1]) (i:=fun y=>LK y.1 y.2.1 y.2.2.1 y.2.2.2.1 y.2.2.2.2) (t:=Ap) (e:=CO) (n:=100000000) (n0:=1) u6 Xl (fun _=>rfl) (fun y=>V9 _ _ _ _ _) Xw (fun x h res hv=>?_)
 unfold R2 at hv
 split at hv
 ·rename_i a b n k u l
  simp only [Tr.val] at hv
  split at hv
  ·rename_i h1
   simp only [ao] at hv
   subst hv
   exact ⟨(l,a,b,n,k),rfl,rfl,nV h1⟩
  ·cases hv
 ·simp at hv

def C7:=u5.add 293 RJ
theorem yK:zl C7:=u6.add Pa
end
noncomputable section

abbrev Mk:=lz [(2,[0,2,4,10,11])]
inductive tW where
 | h2 (i2:Int) (i4f_0_0:Int) (i10:Int) (i11:Int) (lh_0:List (Sem zf.sl))
abbrev CN:tW→Nat×St
 | .h2 i2 i4f_0_0 i10 i11 lh_0=>(2,⟨tm 58 [(0,AV.vec 0),(2,AV.int .i64 i2),(4,AV.clo (Fn.func 134) [AV.agg [AV.int .i64 i4f_0_0]] []),(10,AV.int .i64 i10),(11,AV.int .i64 i11)],[AO.vec zf.sl lh_0]⟩)
theorem Xk:zA C7.P 277 Tryz.f277 5:=aQ (by kernel_rfl)
def G4 (l:List (List (Sem zf))) (a:Int) (m:Int) (b:Int) (k:Int):Tr (tW ⊕ aj):=
 Tr.to (tW.h2 m k (IntKind.i64.wrap (m - a)) (IntKind.i64.wrap (b - m)) l)
theorem V8 (l:List (List (Sem zf))) (a:Int) (m:Int) (b:Int) (k:Int):rn C7 1 Mk Tryz.f277 [AV.vec 0,AV.int .i64 a,AV.int .i64 m,AV.int .i64 b,AV.clo (Fn.func 134) [AV.agg [AV.int .i64 k]] []] [AO.vec (Sh.sl zf) l]=(G4 l a m b k).map (lf Tryz.f277 CN):=by kernel_rfl
def w5:tW→Tr (tW ⊕ aj)
 | .h2 i2 i4f_0_0 i10 i11 lh_0=>
  let a0:=IntKind.i64.wrap (i2 - i10)
  let a1:=Gc lh_0 a0 i2 i11 i4f_0_0
  let a2:=Gc lh_0 a0 (IntKind.i64.wrap (IntKind.i64.wrap (i2+i11) - i10)) i10 i4f_0_0
  let a3:=Gc lh_0 a0 i2 i10 i4f_0_0
  Tr.br (i10 != i11)
  (Tr.br (decide (i10 > i11)) (Tr.chk a1.isSome (Tr.to (tW.h2 i2 i4f_0_0 (IntKind.i64.wrap (i10 - i11)) i11 (a1.getD [])))) (Tr.chk a2.isSome (Tr.to (tW.h2 i2 i4f_0_0 i10 (IntKind.i64.wrap (i11 - i10)) (a2.getD [])))))
  (Tr.chk a3.isSome (Tr.re (AV.tup []) [AO.vec zf.sl (a3.getD [])]))
theorem Xv:∀ s,run C7 1 Mk (Func.results Tryz.f277).toList 400 (zy Tryz.f277 (CN s).1) (CN s).2=(w5 s).map (lf Tryz.f277 CN):=by intro s; cases s <;> kernel_rfl
def XS (l:List (List (Sem zf))) (a:Int) (m:Int) (b:Int) (k:Int):=bh w5 100000000 (G4 l a m b k)

def Jt (l:List (List (Sem zf))) (a m b k:Int):=B9 (XS l a m b k)
def R1:cF [none,none,none,none,none]:=fun x h=>match x,h with
 | (.vec 0,.int .i64 a,.int .i64 m,.int .i64 b,.clo (.func 134) [.agg [.int .i64 k]] [],_),[.vec (.sl wj) l]=>.chk ((Jt l a m b k).isSome) (.ok (.tup [],[.vec (.sl zf) ((Jt l a m b k).getD [])]))
 | _,_=>.err
def RG:zF:=zU [none,none,none,none,none] R1
theorem O7:FK 277 RG:=by
 refine fk (ι:=List (List (Sem zf))×Int×Int×Int×Int) (args:=fun y=>[AV.vec 0,AV.int .i64 y.2.1,AV.int .i64 y.2.2.1,AV.int .i64 y.2.2.2.1,AV.clo (Fn.func 134) [AV.agg [AV.int .i64 y.2.2.2.2]] []]) (heap:=fun y=>[AO.vec zf.sl y.1]) (i:=fun y=>G4 y.1 y.2.1 y.2.2.1 y.2.2.2.1 y.2.2.2.2) (t:=w5) (e:=CN) (n:=100000000) (n0:=1) yK Xk (fun _=>rfl) (fun y=>V8 _ _ _ _ _) Xv (fun x h res hv=>?_)
 unfold R1 at hv
 split at hv
 ·rename_i a m b k u l
  simp only [Tr.val] at hv
  split at hv
  ·rename_i h1
   simp only [ao] at hv
   subst hv
   exact ⟨(l,a,m,b,k),rfl,rfl,nV h1⟩
  ·cases hv
 ·simp at hv

def GU:=C7.add 277 RG
theorem yL:zl GU:=yK.add O7
end
noncomputable section
abbrev SM:=List (List (Sem zf))→Int→Int→Int→Int→Option (List (List (Sem zf)))
def GSm (o:SM):cF [none,none,none,none,none]:=fun x h=>match x,h with
 | (.vec 0,.int .i64 a,.int .i64 m,.int .i64 b,.clo (.func 134) [.agg [.int .i64 k]] [],_),[.vec (.sl wj) l]=>.chk ((o l a m b k).isSome) (.ok (.tup [],[.vec (.sl zf) ((o l a m b k).getD [])]))
 | _,_=>.err
def FSm (o:SM):zF:=zU [none,none,none,none,none] (GSm o)
def uL (o:SM):bt:=GU.add 249 (FSm o)
theorem ES {o:SM} (h:FK 249 (FSm o)):zl (uL o):=yL.add h

abbrev Mj:=lz [(3,[0,1,4,10,11]),(9,[0,10,13]),(15,[0,2,4,14,15]),(21,[0,14,17]),(33,[0,1,2,3,4,18,19,20,21,22])]
inductive gv where
 | h3 (i1:Int) (i4f_0_0:Int) (i10:Int) (i11:Int) (lh_0:List (Sem zf.sl))
 | h15 (i2:Int) (i4f_0_0:Int) (i14:Int) (i15:Int) (lh_0:List (Sem zf.sl))
 | h33 (i1:Int) (i2:Int) (i3:Int) (i4f_0_0:Int) (i18:Int) (i19:Int) (i20:Int) (i21:Int) (i22:Int) (lh_0:List (Sem zf.sl))
 | h9 (i10:Int) (i13:Int) (lh_0:List (Sem zf.sl))
 | h21 (i14:Int) (i17:Int) (lh_0:List (Sem zf.sl))
abbrev CM:gv→Nat×St
 | .h3 i1 i4f_0_0 i10 i11 lh_0=>(3,⟨tm 220 [(0,AV.vec 0),(1,AV.int .i64 i1),(4,AV.clo (Fn.func 134) [AV.agg [AV.int .i64 i4f_0_0]] []),(10,AV.int .i64 i10),(11,AV.int .i64 i11)],[AO.vec zf.sl lh_0]⟩)
 | .h15 i2 i4f_0_0 i14 i15 lh_0=>(15,⟨tm 220 [(0,AV.vec 0),(2,AV.int .i64 i2),(4,AV.clo (Fn.func 134) [AV.agg [AV.int .i64 i4f_0_0]] []),(14,AV.int .i64 i14),(15,AV.int .i64 i15)],[AO.vec zf.sl lh_0]⟩)
 | .h33 i1 i2 i3 i4f_0_0 i18 i19 i20 i21 i22 lh_0=>(33,⟨tm 220 [(0,AV.vec 0),(1,AV.int .i64 i1),(2,AV.int .i64 i2),(3,AV.int .i64 i3),(4,AV.clo (Fn.func 134) [AV.agg [AV.int .i64 i4f_0_0]] []),(18,AV.int .i64 i18),(19,AV.int .i64 i19),(20,AV.int .i64 i20),(21,AV.int .i64 i21),(22,AV.int .i64 i22)],[AO.vec zf.sl lh_0]⟩)
 | .h9 i10 i13 lh_0=>(9,⟨tm 220 [(0,AV.vec 0),(10,AV.int .i64 i10),(13,AV.int .i64 i13)],[AO.vec zf.sl lh_0]⟩)
 | .h21 i14 i17 lh_0=>(21,⟨tm 220 [(0,AV.vec 0),(14,AV.int .i64 i14),(17,AV.int .i64 i17)],[AO.vec zf.sl lh_0]⟩)
theorem Bo (o:SM):zA (uL o).P 249 Tryz.f249 5:=aQ (by kernel_rfl)
def sn (_:SM) (l:List (List (Sem zf))) (a:Int) (m:Int) (b:Int) (k:Int):Tr (gv ⊕ aj):=
 let a0:=IntKind.i64.wrap (IntKind.u64.wrap (IntKind.i64.wrap (a+b)) / 2)
 let a1:=IntKind.i64.wrap (a0+m)
 let a2:=IntKind.i64.wrap (a1 - 1)
 Tr.br (IntKind.i64.wrap (m - a)==1) (Tr.to (gv.h3 a k m b l))
 (Tr.br (IntKind.i64.wrap (b - m)==1) (Tr.to (gv.h15 m k a m l))
  (Tr.chk true (Tr.br (decide (m > a0)) (Tr.to (gv.h33 a m b k a0 a1 (IntKind.i64.wrap (a1 - b)) a0 a2 l)) (Tr.to (gv.h33 a m b k a0 a1 a m a2 l)))))
theorem V4 (o:SM) (l:List (List (Sem zf))) (a:Int) (m:Int) (b:Int) (k:Int):rn (uL o) 1 Mj Tryz.f249 [AV.vec 0,AV.int .i64 a,AV.int .i64 m,AV.int .i64 b,AV.clo (Fn.func 134) [AV.agg [AV.int .i64 k]] []] [AO.vec (Sh.sl zf) l]=(sn o l a m b k).map (lf Tryz.f249 CM):=by kernel_rfl
def dG (o:SM):gv→Tr (gv ⊕ aj)
 | .h3 i1 i4f_0_0 i10 i11 lh_0=>
  let a0:=IntKind.i64.wrap (IntKind.u64.wrap (IntKind.i64.wrap (i10+i11)) / 2)
  let a1:=decide (i4f_0_0 < 0)
  let a2:=lh_0.getD a0.toNat (zj zf.sl)
  let a3:=(↑(length a2):Int)
  let a4:=bif a1 then true else decide (i4f_0_0 ≥ a3)
  let a5:=lh_0.getD i1.toNat (zj zf.sl)
  let a6:=(↑(length a5):Int)
  let a7:=bif a1 then true else decide (i4f_0_0 ≥ a6)
  let a8:=bif a7 then true else zI i4f_0_0 (length a5)
  let a9:=getD a5 i4f_0_0.toNat (zj zf)
  let a10:=getD a2 i4f_0_0.toNat (zj zf)
  let a11:=bif a4 then bif a7 then bc (0,0,[]) (0,0,[]) else bc (0,0,[]) a9 else bif a7 then bc a10 (0,0,[]) else bc a10 a9
  Tr.br (decide (i10 < i11))
  (Tr.chk true (Tr.chk (zI a0 lh_0.length) (Tr.chk (decide (a0.toNat < lh_0.length)) (Tr.chk (zI i1 lh_0.length) (Tr.chk (decide (i1.toNat < lh_0.length)) (Tr.chk (bif a4 then a8 else zI i4f_0_0 (length a2)&&a8) (Tr.br (decide (a11 < 0)) (Tr.to (gv.h3 i1 i4f_0_0 (IntKind.i64.wrap (a0+1)) i11 lh_0)) (Tr.to (gv.h3 i1 i4f_0_0 i10 a0 lh_0)))))))))
  (Tr.to (gv.h9 i10 i1 lh_0))
 | .h15 i2 i4f_0_0 i14 i15 lh_0=>
  let a0:=IntKind.i64.wrap (IntKind.u64.wrap (IntKind.i64.wrap (i14+i15)) / 2)
  let a1:=decide (i4f_0_0 < 0)
  let a2:=lh_0.getD i2.toNat (zj zf.sl)
  let a3:=(↑(length a2):Int)
  let a4:=bif a1 then true else decide (i4f_0_0 ≥ a3)
  let a5:=lh_0.getD a0.toNat (zj zf.sl)
  let a6:=(↑(length a5):Int)
  let a7:=bif a1 then true else decide (i4f_0_0 ≥ a6)
  let a8:=bif a7 then true else zI i4f_0_0 (length a5)
  let a9:=getD a5 i4f_0_0.toNat (zj zf)
  let a10:=getD a2 i4f_0_0.toNat (zj zf)
  let a11:=bif a4 then bif a7 then bc (0,0,[]) (0,0,[]) else bc (0,0,[]) a9 else bif a7 then bc a10 (0,0,[]) else bc a10 a9
  Tr.br (decide (i14 < i15))
  (Tr.chk true (Tr.chk (zI i2 lh_0.length) (Tr.chk (decide (i2.toNat < lh_0.length)) (Tr.chk (zI a0 lh_0.length) (Tr.chk (decide (a0.toNat < lh_0.length)) (Tr.chk (bif a4 then a8 else zI i4f_0_0 (length a2)&&a8) (Tr.br (!decide (a11 < 0)) (Tr.to (gv.h15 i2 i4f_0_0 (IntKind.i64.wrap (a0+1)) i15 lh_0)) (Tr.to (gv.h15 i2 i4f_0_0 i14 a0 lh_0)))))))))
  (Tr.to (gv.h21 i14 i2 lh_0))
 | .h33 i1 i2 i3 i4f_0_0 i18 i19 i20 i21 i22 lh_0=>
  let a0:=IntKind.i64.wrap (IntKind.u64.wrap (IntKind.i64.wrap (i20+i21)) / 2)
  let a1:=IntKind.i64.wrap (i22 - a0)
  let a2:=decide (i4f_0_0 < 0)
  let a3:=lh_0.getD a1.toNat (zj zf.sl)
  let a4:=(↑(length a3):Int)
  let a5:=bif a2 then true else decide (i4f_0_0 ≥ a4)
  let a6:=lh_0.getD a0.toNat (zj zf.sl)
  let a7:=(↑(length a6):Int)
  let a8:=bif a2 then true else decide (i4f_0_0 ≥ a7)
  let a9:=bif a8 then true else zI i4f_0_0 (length a6)
  let a10:=getD a6 i4f_0_0.toNat (zj zf)
  let a11:=getD a3 i4f_0_0.toNat (zj zf)
  let a12:=bif a5 then bif a8 then bc (0,0,[]) (0,0,[]) else bc (0,0,[]) a10 else bif a8 then bc a11 (0,0,[]) else bc a11 a10
  let a13:=IntKind.i64.wrap (i19 - i20)
  let a14:=Jt lh_0 i20 i2 a13 i4f_0_0
  let a15:=bif decide (i1 < i20) then decide (i20 < i18) else false
  let a16:=a14.getD []
  let a17:=o a16 i1 i20 i18 i4f_0_0
  let a18:=bif decide (i18 < a13) then decide (a13 < i3) else false
  let a19:=a17.getD []
  let a20:=o a19 i18 a13 i3 i4f_0_0
  let a21:=o a16 i18 a13 i3 i4f_0_0
  let a22:=o lh_0 i1 i20 i18 i4f_0_0
  let a23:=a22.getD []
  let a24:=o a23 i18 a13 i3 i4f_0_0
  let a25:=o lh_0 i18 a13 i3 i4f_0_0
  Tr.br (decide (i20 < i21))
  (Tr.chk true (Tr.chk (zI a1 lh_0.length) (Tr.chk (decide (a1.toNat < lh_0.length)) (Tr.chk (zI a0 lh_0.length) (Tr.chk (decide (a0.toNat < lh_0.length)) (Tr.chk (bif a5 then a9 else zI i4f_0_0 (length a3)&&a9) (Tr.br (!decide (a12 < 0)) (Tr.to (gv.h33 i1 i2 i3 i4f_0_0 i18 i19 (IntKind.i64.wrap (a0+1)) i21 i22 lh_0))
  (Tr.to (gv.h33 i1 i2 i3 i4f_0_0 i18 i19 i20 a0 i22 lh_0)))))))))
  (Tr.br (bif decide (i20 < i2) then decide (i2 < a13) else false) (Tr.chk a14.isSome (Tr.br a15 (Tr.chk a17.isSome (Tr.br a18 (Tr.chk a20.isSome (Tr.re (AV.tup []) [AO.vec zf.sl (a20.getD [])])) (Tr.re (AV.tup []) [AO.vec zf.sl a19]))) (Tr.br a18 (Tr.chk a21.isSome (Tr.re (AV.tup []) [AO.vec zf.sl (a21.getD [])])) (Tr.re (AV.tup []) [AO.vec zf.sl a16])))) (Tr.br a15
  (Tr.chk a22.isSome (Tr.br a18 (Tr.chk a24.isSome (Tr.re (AV.tup []) [AO.vec zf.sl (a24.getD [])])) (Tr.re (AV.tup []) [AO.vec zf.sl a23]))) (Tr.br a18 (Tr.chk a25.isSome (Tr.re (AV.tup []) [AO.vec zf.sl (a25.getD [])])) (Tr.re (AV.tup []) [AO.vec zf.sl lh_0]))))
 | .h9 i10 i13 lh_0=>
  let a0:=IntKind.i64.wrap (i10 - 1)
  let a1:=IntKind.i64.wrap (i13+1)
  let a2:=decide (i13.toNat < lh_0.length)
  let a3:=lh_0.set i13.toNat (lh_0.getD a1.toNat (zj zf.sl))
  Tr.br (decide (i13 < a0))
  (Tr.chk (zI a1 lh_0.length) (Tr.chk (decide (a1.toNat < lh_0.length)) (Tr.chk (zI i13 lh_0.length) (Tr.chk a2 (Tr.chk (zI i13 lh_0.length) (Tr.chk a2 (Tr.chk (zI a1 a3.length) (Tr.chk (decide (a1.toNat < a3.length)) (Tr.to (gv.h9 i10 a1 (a3.set a1.toNat (lh_0.getD i13.toNat (zj zf.sl)))))))))))))
  (Tr.re (AV.tup []) [AO.vec zf.sl lh_0])
 | .h21 i14 i17 lh_0=>
  let a0:=IntKind.i64.wrap (i17 - 1)
  let a1:=decide (i17.toNat < lh_0.length)
  let a2:=lh_0.set i17.toNat (lh_0.getD a0.toNat (zj zf.sl))
  Tr.br (decide (i17 > i14))
  (Tr.chk (zI a0 lh_0.length) (Tr.chk (decide (a0.toNat < lh_0.length)) (Tr.chk (zI i17 lh_0.length) (Tr.chk a1 (Tr.chk (zI i17 lh_0.length) (Tr.chk a1 (Tr.chk (zI a0 a2.length) (Tr.chk (decide (a0.toNat < a2.length)) (Tr.to (gv.h21 i14 a0 (a2.set a0.toNat (lh_0.getD i17.toNat (zj zf.sl)))))))))))))
  (Tr.re (AV.tup []) [AO.vec zf.sl lh_0])
theorem Xu (o:SM):∀ s,run (uL o) 1 Mj (Func.results Tryz.f249).toList 400 (zy Tryz.f249 (CM s).1) (CM s).2=(dG o s).map (lf Tryz.f249 CM):=by intro s; cases s <;> kernel_rfl

def smS (o:SM):SM:=fun l a m b k=>B9 (bh (dG o) 100000000 (sn o l a m b k))
def wZ:Nat→SM
 | 0=>fun _ _ _ _ _=>none
 | n+1=>smS (wZ n)
theorem Gq:∀ n,FK 249 (FSm (wZ n))
 | 0=>fF (E:=GU) ⟨Tryz.f249,(Bo (wZ 0)).1,(Bo (wZ 0)).2.1,(Bo (wZ 0)).2.2.1⟩ fun x h0 res h=>by
  exfalso
  unfold GSm at h
  split at h
  ·simp [wZ,Tr.val] at h
  ·simp at h
 | n+1=>by
  refine fk (E:=uL (wZ n)) (ι:=List (List (Sem zf))×Int×Int×Int×Int) (args:=fun y=>[AV.vec 0,AV.int .i64 y.2.1,AV.int .i64 y.2.2.1,AV.int .i64 y.2.2.2.1,AV.clo (Fn.func 134) [AV.agg [AV.int .i64 y.2.2.2.2]] []]) (heap:=fun y=>[AO.vec zf.sl y.1]) (i:=fun y=>sn (wZ n) y.1 y.2.1 y.2.2.1 y.2.2.2.1 y.2.2.2.2) (t:=dG (wZ n)) (e:=CM) (n:=100000000) (n0:=1) (ES (Gq n)) (Bo (wZ n)) (fun _=>rfl) (fun y=>V4 _ _ _ _ _ _) (Xu (wZ n)) (fun x h res hv=>?_)
  unfold GSm at hv
  split at hv
  ·rename_i a m b k u l
   simp only [Tr.val] at hv
   split at hv
   ·rename_i h1
    simp only [ao] at hv
    subst hv
    exact ⟨(l,a,m,b,k),rfl,rfl,nV h1⟩
   ·cases hv
  ·simp at hv
def RD:zF:=FSm (wZ 16)
theorem O4:FK 249 RD:=Gq 16

def C8:=GU.add 249 RD
theorem yM:zl C8:=yL.add O4
end
noncomputable section

abbrev Mh:=lz [(2,[0,1,2,6,7,8]),(7,[0,1,2,6]),(9,[0,1,2,6,7,8])]
inductive mn where
 | h2 (i1:Int) (i2f_0_0:Int) (i6:Int) (i7:Int) (i8:Int) (lh_0:List (Sem zf.sl))
 | h7 (i1:Int) (i2f_0_0:Int) (i6:Int) (lh_0:List (Sem zf.sl))
 | h9 (i1:Int) (i2f_0_0:Int) (i6:Int) (i7:Int) (i8:Int) (lh_0:List (Sem zf.sl))
abbrev CJ:mn→Nat×St
 | .h2 i1 i2f_0_0 i6 i7 i8 lh_0=>(2,⟨tm 63 [(0,AV.vec 0),(1,AV.int .i64 i1),(2,AV.clo (Fn.func 134) [AV.agg [AV.int .i64 i2f_0_0]] []),(6,AV.int .i64 i6),(7,AV.int .i64 i7),(8,AV.int .i64 i8)],[AO.vec zf.sl lh_0]⟩)
 | .h7 i1 i2f_0_0 i6 lh_0=>(7,⟨tm 63 [(0,AV.vec 0),(1,AV.int .i64 i1),(2,AV.clo (Fn.func 134) [AV.agg [AV.int .i64 i2f_0_0]] []),(6,AV.int .i64 i6)],[AO.vec zf.sl lh_0]⟩)
 | .h9 i1 i2f_0_0 i6 i7 i8 lh_0=>(9,⟨tm 63 [(0,AV.vec 0),(1,AV.int .i64 i1),(2,AV.clo (Fn.func 134) [AV.agg [AV.int .i64 i2f_0_0]] []),(6,AV.int .i64 i6),(7,AV.int .i64 i7),(8,AV.int .i64 i8)],[AO.vec zf.sl lh_0]⟩)
theorem Xh:zA C8.P 201 Tryz.f201 3:=aQ (by kernel_rfl)
def LH (l:List (List (Sem zf))) (n:Int) (k:Int):Tr (mn ⊕ aj):=
 Tr.to (mn.h2 n k 20 0 20 l)
theorem V1 (l:List (List (Sem zf))) (n:Int) (k:Int):rn C8 1 Mh Tryz.f201 [AV.vec 0,AV.int .i64 n,AV.clo (Fn.func 134) [AV.agg [AV.int .i64 k]] []] [AO.vec (Sh.sl zf) l]=(LH l n k).map (lf Tryz.f201 CJ):=by kernel_rfl
def iH:mn→Tr (mn ⊕ aj)
 | .h2 i1 i2f_0_0 i6 i7 i8 lh_0=>
  let a0:=rq lh_0 i7 i8 i2f_0_0
  let a1:=rq lh_0 i7 i1 i2f_0_0
  Tr.br (decide (i8≤i1)) (Tr.chk a0.isSome (Tr.to (mn.h2 i1 i2f_0_0 i6 i8 (IntKind.i64.wrap (i8+i6)) (a0.getD []))))
  (Tr.chk a1.isSome (Tr.to (mn.h7 i1 i2f_0_0 i6 (a1.getD []))))
 | .h7 i1 i2f_0_0 i6 lh_0=>
  Tr.br (decide (i6 < i1)) (Tr.to (mn.h9 i1 i2f_0_0 i6 0 (IntKind.i64.wrap (2 * i6)) lh_0))
  (Tr.re (AV.tup []) [AO.vec zf.sl lh_0])
 | .h9 i1 i2f_0_0 i6 i7 i8 lh_0=>
  let a0:=IntKind.i64.wrap (i7+i6)
  let a1:=wZ 16 lh_0 i7 a0 i8 i2f_0_0
  let a2:=wZ 16 lh_0 i7 a0 i1 i2f_0_0
  let a3:=IntKind.i64.wrap (i6 * 2)
  Tr.br (decide (i8≤i1)) (Tr.chk a1.isSome (Tr.to (mn.h9 i1 i2f_0_0 i6 i8 (IntKind.i64.wrap (i8+IntKind.i64.wrap (2 * i6))) (a1.getD []))))
  (Tr.br (decide (a0 < i1)) (Tr.chk a2.isSome (Tr.to (mn.h7 i1 i2f_0_0 a3 (a2.getD [])))) (Tr.to (mn.h7 i1 i2f_0_0 a3 lh_0)))
theorem Xr:∀ s,run C8 1 Mh (Func.results Tryz.f201).toList 400 (zy Tryz.f201 (CJ s).1) (CJ s).2=(iH s).map (lf Tryz.f201 CJ):=by intro s; cases s <;> kernel_rfl
def Td (l:List (List (Sem zf))) (n:Int) (k:Int):=bh iH 100000000 (LH l n k)

def D7 (l:List (List (Sem zf))) (n k:Int):=B9 (Td l n k)
def RY:cF [none,none,none]:=fun x h=>match x,h with
 | (.vec 0,.int .i64 n,.clo (.func 134) [.agg [.int .i64 k]] [],_),[.vec (.sl wj) l]=>.chk ((D7 l n k).isSome) (.ok (.tup [],[.vec (.sl zf) ((D7 l n k).getD [])]))
 | _,_=>.err
def Ry:zF:=zU [none,none,none] RY
theorem OZ:FK 201 Ry:=by
 refine fk (ι:=List (List (Sem zf))×Int×Int) (args:=fun y=>[AV.vec 0,AV.int .i64 y.2.1,AV.clo (Fn.func 134) [AV.agg [AV.int .i64 y.2.2]] []]) (heap:=fun y=>[AO.vec zf.sl y.1]) (i:=fun y=>LH y.1 y.2.1 y.2.2) (t:=iH) (e:=CJ) (n:=100000000) (n0:=1) yM Xh (fun _=>rfl) (fun y=>V1 _ _ _) Xr (fun x h res hv=>?_)
 unfold RY at hv
 split at hv
 ·rename_i n k u l
  simp only [Tr.val] at hv
  split at hv
  ·rename_i h1
   simp only [ao] at hv
   subst hv
   exact ⟨(l,n,k),rfl,rfl,nV h1⟩
  ·cases hv
 ·simp at hv

def A5:=C8.add 201 Ry
theorem u7:zl A5:=yM.add OZ
end

abbrev WJ:=lz []
theorem Xd:zA A5.P 132 Tryz.f132 2:=aQ (by kernel_rfl)
noncomputable def G2 (l:List (List (Sem zf))) (k:Int):Tr (Empty ⊕ aj):=
 let a0:=D7 l (↑l.length:Int) k
 Tr.chk a0.isSome (Tr.re (AV.tup []) [AO.vec zf.sl (a0.getD [])])
theorem VV (l:List (List (Sem zf))) (k:Int):rn A5 1 WJ Tryz.f132 [AV.vec 0,AV.clo (Fn.func 134) [AV.agg [AV.int .i64 k]] []] [AO.vec (Sh.sl zf) l]=(G2 l k).map (lf Tryz.f132 e0):=by kernel_rfl
noncomputable def F9 (l:List (List (Sem zf))) (k:Int):=bh t0 100000000 (G2 l k)

noncomputable def rO (l:List (List (Sem zf))) (k:Int):=B9 (F9 l k)
noncomputable def RX:cF [none,none]:=fun x h=>match x,h with
 | (.vec 0,.clo (.func 134) [.agg [.int .i64 k]] [],_),[.vec (.sl wj) l]=>.chk ((rO l k).isSome) (.ok (.tup [],[.vec (.sl zf) ((rO l k).getD [])]))
 | _,_=>.err
noncomputable def Ra:zF:=zU [none,none] RX
theorem OC:FK 132 Ra:=by
 refine fk (ι:=List (List (Sem zf))×Int) (args:=fun y=>[AV.vec 0,AV.clo (Fn.func 134) [AV.agg [AV.int .i64 y.2]] []]) (heap:=fun y=>[AO.vec zf.sl y.1]) (i:=fun y=>G2 y.1 y.2) (t:=t0) (e:=e0) (n:=100000000) (n0:=1) u7 Xd (fun _=>rfl) (fun y=>VV _ _) (JN _ _ _ _ _) (fun x h res hv=>?_)
 unfold RX at hv
 split at hv
 ·rename_i k u l
  simp only [Tr.val] at hv
  split at hv
  ·rename_i h1
   simp only [ao] at hv
   subst hv
   exact ⟨(l,k),rfl,rfl,nV h1⟩
  ·cases hv
 ·simp at hv

noncomputable def KW:=A5.add 132 Ra
theorem EU:zl KW:=u7.add OC
noncomputable section

abbrev Mn:Nat→ah:=fun j=>if j=7 then { slots:=[1,2,34,35] } else { }
inductive Ig where
 | h7 (i34:Int) (i35:Int) (ja0:Sem Sh.str) (ja2:Sem zg) (ja5:zo) (ja6:Int) (ja7:Int) (ja8:zo) (ja9:zo) (ja10:List (Sem Sh.expr)) (jb0:List UInt8) (jb2:Int) (jb5:List UInt8) (jb6:Int) (jb7:Int) (jb8:List UInt8) (jb9:List UInt8) (lh_2:List (Sem zi)) (lh_3:List (Sem zg)) (lh_4:List (Sem zq)) (lh_5:List (Sem zf.sl))
abbrev KD:Ig→Nat×St
 | .h7 i34 i35 ja0 ja2 ja5 ja6 ja7 ja8 ja9 ja10 jb0 jb2 jb5 jb6 jb7 jb8 jb9 lh_2 lh_3 lh_4 lh_5=>(7,⟨tm 50 [(1,AV.ptr 0 0),(2,AV.ptr 1 0),(34,AV.int .i64 i34),(35,AV.int .i64 i35)],[AO.box [AV.str ja0,AV.vec 2,AV.int .i64 ja2,AV.vec 3,AV.vec 4,AV.str ja5,AV.int .i64 ja6,AV.int .i64 ja7,AV.str ja8,AV.str ja9,AV.sl Sh.expr ja10,AV.vec 5],AO.box [AV.str jb0,AV.nils,AV.int .i64 jb2,AV.nils,AV.nils,AV.str jb5,AV.int .i64 jb6,AV.int .i64 jb7,AV.str jb8,AV.str jb9,AV.nils,AV.nils],AO.vec zi lh_2,AO.vec zg lh_3,AO.vec zq lh_4,AO.vec zf.sl lh_5]⟩)
theorem zel:zA C2.P 131 Tryz.f131 1:=aQ (by kernel_rfl)
def P3 (x0:Sem zh):Tr (Ig ⊕ aj):=
 Tr.chk (decide (length x0.1.2.1≤1073741824))
 (Tr.chk (decide (length x0.1.2.2.2.1≤1073741824))
  (Tr.chk (decide (length x0.1.2.2.2.2.1≤1073741824)) (Tr.chk (kX 16 (zE x0.1.2.2.2.2.2)) (Tr.chk (decide (length x0.2≤1073741824)) (Tr.to (Ig.h7 (↑(length x0.2):Int) 0 x0.1.1 x0.1.2.2.1 (ze.op x0.1.2.2.2.2.2) (ze.v x0.1.2.2.2.2.2).1 (ze.v x0.1.2.2.2.2.2).2.1 (ze.v x0.1.2.2.2.2.2).2.2
  (ze.s x0.1.2.2.2.2.2) (ze.l x0.1.2.2.2.2.2) [] 0 [] 0 0 [] [] x0.1.2.1 x0.1.2.2.2.1 x0.1.2.2.2.2.1 x0.2))))))
theorem zcv (x0:Sem zh):rn C2 0 Mn Tryz.f131 [zz zh x0] []=(P3 x0).map (lf Tryz.f131 KD):=by kernel_rfl
def JD:Ig→Tr (Ig ⊕ aj)
 | .h7 i34 i35 ja0 ja2 ja5 ja6 ja7 ja8 ja9 ja10 jb0 jb2 jb5 jb6 jb7 jb8 jb9 lh_2 lh_3 lh_4 lh_5=>
  let a0:=decide (i35.toNat < lh_5.length)
  let a1:=lh_5.getD i35.toNat (zj zf.sl)
  Tr.br (decide (i35 < i34))
  (Tr.chk (zI i35 lh_5.length)
   (Tr.chk a0 (Tr.chk (decide (length a1≤1073741824)) (Tr.chk (zI i35 lh_5.length) (Tr.chk a0 (Tr.to (Ig.h7 i34 (IntKind.i64.wrap (i35+1)) ja0 ja2 ja5 ja6 ja7 ja8 ja9 ja10 jb0 jb2 jb5 jb6 jb7 jb8 jb9 lh_2 lh_3 lh_4 (lh_5.set i35.toNat a1))))))))
  (Tr.re
   (AV.agg [AV.str ja0,AV.vec 0,AV.int .i64 ja2,AV.vec 1,AV.vec 2,AV.str ja5,AV.int .i64 ja6,AV.int .i64 ja7,AV.str ja8,AV.str ja9,AV.sl Sh.expr ja10,AV.vec 3])
   [AO.vec zi lh_2,AO.vec zg lh_3,AO.vec zq lh_4,AO.vec zf.sl lh_5])
theorem zeU:∀ s,run C2 0 Mn (Func.results Tryz.f131).toList 400 (zy Tryz.f131 (KD s).1) (KD s).2=(JD s).map (lf Tryz.f131 KD)
 | .h7 i34 i35 ja0 ja2 ja5 ja6 ja7 ja8 ja9 ja10 jb0 jb2 jb5 jb6 jb7 jb8 jb9 lh_2 lh_3 lh_4 lh_5=>by kernel_rfl
end

def XQ (ks:List Sh) (c:zw (ks.map some)→Bool) (g:zw (ks.map some)→aj):cF (ks.map some):=fun x h=>match h with
 | []=>.chk (c x) (.ok (g x))
 | _=>.err

theorem Vd {P:Program} {gl:Nat→AV} {σ:Type} {E:bt} {k:FuncId} {f:Func} {ks:List Sh} {keep:Nat→ah} {gas n:Nat} {e:σ→Nat×St} {t:σ→Tr (σ ⊕ aj)} {i:zw (ks.map some)→Tr (σ ⊕ aj)} {c:zw (ks.map some)→Bool} {g:zw (ks.map some)→aj}
  (hE:zl E) (hf:zA E.P k f ks.length) (hgo:∀ x,run E 0 keep f.results.toList gas (aB f) (aq f.ntmps (gz (ks.map some) x) [])=(i x).map (lf f e))
  (hon:∀ s,run E 0 keep f.results.toList gas (zy f (e s).1) (e s).2=(t s).map (lf f e))
  (hg:∀ x,c x=true→bh t n (i x)=some (g x)) (qp:E.P=P:=by rfl) (qg:E.gl=gl:=by rfl):mf P gl k (zU (ks.map some) (XQ ks c g)):=by
 subst qp qg
 refine bA (by simpa using hf) fun x h0 res hx C hC=>?_
 unfold XQ at hx
 split at hx
 ·simp only [Tr.val] at hx
  split at hx
  ·rename_i hc
   simp only [ao] at hx
   subst hx
   exact kH (n0:=0) hE (by simpa using hf) (fun id _=>hC id (aV _)) (n+1) _ _ _ (by rw [js hon (hgo x)]; exact hg x hc) rfl
  ·cases hx
 ·simp at hx

def EC (x:Sem zh):aj:=(AV.agg [AV.str x.1.1,AV.vec 0,AV.int .i64 x.1.2.2.1,AV.vec 1,AV.vec 2,AV.str (ze.op x.1.2.2.2.2.2),AV.int .i64 (ze.v x.1.2.2.2.2.2).1,AV.int .i64 (ze.v x.1.2.2.2.2.2).2.1,AV.str (ze.v x.1.2.2.2.2.2).2.2,AV.str (ze.s x.1.2.2.2.2.2),AV.sl Sh.expr (ze.l x.1.2.2.2.2.2),AV.vec 3],
 [AO.vec zi x.1.2.1,AO.vec zg x.1.2.2.2.1,AO.vec zq x.1.2.2.2.2.1,AO.vec zf.sl x.2])

def EB (x:Sem zh):Bool:=decide (length x.1.2.1≤1000000)&&decide (length x.1.2.2.2.1≤1000000)&&decide (length x.1.2.2.2.2.1≤1000000)&&kX 16 x.1.2.2.2.2.2&&decide (length x.2≤1000000)&&List.all x.2 (fun r=>decide (length r≤1000000))

theorem NN {α:Type} (l:List α) (d:α) (i:Nat) (h:i < l.length):l.set i (l.getD i d)=l:=by
 rw [aJ,zJ h,bP]
 exact List.set_getElem_self h

theorem PF (x:Sem zh) (hc:EB x=true):bh JD 100000000 (P3 x)=some (EC x):=by
 unfold EB at hc
 simp only [aL,ae,cX] at hc
 obtain ⟨⟨⟨⟨⟨h1,h2⟩,h3⟩,h4⟩,h5⟩,h6⟩:=hc
 have hl:=pT (t:=JD) (β:=Unit) (length x.2) (fun _ i=>.h7 (length x.2:Int) (i:Int) x.1.1 x.1.2.2.1 (ze.op x.1.2.2.2.2.2) (ze.v x.1.2.2.2.2.2).1 (ze.v x.1.2.2.2.2.2).2.1 (ze.v x.1.2.2.2.2.2).2.2
   (ze.s x.1.2.2.2.2.2) (ze.l x.1.2.2.2.2.2) [] 0 [] 0 0 [] [] x.1.2.1 x.1.2.2.2.1 x.1.2.2.2.2.1 x.2) (fun _ _=>True) (fun r=>r=EC x) 1 (by
   intro b i hi _
   have hrow:length (getD x.2 i (zj zf.sl))≤1000000:=h6 _ (by rw [aJ,zJ hi,bP]; exact dg hi)
   simp only [JD,Tr.val,zT hi,zB hi,if_true,aT,ay hi,NN _ _ _ hi]
   rw [zD i (by unfold zC; omega),if_pos (ay (by omega))]
   exact Or.inl ⟨(),trivial,rfl⟩) (by
   intro b n _ hn
   obtain ⟨n,rfl⟩:∃ k,n=k+1:=⟨n - 1,by omega⟩
   rw [rr]
   simp only [JD,Tr.val,zX]
   exact ⟨_,rfl,rfl⟩) (length x.2) 0 () 100000000 rfl (aV _) trivial (by omega)
 obtain ⟨r,hr,rfl⟩:=hl
 unfold bh
 have e1:decide (length x.1.2.1≤1073741824)=true:=ay (by omega)
 have e2:decide (length x.1.2.2.2.1≤1073741824)=true:=ay (by omega)
 have e3:decide (length x.1.2.2.2.2.1≤1073741824)=true:=ay (by omega)
 have e5:decide (length x.2≤1073741824)=true:=ay (by omega)
 simp only [P3,Tr.val,e1,e2,e3,e5,zp,h4,if_true]
 exact hr

noncomputable def Zx:zF:=zU ([zh].map some) (XQ [zh] (fun x=>EB x.1) (fun x=>EC x.1))
theorem UD:FK 131 Zx:=Vd (ks:=[zh]) (keep:=Mn) (gas:=400) (n:=100000000) (e:=KD) (t:=JD) (i:=fun x=>P3 x.1) rg zel (fun x=>zcv x.1) zeU (fun x hc=>PF x.1 hc)
noncomputable section
def KX:=KW.add 131 Zx
theorem u9:zl KX:=EU.add UD

def Wn (x0:Sem zh):Tr (Empty ⊕ aj):=
 let a0:=(x0.1.1,x0.1.2.1,x0.1.2.2.1,x0.1.2.2.2.1,x0.1.2.2.2.2.1,zE x0.1.2.2.2.2.2)
 let a1:=rO x0.2 (-1)
 let a2:=rO x0.2 x0.1.2.2.1
 Tr.chk (EB (a0,x0.2))
 (Tr.br (!gq a0)
  (Tr.chk a1.isSome (Tr.re (AV.agg [AV.str x0.1.1,AV.vec 0,AV.int .i64 x0.1.2.2.1,AV.vec 1,AV.vec 2,AV.str (ze.op x0.1.2.2.2.2.2),AV.int .i64 (ze.v x0.1.2.2.2.2.2).1,AV.int .i64 (ze.v x0.1.2.2.2.2.2).2.1,AV.str (ze.v x0.1.2.2.2.2.2).2.2,AV.str (ze.s x0.1.2.2.2.2.2),AV.sl Sh.expr (ze.l x0.1.2.2.2.2.2),AV.vec 3]) [AO.vec zi x0.1.2.1,AO.vec zg x0.1.2.2.2.1,
  AO.vec zq x0.1.2.2.2.2.1,AO.vec zf.sl (a1.getD [])]))
  (Tr.chk a2.isSome (Tr.re (AV.agg [AV.str x0.1.1,AV.vec 0,AV.int .i64 x0.1.2.2.1,AV.vec 1,AV.vec 2,AV.str (ze.op x0.1.2.2.2.2.2),AV.int .i64 (ze.v x0.1.2.2.2.2.2).1,AV.int .i64 (ze.v x0.1.2.2.2.2.2).2.1,AV.str (ze.v x0.1.2.2.2.2.2).2.2,AV.str (ze.s x0.1.2.2.2.2.2),AV.sl Sh.expr (ze.l x0.1.2.2.2.2.2),AV.vec 3]) [AO.vec zi x0.1.2.1,AO.vec zg x0.1.2.2.2.1,
  AO.vec zq x0.1.2.2.2.2.1,AO.vec zf.sl (a2.getD [])])))
def BE (x0:Sem zh):=zW [zh] t0 100000000 (Wn x0)
def FZ (x0:Sem zh):=(BE x0).isSome
def Nu (x0:Sem zh):=o1 (BE x0)
def ZP:=FT [zh] [zh] fun x=>BE x.1
theorem UX:FK 81 ZP:=u9.T1 (f:=Tryz.f81) (keep:=k0) (e:=e0)

def KY:=KX.add 81 ZP
theorem vd:zl KY:=u9.add UX
end

noncomputable def Wl (x0:Sem ag) (x1:Sem zh) (x2:Sem zg):Tr (Empty ⊕ aj):=
 let a0:=((x1.1.1,x1.1.2.1,x1.1.2.2.1,x1.1.2.2.2.1,x1.1.2.2.2.2.1,zE x1.1.2.2.2.2.2),x1.2)
 let a1:=Nu a0
 let a2:=((a1.1.1,a1.1.2.1,a1.1.2.2.1,a1.1.2.2.2.1,a1.1.2.2.2.2.1,zE a1.1.2.2.2.2.2),a1.2)
 let a3:=rH a2
 let a4:=bS a3
 let a5:=jP x0.1 a2
 let a6:=kv a5 x2
 Tr.chk (FZ a0)
 (Tr.chk (nG a2)
  (Tr.br (a3 != 0) (Tr.chk (oL a3) (Tr.re (AV.tup [AV.sl zh a4.1,AV.agg [AV.int .i64 a4.2.1,AV.int .i64 a4.2.2.1,AV.sl zf.sl a4.2.2.2]]) [])) (Tr.chk (jm x0.1 a2) (Tr.chk (gA a5 x2) (Tr.re (AV.tup [AV.sl zh a6.1,AV.agg [AV.int .i64 a6.2.1,AV.int .i64 a6.2.2.1,AV.sl zf.sl a6.2.2.2]]) [])))))
noncomputable def jl (x0:Sem ag) (x1:Sem zh) (x2:Sem zg):=zW [zh.sl,cB] t0 100000000 (Wl x0 x1 x2)
noncomputable def kr (x0:Sem ag) (x1:Sem zh) (x2:Sem zg):=(jl x0 x1 x2).isSome
noncomputable def nj (x0:Sem ag) (x1:Sem zh) (x2:Sem zg):=o2 (jl x0 x1 x2)
noncomputable def Zp:=FT [ag,zh,zg] [zh.sl,cB] fun x=>jl x.1 x.2.1 x.2.2.1
theorem Uu:FK 45 Zp:=vd.T1 (f:=Tryz.f45) (keep:=k0) (e:=e0)

noncomputable def KZ:=KY.add 45 Zp
theorem ve:zl KZ:=vd.add Uu

noncomputable def Wc (x0:Sem ag):Tr (Empty ⊕ aj):=
 let a0:=zR x0.1 x0.2.2.1
 let a1:=getD x0.1 (toNat a0) (zj zh)
 let a2:=[x0.2.2.2.2.2.2.2.2.2.2.1]
 let a3:=(x0.1,x0.2.1,x0.2.2.1,x0.2.2.2.1,x0.2.2.2.2.1,x0.2.2.2.2.2.1,x0.2.2.2.2.2.2.1,x0.2.2.2.2.2.2.2.1,x0.2.2.2.2.2.2.2.2.1,zE x0.2.2.2.2.2.2.2.2.2.1,x0.2.2.2.2.2.2.2.2.2.2.1,x0.2.2.2.2.2.2.2.2.2.2.2.1,zE x0.2.2.2.2.2.2.2.2.2.2.2.2.1,x0.2.2.2.2.2.2.2.2.2.2.2.2.2)
 let a4:=((a1.1.1,a1.1.2.1,a1.1.2.2.1,a1.1.2.2.2.1,a1.1.2.2.2.2.1,zE a1.1.2.2.2.2.2),a1.2++a2)
 let a5:=nj a3 a4 1
 Tr.br (decide (a0 < 0))
 (Tr.chk true
  (Tr.re (AV.tup [AV.sl zh (bS 6).1,AV.agg [AV.int .i64 (bS 6).2.1,AV.int .i64 (bS 6).2.2.1,AV.sl zf.sl (bS 6).2.2.2]]) []))
 (Tr.chk (zI a0 (length x0.1))
  (Tr.chk (decide (length a1.2≤1073741824)) (Tr.chk (decide (length x0.2.2.2.2.2.2.2.2.2.2.1≤1073741824)) (Tr.chk (decide (length a1.2+a2.length≤1073741824)) (Tr.chk (kr a3 a4 1) (Tr.re (AV.tup [AV.sl zh a5.1,AV.agg [AV.int .i64 a5.2.1,AV.int .i64 a5.2.2.1,AV.sl zf.sl a5.2.2.2]]) []))))))
noncomputable def hP (x0:Sem ag):=zW [zh.sl,cB] t0 100000000 (Wc x0)
noncomputable def uy (x0:Sem ag):=(hP x0).isSome
noncomputable def AM (x0:Sem ag):=o2 (hP x0)
noncomputable def Y2:=FT [ag] [zh.sl,cB] fun x=>hP x.1
theorem T4:FK 19 Y2:=ve.T1 (f:=Tryz.f19) (keep:=k0) (e:=e0)

noncomputable def K0:=KZ.add 19 Y2
theorem EV:zl K0:=ve.add T4

def Cd (c:ze→Bool):zF:=zG [.expr] [.expr] (fun x=>c x.1) fun x=>(x.1,())
noncomputable def yl (c:ze→Bool):bt:=PL.add 72 (Cd c)
theorem qR {c:ze→Bool} (hg:FK 72 (Cd c)):zl (yl c):=uX.add hg
abbrev SH:Nat→ah:=fun j=>if j=3 then { slots:=[1,2,10,11] } else { }
abbrev BH (i10:Int) (i11:Int) (ja0:zo) (ja1:Int) (ja2:Int) (ja3:zo) (ja4:zo) (lh_2:List (Sem Sh.expr)):St:={
 tmps:=
  (tm 26 [(1,AV.ptr 0 0),(2,AV.ptr 1 0),(10,AV.int .i64 i10),(11,AV.int .i64 i11)]),
 heap:=
  [AO.box [AV.str ja0,AV.int .i64 ja1,AV.int .i64 ja2,AV.str ja3,AV.str ja4,AV.vec 2],
   AO.box [AV.str [],AV.int .i64 0,AV.int .i64 0,AV.str [],AV.str [],AV.nils],AO.vec Sh.expr lh_2] }
theorem we (c:ze→Bool):zA (yl c).P 72 Tryz.f72 1:=aQ (by kernel_rfl)
theorem zcn (c:ze→Bool) (op:zo) (v:V) (s:zo) (l:List ze):rn (yl c) 0 SH Tryz.f72 [zz Sh.expr (ze.mk op v s l)] []=
 Tr.chk (decide (l.length≤1073741824)) (Tr.ok (zt.head 3 (zy Tryz.f72 3) (BH (↑l.length:Int) 0 op v.1 v.2.1 v.2.2 s l))):=by kernel_rfl
theorem Hw (c:ze→Bool) (i10:Int) (i11:Int) (ja0:zo) (ja1:Int) (ja2:Int) (ja3:zo) (ja4:zo) (lh_2:List (Sem Sh.expr)):rh (yl c) 0 SH Tryz.f72 3 (BH i10 i11 ja0 ja1 ja2 ja3 ja4 lh_2)=
 Tr.br (decide (i11 < i10))
 (Tr.chk (zI i11 lh_2.length)
  (Tr.chk (decide (i11.toNat < lh_2.length))
   (Tr.chk (c (zE (lh_2.getD i11.toNat (zj Sh.expr))))
    (Tr.chk (zI i11 lh_2.length)
     (Tr.chk (decide (i11.toNat < lh_2.length))
      (Tr.ok
       (zt.head 3 (zy Tryz.f72 3)
        (BH i10 (IntKind.i64.wrap (i11+1)) ja0 ja1 ja2 ja3 ja4
         (lh_2.set i11.toNat
          (zE (lh_2.getD i11.toNat (zj Sh.expr))))))))))))
 (Tr.ok
  (zt.ret (AV.agg [AV.str ja0,AV.int .i64 ja1,AV.int .i64 ja2,AV.str ja3,AV.str ja4,AV.vec 0]) [AO.vec Sh.expr lh_2])):=by kernel_rfl

theorem zbF {c:ze→Bool} (hg:FK 72 (Cd c)) {C:cH} (hC:∀ id,C.ρ0 id=none) (op:zo) (v:V) (s:zo) (l:List ze) (hl:l.length≤1073741824) (hcl:l.all c=true):
  ∀ (k i:Nat),l.length - i=k→i≤l.length→Reach (yl c) C 72 (zy Tryz.f72 3) (BH l.length i op v.1 v.2.1 v.2.2 s l) (fun r h=>ap h [.expr] r=some (ze.mk op v s l,())):=by
 intro k
 induction k with
 | zero=>
  intro i hk hi
  obtain rfl:i=l.length:=by omega
  refine zk (n0:=0) (qR hg) (we c) (fun id _=>hC id) (Hw c _ _ _ _ _ _ _ _) ?_
  simp only [zX,Tr.val_brF]
  rfl
 | succ k IH=>
  intro i hk hi
  have hlt:i < l.length:=by omega
  refine zk (n0:=0) (qR hg) (we c) (fun id _=>hC id) (Hw c _ _ _ _ _ _ _ _) ?_
  have h1:c l[i]=true:=cX.1 hcl _ (dg hlt)
  have h2:decide ((i:Int).toNat < l.length)=true:=by simpa using hlt
  have h3:l.set (i:Int).toNat l[i]=l:=by simp
  simp only [zT hlt,zB hlt,ac l _ hlt,ze.eta,Tr.val_brT,Tr.val_chkT,h1,h2,h3,zD i (by unfold zC; omega)]
  exact IH (i+1) (by omega) (by omega)

theorem Aw:∀ n,FK 72 (Cd (kX n))
 | 0=>dv ⟨Tryz.f72,(we (fun _=>false)).1,(we (fun _=>false)).2.1,(we (fun _=>false)).2.2.1⟩ (fun _=>rfl)
 | n+1=>by
  refine zQ (E:=yl (kX n)) (we _) fun x hc C hC=>?_
  obtain ⟨⟨op,v,s,l⟩,u⟩:=x
  have hc:(decide (l.length≤1073741824)&&l.all (kX n))=true:=hc
  simp only [aL,ae] at hc
  refine zk (n0:=0) (qR (Aw n)) (we _) (fun id _=>hC id) (zcn _ op v s l) ?_
  refine da (by simpa using hc.1) ?_
  exact zbF (Aw n) hC op v s l hc.1 hc.2 _ 0 rfl (aV _)
def Ze:zF:=Cd (kX 16)
theorem Ui:FK 72 Ze:=Aw 16
open Go

def BO:AO→Bool
 | .box cs=>cs.all lH
 | _=>false

def Mt (pos:Nat) (s:Sh) (F:zF):zF:=fun args hp n=>match args[pos]? with
 | some (.ptr t 0)=>match hp t with
  | .box cs=>match cm hp s cs with
   | some (x,[])=>
    let az:=args.set pos (.eptr (zn s x) 0)
    let z:=t::cs.flatMap bw
    if (AV.idsL az).all (fun i=>(AV.idsL args).contains i&&(hp i).ids.isEmpty && !z.contains i)&&(cs.flatMap bw).all (fun i=>(hp t).ids.contains i) then
     (F az hp n).bind fun f=>if nQ f.val&&f.nw.isEmpty&&f.wr.all (fun p=>BO p.2) then .ok { f with val:=f.val.ren fun i=>i } else .err
    else .err
   | _=>.err
  | _=>.err
 | _=>.err

theorem J4 {P:Program} {gl:Nat→AV} {k:FuncId} {pos:Nat} {s:Sh} {F:zF} (h:mf P gl k F):mf P gl k (Mt pos s F):=by
  refine ⟨h.fn,?_⟩
  intro w U ρ hp n args vals f fp hv hr hub hgl hfp hin hcl hn
  unfold Mt at hv
  split at hv
  rotate_left
  · simp at hv
  rename_i t hpos
  split at hv
  rotate_left
  · simp at hv
  rename_i cs hbox
  split at hv
  rotate_left
  · simp at hv
  rename_i x himp
  dsimp only at hv
  split at hv
  rotate_left
  · simp at hv
  rename_i hcond
  simp only [aL,cX,List.contains_eq_mem,ae,Bool.not_eq_true',decide_eq_false_iff_not,List.isEmpty_iff] at hcond
  obtain ⟨hids,hvec⟩:=hcond
  rw [Tr.val_bind,eS] at hv
  obtain ⟨f0,hf0,hv⟩:=hv
  split at hv
  rotate_left
  · simp at hv
  rename_i hsc
  simp only [aL,List.isEmpty_iff,cX] at hsc
  obtain ⟨⟨hs1,hs2⟩,hs3⟩:=hsc
  simp only [Tr.val_ok,ao] at hv
  subst hv
  have hposl:pos < args.length:=(bM.1 hpos).1
  have htfp:t∈fp:=hin t (ff (iE hpos) (by simp [AV.ids]))
  have hvfp:∀ i∈cs.flatMap bw,i∈fp:=fun i hi=>hcl t htfp i (hvec i hi)
  have hzfp:∀ i∈t::cs.flatMap bw,i∈fp:=by
    intro i hi
    rcases cY.1 hi with rfl | hi
    · exact htfp
    · exact hvfp i hi
  generalize hz:t::cs.flatMap bw=z at hids hzfp
  generalize hU1:(fun b=>U b∧¬ ∃ j∈z,zO ρ j (hp j) b)=U1
  have hsub:∀ b,U1 b→U b:=by intro b hb; rw [← hU1] at hb; exact hb.1
  have hzU:∀ j∈z,∀ b,zO ρ j (hp j) b→¬ U1 b:=fun j hj b ho hb=>by rw [← hU1] at hb; exact hb.2 ⟨j,hj,ho⟩
  have hto:=hfp.ob t htfp
  rw [hbox] at hto
  obtain ⟨b,T,cells,e1,e2,e3,e4,e5⟩:=hto
  have htz:t∈z:=by rw [← hz]; exact ud
  have hbU:¬ U1 b:=hzU t htz b ⟨by rw [hbox]; rfl,_,e1,rfl⟩
  obtain ⟨i1,_,i3⟩:=gK (w:=w) (U:=U) (U':=U1) (ρ:=ρ) (hp:=hp) hsub s cs x [] (fun j=>(cells.toList[j]?).getD undef) himp
    (fun j c hj=>by
      have hlt:j < cells.toList.length:=by rw [← e4.len]; exact (bM.1 hj).1
      exact e4.rv j c _ hj (by simp [zJ hlt]))
    (fun id hid=>⟨hfp.ob id (hvfp id hid),fun b hb=>hzU id (by rw [← hz]; exact ms _ hid) b hb⟩)
  have hlen:(zn s x).length=cells.toList.length:=by rw [zN,← e4.len]; simpa using i1.symm
  have heptr:Rv w U1 ρ (.eptr (zn s x) 0) (.pointer (some ⟨b,0,none⟩)):=by
    refine .eptr (zn s x) 0 b 0 (fun j=>(cells.toList[j]?).getD undef) (hub b e2) hbU (fun j hj=>?_) (fun j hj=>?_) i3
    · rw [hlen] at hj
      unfold World.cell?
      simp only [ez,e3]
      rw [zJ hj]
      simp [gZ (show j < cells.size by simpa using hj)]
    · rw [hlen] at hj
      rw [zJ hj]
      exact e5 _ (dg hj)
  have hptr:∀ v,vals[pos]?=some v→v=.pointer (some ⟨b,0,none⟩):=by
    intro v hv'
    have:=hr.rv pos _ v hpos hv'
    cases this with
    | ptr _ _ b' h'=>
      rw [e1] at h'
      cases h'
      rfl
  have hr1:cK w U1 ρ (args.set pos (.eptr (zn s x) 0)) vals:=by
    refine ⟨by simp [hr.len],fun j c v hc hv'=>?_⟩
    rw [jJ] at hc
    by_cases hj:pos=j
    · subst hj
      rw [if_pos rfl,if_pos hposl] at hc
      cases hc
      rw [hptr v hv']
      exact heptr
    · rw [if_neg hj] at hc
      exact (hr.rv j c v hc hv').weak hsub
  have hown1:∀ i∈AV.idsL (args.set pos (.eptr (zn s x) 0)),∀ b,zO ρ i (hp i) b→U1 b:=by
    intro i hi b' ho
    obtain ⟨⟨hi1,_⟩,hi3⟩:=hids i hi
    have hifp:=hin i hi1
    rw [← hU1]
    refine ⟨((hfp.ob i hifp).inU ho).1,fun ⟨j,hj,ho'⟩=>?_⟩
    have:=hfp.inj i hifp j (hzfp j hj) b' ho ho'
    exact hi3 (this▸hj)
  obtain ⟨hc,hwr⟩:=h.calls w U1 ρ hp n _ vals f0 (AV.idsL (args.set pos (.eptr (zn s x) 0))) hf0 hr1 (fun b hb=>hub b (hsub b hb)) (fun g=>(hgl g).weak hsub)
    ⟨fun id hid=>(hfp.ob id (hin id (hids id hid).1.1)).mono (bd _) (fun _ _ _=>rfl) (fun b _ hb=>hsub b hb) (fun _ _ h=>h) (fun b ho=>⟨rfl,hown1 id hid b ho⟩),
     fun id1 h1 id2 h2 b o1 o2=>hfp.inj id1 (hin id1 (hids id1 h1).1.1) id2 (hin id2 (hids id2 h2).1.1) b o1 o2⟩ (fun _ h=>h)
    (fun id hid j hj=>by rw [(hids id hid).1.2] at hj; simp at hj) (fun j hj=>by rw [hs2] at hj; simp at hj)
  refine ⟨hc.mono ?_,fun id o hio=>hin id (hids id (hwr id o hio)).1.1⟩
  rintro e w' ⟨v,U1',ρ',rfl,hE⟩
  refine ⟨v,fun b=>U1' b∨(b < w.heap.size∧U b∧∃ j∈z,zO ρ j (hp j) b),ρ',rfl,⟨hE.ext,wT hs1 hE.val,fun id o hio=>?_,?_,hE.rho,hE.rhon,hE.same,?_,?_,?_,hE.own,hE.inj⟩⟩
  · have ho:=hE.wr id o hio
    have hsco:=hs3 _ hio
    cases o with
    | box cs'=>
      obtain ⟨b',T',vals',q1,q2,q3,q4,q5⟩:=ho
      refine ⟨b',T',vals',q1,.inl q2,q3,⟨q4.len,fun j c v' hc' hv''=>?_⟩,q5⟩
      have hcs:lH c=true:=by
        simp only [BO,cX] at hsco
        exact hsco c (iE hc')
      have h0:=q4.rv j c v' hc' hv''
      cases h0 <;> simp [lH] at hcs
      · exact .kb _
      · exact .bool _
      · exact .int _ _ ‹_›
      · exact .str _ ‹_›
      · exact .ifcN
      · exact .ifcS _ _
    | _=>simp [BO] at hsco
  · intro j o hj
    rw [hs2] at hj
    simp at hj
  · rintro b' (hb' | hb')
    · exact hE.ub b' hb'
    · exact lQ hb'.1 hE.ext.sz
  · rintro b' hlt (hb' | hb')
    · exact hsub b' (hE.u1 b' hlt hb')
    · exact hb'.2.1
  · intro b' hlt hb' hno
    by_cases hl:∃ j∈z,zO ρ j (hp j) b'
    · exact .inr ⟨hlt,hb',hl⟩
    · exact .inl (hE.u2 b' hlt (by rw [← hU1]; exact ⟨hb',hl⟩) hno)

noncomputable def A6:=K0.add 72 Ze
theorem sj:zl A6:=EV.add Ui
noncomputable def ZE:zF:=zU (List.replicate 3 none) (bZ A6 Tryz.f74 (List.replicate 3 none))
theorem UL:FK 74 ZE:=au _ sj (aQ (by kernel_rfl))
noncomputable def ZD:zF:=Mt 1 zx ZE
theorem UK:FK 74 ZD:=J4 UL

noncomputable def K1:=A6.add 74 ZD
theorem vg:zl K1:=sj.add UK
noncomputable section

abbrev zdu:Nat→ah:=fun j=>if j=5 then { slots:=[1,2,4,32,33,34] } else if j=14 then { slots:=[1,2,4,7,8,54,55,56],prom:=[(4,some 3,.int .i64)] } else if j=19 then { slots:=[2,4,7,8,70,71,72],prom:=[(4,some 4,zq)] } else { }
inductive nY where
 | h5 (i33:Int) (i34:Int) (z0:zu [CP.d zm]) (jb0:List UInt8) (jb2:Int) (jb5:List UInt8) (jb6:Int) (jb7:Int) (jb8:List UInt8) (jb9:List UInt8) (jc0:Sem Sh.str) (jc2:Int) (jc5:zo) (jc6:Int) (jc7:Int) (jc8:zo) (jc9:zo) (jc10:List (Sem Sh.expr)) (lh_3:List (Sem zi))
 | h14 (l54:List (Sem Sh.str)) (i55:Int) (i56:Int) (z0:zu [CP.d zm]) (jb0:List UInt8) (jb2:Int) (jb5:List UInt8) (jb6:Int) (jb7:Int) (jb8:List UInt8) (jb9:List UInt8) (jc0:Sem Sh.str) (jc2:Sem zg) (jc5:zo) (jc6:Int) (jc7:Int) (jc8:zo) (jc9:zo) (jc10:List (Sem Sh.expr)) (jd0:Int) (lh_4:List (Sem zi)) (lh_5:List (Sem zg))
 | h19 (l70:List (Sem (Sh.str.pr Sh.str))) (i71:Int) (i72:Int) (ja0:List UInt8) (ja2:Int) (ja5:List UInt8) (ja6:Int) (ja7:Int) (ja8:List UInt8) (ja9:List UInt8) (jb0:Sem Sh.str) (jb2:Sem zg) (jb5:zo) (jb6:Int) (jb7:Int) (jb8:zo) (jb9:zo) (jb10:List (Sem Sh.expr)) (jc0:Int) (lh_3:List (Sem zi)) (lh_4:List (Sem zg)) (lh_5:List (Sem zq))
abbrev zfY:nY→Nat×St
 | .h5 i33 i34 z0 jb0 jb2 jb5 jb6 jb7 jb8 jb9 jc0 jc2 jc5 jc6 jc7 jc8 jc9 jc10 lh_3=>(5,⟨tm 107 [(1,AV.ptr 0 0),(2,AV.ptr 1 0),(4,AV.ptr 2 0),(32,AV.vec 3),(33,AV.int .i64 i33),(34,AV.int .i64 i34)],[AO.box (bJ [] [CP.d zm] z0),AO.box [AV.str jb0,AV.nils,AV.int .i64 jb2,AV.nils,AV.nils,AV.str jb5,AV.int .i64 jb6,AV.int .i64 jb7,AV.str jb8,AV.str jb9,AV.nils],AO.box [AV.str jc0,AV.vec 3,AV.int .i64 jc2,AV.nils,AV.nils,AV.str jc5,AV.int .i64 jc6,AV.int .i64 jc7,AV.str jc8,AV.str jc9,AV.sl Sh.expr jc10],AO.vec zi lh_3]⟩)
 | .h14 l54 i55 i56 z0 jb0 jb2 jb5 jb6 jb7 jb8 jb9 jc0 jc2 jc5 jc6 jc7 jc8 jc9 jc10 jd0 lh_4 lh_5=>(14,⟨tm 107 [(1,AV.ptr 0 0),(2,AV.ptr 1 0),(4,AV.ptr 2 0),(7,AV.ptr 3 0),(8,AV.clo (Fn.func 74) [] [AV.ptr 2 0,AV.ptr 3 0]),(54,AV.sl Sh.str l54),(55,AV.int .i64 i55),(56,AV.int .i64 i56)],[AO.box (bJ [] [CP.d zm] z0),AO.box [AV.str jb0,AV.nils,AV.int .i64 jb2,AV.nils,AV.nils,AV.str jb5,AV.int .i64 jb6,AV.int .i64 jb7,AV.str jb8,AV.str jb9,AV.nils],AO.box [AV.str jc0,AV.vec 4,AV.int .i64 jc2,AV.vec 5,AV.nils,AV.str jc5,AV.int .i64 jc6,AV.int .i64 jc7,AV.str jc8,AV.str jc9,AV.sl Sh.expr jc10],AO.box [AV.int .i64 jd0],AO.vec zi lh_4,AO.vec zg lh_5]⟩)
 | .h19 l70 i71 i72 ja0 ja2 ja5 ja6 ja7 ja8 ja9 jb0 jb2 jb5 jb6 jb7 jb8 jb9 jb10 jc0 lh_3 lh_4 lh_5=>(19,⟨tm 107 [(2,AV.ptr 0 0),(4,AV.ptr 1 0),(7,AV.ptr 2 0),(8,AV.clo (Fn.func 74) [] [AV.ptr 1 0,AV.ptr 2 0]),(70,AV.sl (Sh.str.pr Sh.str) l70),(71,AV.int .i64 i71),(72,AV.int .i64 i72)],[AO.box [AV.str ja0,AV.nils,AV.int .i64 ja2,AV.nils,AV.nils,AV.str ja5,AV.int .i64 ja6,AV.int .i64 ja7,AV.str ja8,AV.str ja9,AV.nils],AO.box [AV.str jb0,AV.vec 3,AV.int .i64 jb2,AV.vec 4,AV.vec 5,AV.str jb5,AV.int .i64 jb6,AV.int .i64 jb7,AV.str jb8,AV.str jb9,AV.sl Sh.expr jb10],AO.box [AV.int .i64 jc0],AO.vec zi lh_3,AO.vec zg lh_4,AO.vec zq lh_5]⟩)
def Wh (x0:Sem zm):Tr (nY ⊕ aj):=
 let a0 := !x0.1==[99,114,101,97,116,101]
 let a1:=zE x0.2.2.2.2.2.2.2.2.1
 let a2:=(x0.1,x0.2.1,x0.2.2.1,x0.2.2.2.1,x0.2.2.2.2.1,x0.2.2.2.2.2.1,x0.2.2.2.2.2.2.1,x0.2.2.2.2.2.2.2.1,a1,x0.2.2.2.2.2.2.2.2.2.1,x0.2.2.2.2.2.2.2.2.2.2.1,zE x0.2.2.2.2.2.2.2.2.2.2.2.1,x0.2.2.2.2.2.2.2.2.2.2.2.2)
 Tr.chk (bif a0 then true else pc a2)
 (Tr.br (bif a0 then true else !eU a2)
  (Tr.re (AV.tup [AV.agg [AV.str [],AV.nils,AV.int .i64 0,AV.nils,AV.nils,AV.str [],AV.int .i64 0,AV.int .i64 0,AV.str [],AV.str [],AV.nils],AV.int .i64 1]) [])
  (Tr.chk (decide (length x0.2.2.2.2.1≤1073741824)) (Tr.chk (kX 16 a1) (Tr.to (nY.h5 (↑(length x0.2.2.2.2.1):Int) 0 (x0,()) [] 0 [] 0 0 [] [] x0.2.1 0 (ze.op x0.2.2.2.2.2.2.2.2.1) (ze.v x0.2.2.2.2.2.2.2.2.1).1 (ze.v x0.2.2.2.2.2.2.2.2.1).2.1 (ze.v x0.2.2.2.2.2.2.2.2.1).2.2 (ze.s x0.2.2.2.2.2.2.2.2.1) (ze.l x0.2.2.2.2.2.2.2.2.1) x0.2.2.2.2.1)))))
def m4:nY→Tr (nY ⊕ aj)
 | .h5 i33 i34 z0 jb0 jb2 jb5 jb6 jb7 jb8 jb9 jc0 jc2 jc5 jc6 jc7 jc8 jc9 jc10 lh_3=>
  let a0:=(jc0,lh_3,jc2,[],[],ze.mk jc5 (jc6,jc7,jc8) jc9 jc10)
  let a1:=lh_3.getD i34.toNat (zj zi)
  let a2:=gQ a0 z0.1.2.2.2.2.2.1
  let a3:=(↑(length z0.1.2.2.2.2.2.2.1):Int)
  Tr.br (decide (i34 < i33))
  (Tr.chk (zI i34 lh_3.length) (Tr.chk (decide (i34.toNat < lh_3.length)) (Tr.br (gQ a0 a1.1 != i34) (Tr.re (AV.tup [AV.agg [AV.str [],AV.nils,AV.int .i64 0,AV.nils,AV.nils,AV.str [],AV.int .i64 0,AV.int .i64 0,AV.str [],AV.str [],AV.nils],AV.int .i64 7]) []) (Tr.to
  (nY.h5 i33 (IntKind.i64.wrap (i34+1)) z0 jb0 jb2 jb5 jb6 jb7 jb8 jb9 jc0 jc2 jc5 jc6 jc7 jc8 jc9 jc10 lh_3)))))
  (Tr.br (decide (a2 < 0)) (Tr.to (nY.h14 z0.1.2.2.2.2.2.2.1 a3 0 z0 jb0 jb2 jb5 jb6 jb7 jb8 jb9 jc0 a2 jc5 jc6 jc7 jc8 jc9 jc10 4 lh_3 [])) (Tr.to (nY.h14 z0.1.2.2.2.2.2.2.1 a3 0 z0 jb0 jb2 jb5 jb6 jb7 jb8 jb9 jc0 a2 jc5 jc6 jc7 jc8 jc9 jc10 0 lh_3 [])))
 | .h14 l54 i55 i56 z0 jb0 jb2 jb5 jb6 jb7 jb8 jb9 jc0 jc2 jc5 jc6 jc7 jc8 jc9 jc10 jd0 lh_4 lh_5=>
  let a0:=gQ (jc0,lh_4,jc2,lh_5,[],ze.mk jc5 (jc6,jc7,jc8) jc9 jc10) (l54.getD i56.toNat (zj Sh.str))
  let a1:=[a0]
  let a2:=decide (lh_5.length+a1.length≤1073741824)
  let a3:=IntKind.i64.wrap (i56+1)
  let a4:=lh_5++a1
  Tr.br (decide (i56 < i55))
  (Tr.chk (zI i56 l54.length) (Tr.br (decide (a0 < 0)) (Tr.chk a2 (Tr.to (nY.h14 l54 i55 a3 z0 jb0 jb2 jb5 jb6 jb7 jb8 jb9 jc0 jc2 jc5 jc6 jc7 jc8 jc9 jc10 4 lh_4 a4))) (Tr.chk a2 (Tr.to (nY.h14 l54 i55 a3 z0 jb0 jb2 jb5 jb6 jb7 jb8 jb9 jc0 jc2 jc5 jc6 jc7 jc8 jc9 jc10 jd0 lh_4 a4)))))
  (Tr.to (nY.h19 z0.1.2.2.2.2.2.2.2.1 (↑(length z0.1.2.2.2.2.2.2.2.1):Int) 0 jb0 jb2 jb5 jb6 jb7 jb8 jb9 jc0 jc2 jc5 jc6 jc7 jc8 jc9 jc10 jd0 lh_4 lh_5 []))
 | .h19 l70 i71 i72 ja0 ja2 ja5 ja6 ja7 ja8 ja9 jb0 jb2 jb5 jb6 jb7 jb8 jb9 jb10 jc0 lh_3 lh_4 lh_5=>
  let a0:=ze.mk jb5 (jb6,jb7,jb8) jb9 jb10
  let a1:=l70.getD i72.toNat (zj (Sh.str.pr Sh.str))
  let a2:=gQ (jb0,lh_3,jb2,lh_4,lh_5,a0) a1.1
  let a3:=[(a2,a1.2)]
  let a4:=decide (lh_5.length+a3.length≤1073741824)
  let a5:=IntKind.i64.wrap (i72+1)
  let a6:=lh_5++a3
  let a7:=fC a0 lh_3
  let a8:=lh_3.getD (toNat jb2) (zj zi)
  Tr.br (decide (i72 < i71))
  (Tr.chk (zI i72 l70.length) (Tr.br (decide (a2 < 0)) (Tr.chk a4 (Tr.to (nY.h19 l70 i71 a5 ja0 ja2 ja5 ja6 ja7 ja8 ja9 jb0 jb2 jb5 jb6 jb7 jb8 jb9 jb10 4 lh_3 lh_4 a6))) (Tr.chk a4 (Tr.to (nY.h19 l70 i71 a5 ja0 ja2 ja5 ja6 ja7 ja8 ja9 jb0 jb2 jb5 jb6 jb7 jb8 jb9 jb10 jc0 lh_3 lh_4 a6)))))
  (Tr.br (jc0==0) (Tr.br (a7 != 0) (Tr.re (AV.tup [AV.agg [AV.str [],AV.nils,AV.int .i64 0,AV.nils,AV.nils,AV.str [],AV.int .i64 0,AV.int .i64 0,AV.str [],AV.str [],AV.nils],AV.int .i64 a7]) []) (Tr.chk (zI jb2 lh_3.length) (Tr.chk (decide (toNat jb2 < lh_3.length)) (Tr.re (AV.tup [AV.agg
  [AV.str jb0,AV.vec 0,AV.int .i64 jb2,AV.vec 1,AV.vec 2,AV.str jb5,AV.int .i64 jb6,AV.int .i64 jb7,AV.str jb8,AV.str jb9,AV.sl Sh.expr jb10],AV.int .i64 0]) [AO.vec zi (lh_3.set (toNat jb2) (a8.1,a8.2.1,true)),AO.vec zg lh_4,AO.vec zq lh_5])))) (Tr.br (jc0 != 0) (Tr.re (AV.tup [AV.agg
  [AV.str [],AV.nils,AV.int .i64 0,AV.nils,AV.nils,AV.str [],AV.int .i64 0,AV.int .i64 0,AV.str [],AV.str [],AV.nils],AV.int .i64 jc0]) []) (Tr.chk (zI jb2 lh_3.length) (Tr.chk (decide (toNat jb2 < lh_3.length)) (Tr.re (AV.tup [AV.agg [AV.str jb0,AV.vec 0,AV.int .i64 jb2,AV.vec 1,AV.vec 2,AV.str jb5,AV.int .i64 jb6,AV.int .i64 jb7,
  AV.str jb8,AV.str jb9,AV.sl Sh.expr jb10],AV.int .i64 0]) [AO.vec zi (lh_3.set (toNat jb2) (a8.1,a8.2.1,true)),AO.vec zg lh_4,AO.vec zq lh_5])))))
def Jw (x0:Sem zm):=zW [zx,zg] m4 100000000 (Wh x0)
def XW (x0:Sem zm):=(Jw x0).isSome
def sOf (x0:Sem zm):=o2 (Jw x0)
def Zi:=FT [zm] [zx,zg] fun x=>Jw x.1
theorem Un:FK 38 Zi:=vg.T1 (f:=Tryz.f38) (keep:=zdu) (e:=zfY)

def K2:=K1.add 38 Zi
theorem vj:zl K2:=vg.add Un
end

noncomputable def LD (x0:Sem ag):Tr (Empty ⊕ aj):=
 let a0:=(x0.2.1,x0.2.2.1,x0.2.2.2.1,x0.2.2.2.2.1,x0.2.2.2.2.2.1,x0.2.2.2.2.2.2.1,x0.2.2.2.2.2.2.2.1,x0.2.2.2.2.2.2.2.2.1,zE x0.2.2.2.2.2.2.2.2.2.1,x0.2.2.2.2.2.2.2.2.2.2.1,x0.2.2.2.2.2.2.2.2.2.2.2.1,zE x0.2.2.2.2.2.2.2.2.2.2.2.2.1,x0.2.2.2.2.2.2.2.2.2.2.2.2.2)
 let a1:=sOf a0
 let a2:=bS a1.2
 let a3:=zR x0.1 a1.1.1
 let a4:=((a1.1.1,a1.1.2.1,a1.1.2.2.1,a1.1.2.2.2.1,a1.1.2.2.2.2.1,zE a1.1.2.2.2.2.2),[])
 let a5:=jP x0.1 a4
 let a6:=kv a5 1
 Tr.chk (XW a0)
 (Tr.br (a1.2 != 0)
  (Tr.chk (oL a1.2) (Tr.re (AV.tup [AV.sl zh a2.1,AV.agg [AV.int .i64 a2.2.1,AV.int .i64 a2.2.2.1,AV.sl zf.sl a2.2.2.2]]) []))
  (Tr.br (decide (a3 ≥ 0)) (Tr.chk true (Tr.re (AV.tup [AV.sl zh (bS 7).1,AV.agg [AV.int .i64 (bS 7).2.1,AV.int .i64 (bS 7).2.2.1,AV.sl zf.sl (bS 7).2.2.2]]) [])) (Tr.br (decide ((↑(length x0.1):Int) ≥ 12)) (Tr.chk true (Tr.re (AV.tup [AV.sl zh (bS 13).1,AV.agg [AV.int .i64 (bS 13).2.1,AV.int .i64 (bS 13).2.2.1,AV.sl zf.sl (bS 13).2.2.2]]) []))
  (Tr.chk (jm x0.1 a4) (Tr.chk (gA a5 1) (Tr.re (AV.tup [AV.sl zh a6.1,AV.agg [AV.int .i64 a6.2.1,AV.int .i64 a6.2.2.1,AV.sl zf.sl a6.2.2.2]]) []))))))
noncomputable def dW (x0:Sem ag):=zW [zh.sl,cB] t0 100000000 (LD x0)
noncomputable def ux (x0:Sem ag):=(dW x0).isSome
noncomputable def AL (x0:Sem ag):=o2 (dW x0)
noncomputable def YZ:=FT [ag] [zh.sl,cB] fun x=>dW x.1
theorem TY:FK 17 YZ:=vj.T1 (f:=Tryz.f17) (keep:=k0) (e:=e0)

noncomputable def K3:=K2.add 17 YZ
theorem vl:zl K3:=vj.add TY
noncomputable section

abbrev WL:=lz [(2,[0,1,7,8])]
inductive xV where
 | h2 (l0:List (Sem zg)) (i1:Sem zg) (i7:Int) (i8:Int)
abbrev zb2:xV→Nat×St
 | .h2 l0 i1 i7 i8=>(2,⟨tm 19 [(0,AV.sl zg l0),(1,AV.int .i64 i1),(7,AV.int .i64 i7),(8,AV.int .i64 i8)],[]⟩)
def Sy (x0:Sem zg.sl) (x1:Sem zg):Tr (xV ⊕ aj):=
 Tr.to (xV.h2 x0 x1 (↑(length x0):Int) 0)
def D9:xV→Tr (xV ⊕ aj)
 | .h2 l0 i1 i7 i8=>
  Tr.br (decide (i8 < i7))
  (Tr.chk (zI i8 l0.length) (Tr.br (i1==l0.getD i8.toNat (zj zg)) (Tr.re (AV.int .i64 i8) []) (Tr.to (xV.h2 l0 i1 i7 (IntKind.i64.wrap (i8+1))))))
  (Tr.re (AV.int .i64 (-1)) [])
def P7 (x0:Sem zg.sl) (x1:Sem zg):=zW [zg] D9 100000000 (Sy x0 x1)
def Wt (x0:Sem zg.sl) (x1:Sem zg):=(P7 x0 x1).isSome
def ixI (x0:Sem zg.sl) (x1:Sem zg):=o1 (P7 x0 x1)
def Rg:=FT [zg.sl,zg] [zg] fun x=>P7 x.1 x.2.1
theorem OI:FK 135 Rg:=vl.T1 (f:=Tryz.f135) (keep:=WL) (e:=zb2)

def K8:=K3.add 135 Rg
theorem vA:zl K8:=vl.add OI
end

noncomputable def zdc (x0:Sem zg.sl) (x1:Sem zg):Tr (Empty ⊕ aj):=
 Tr.chk (Wt x0 x1) (Tr.re (AV.bool (decide (ixI x0 x1 ≥ 0))) [])
noncomputable def Dm (x0:Sem zg.sl) (x1:Sem zg):=zW [Sh.bool] t0 100000000 (zdc x0 x1)
noncomputable def Lp (x0:Sem zg.sl) (x1:Sem zg):=(Dm x0 x1).isSome
noncomputable def Wa (x0:Sem zg.sl) (x1:Sem zg):=o1 (Dm x0 x1)
noncomputable def ZQ:=FT [zg.sl,zg] [Sh.bool] fun x=>Dm x.1 x.2.1
theorem UY:FK 82 ZQ:=vA.T1 (f:=Tryz.f82) (keep:=k0) (e:=e0)

noncomputable def K9:=K8.add 82 ZQ
theorem vB:zl K9:=vA.add UY
noncomputable section

abbrev zdv:Nat→ah:=fun j=>if j=3 then { slots:=[3,6,14,15,16],prom:=[(6,none,.int .i64)] } else { }
inductive Ie where
 | h3 (l14:List (Sem (Sh.str.pr Sh.expr))) (i15:Int) (i16:Int) (z0:zu [CP.d zx]) (lh_1:List (Sem zg))
abbrev zfZ:Ie→Nat×St
 | .h3 l14 i15 i16 z0 lh_1=>(3,⟨tm 58 [(3,AV.ptr 0 0),(6,AV.vec 1),(14,AV.sl (Sh.str.pr Sh.expr) l14),(15,AV.int .i64 i15),(16,AV.int .i64 i16)],[AO.box (bJ [] [CP.d zx] z0),AO.vec zg lh_1]⟩)
def zhi (x0:Sem ag) (x1:Sem zx):Tr (Ie ⊕ aj):=
 Tr.to (Ie.h3 x0.2.2.2.2.2.2.2.2.2.2.2.1 (↑(length x0.2.2.2.2.2.2.2.2.2.2.2.1):Int) 0 (x1,()) [])
def xP:Ie→Tr (Ie ⊕ aj)
 | .h3 l14 i15 i16 z0 lh_1=>
  let a0:=l14.getD i16.toNat (zj (Sh.str.pr Sh.expr))
  let a1:=gQ (z0.1.1,z0.1.2.1,z0.1.2.2.1,z0.1.2.2.2.1,z0.1.2.2.2.2.1,zE z0.1.2.2.2.2.2) a0.1
  let a2:=bg (zE a0.2) z0.1.2.1
  let a3:=getD z0.1.2.1 (toNat a1) (zj zi)
  let a4:=[a1]
  Tr.br (decide (i16 < i15))
  (Tr.chk (zI i16 l14.length) (Tr.br (decide (a1 < 0)) (Tr.re (AV.tup [AV.nils,AV.int .i64 4]) []) (Tr.chk (Lp lh_1 a1) (Tr.br (Wa lh_1 a1) (Tr.re (AV.tup [AV.nils,AV.int .i64 7]) []) (Tr.br (a2.2 != 0) (Tr.re (AV.tup [AV.nils,AV.int .i64 a2.2]) []) (Tr.chk (zI a1 (length z0.1.2.1)) (Tr.br (bif a2.1 != a3.2.1 then a2.1 != 0 else false) (Tr.re (AV.tup [AV.nils,AV.int .i64 5]) [])
  (Tr.chk (decide (lh_1.length+a4.length≤1073741824)) (Tr.to (Ie.h3 l14 i15 (IntKind.i64.wrap (i16+1)) z0 (lh_1++a4)))))))))))
  (Tr.re (AV.tup [AV.vec 0,AV.int .i64 0]) [AO.vec zg lh_1])
def AQ (x0:Sem ag) (x1:Sem zx):=zW [zg.sl,zg] xP 100000000 (zhi x0 x1)
def EK (x0:Sem ag) (x1:Sem zx):=(AQ x0 x1).isSome
def Ks (x0:Sem ag) (x1:Sem zx):=o2 (AQ x0 x1)
def Zq:=FT [ag,zx] [zg.sl,zg] fun x=>AQ x.1 x.2.1
theorem Uv:FK 46 Zq:=vB.T1 (f:=Tryz.f46) (keep:=zdv) (e:=zfZ)

def EY:=K9.add 46 Zq
theorem lq:zl EY:=vB.add Uv
end
noncomputable section
def VF:bt:={ EY with nest:=true }
theorem EZ:zl VF:=⟨⟨lq.sh⟩,lq.fs,lq.mix⟩

abbrev zdn:Nat→ah:=fun j=>if j=13 then { slots:=[1,3,5,6,8,9,61,62,63],fill:=[9] } else if j=19 then { slots:=[1,3,5,6,8,9,10,11,61,62,63,88,89,90] } else { }
inductive Az where
 | h13 (l6:List (Sem zg)) (l61:List (Sem zf.sl)) (i62:Int) (i63:Int) (z0:zu [CP.d ag]) (z2:zu [CP.d zh]) (jb0:Int) (jb1:Int) (mh_3:List ((Int×Int×zo)×Int)) (lh_4:List (Sem zf.sl))
 | h19 (l6:List (Sem zg)) (i10:Int) (l11:List (Sem zf)) (l61:List (Sem zf.sl)) (i62:Int) (i63:Int) (l88:List (Sem (Sh.str.pr Sh.expr))) (i89:Int) (i90:Int) (z0:zu [CP.d ag]) (z2:zu [CP.d zh]) (jb0:Int) (jb1:Int) (mh_3:List ((Int×Int×zo)×Int)) (lh_4:List (Sem zf.sl)) (jh_4:Nat) (lh_5:List (Sem zf))
abbrev zfU:Az→Nat×St
 | .h13 l6 l61 i62 i63 z0 z2 jb0 jb1 mh_3 lh_4=>(13,⟨tm 123 [(1,AV.ptr 0 0),(3,AV.ptr 1 0),(5,AV.ptr 2 0),(6,AV.sl zg l6),(8,AV.mp 3),(9,AV.vec 4),(61,AV.sl zf.sl l61),(62,AV.int .i64 i62),(63,AV.int .i64 i63)],[AO.box (bJ [] [CP.d ag] z0),AO.box [AV.int .i64 jb0,AV.int .i64 jb1,AV.nils],AO.box (bJ [] [CP.d zh] z2),AO.vmap true mh_3,AO.vec zf.sl lh_4]⟩)
 | .h19 l6 i10 l11 l61 i62 i63 l88 i89 i90 z0 z2 jb0 jb1 mh_3 lh_4 jh_4 lh_5=>(19,⟨tm 123 [(1,AV.ptr 0 0),(3,AV.ptr 1 0),(5,AV.ptr 2 0),(6,AV.sl zg l6),(8,AV.mp 3),(9,AV.vec 4),(10,AV.int .i64 i10),(11,AV.sl zf l11),(61,AV.sl zf.sl l61),(62,AV.int .i64 i62),(63,AV.int .i64 i63),(88,AV.sl (Sh.str.pr Sh.expr) l88),(89,AV.int .i64 i89),(90,AV.int .i64 i90)],[AO.box (bJ [] [CP.d ag] z0),AO.box [AV.int .i64 jb0,AV.int .i64 jb1,AV.nils],AO.box (bJ [] [CP.d zh] z2),AO.vmap true mh_3,AO.hol zf lh_4 jh_4 5,AO.vec zf lh_5]⟩)
def IY (x0:Sem ag):Tr (Az ⊕ aj):=
 let a0:=zR x0.1 x0.2.2.1
 let a1:=(x0.1,x0.2.1,x0.2.2.1,x0.2.2.2.1,x0.2.2.2.2.1,x0.2.2.2.2.2.1,x0.2.2.2.2.2.2.1,x0.2.2.2.2.2.2.2.1,x0.2.2.2.2.2.2.2.2.1,zE x0.2.2.2.2.2.2.2.2.2.1,x0.2.2.2.2.2.2.2.2.2.2.1,x0.2.2.2.2.2.2.2.2.2.2.2.1,zE x0.2.2.2.2.2.2.2.2.2.2.2.2.1,x0.2.2.2.2.2.2.2.2.2.2.2.2.2)
 let a2:=getD x0.1 (toNat a0) (zj zh)
 let a3:=(a2.1.1,a2.1.2.1,a2.1.2.2.1,a2.1.2.2.2.1,a2.1.2.2.2.2.1,zE a2.1.2.2.2.2.2)
 let a4:=Ks a1 a3
 let a5:=bS a4.2
 let a6:=(a3,a2.2)
 let a7:=mV a1 a6
 let a8:=bS a7.2
 Tr.br (decide (a0 < 0))
 (Tr.chk true
  (Tr.re (AV.tup [AV.sl zh (bS 6).1,AV.agg [AV.int .i64 (bS 6).2.1,AV.int .i64 (bS 6).2.2.1,AV.sl zf.sl (bS 6).2.2.2]]) []))
 (Tr.chk (zI a0 (length x0.1))
  (Tr.chk (EK a1 a3) (Tr.br (a4.2 != 0) (Tr.chk (oL a4.2) (Tr.re (AV.tup [AV.sl zh a5.1,AV.agg [AV.int .i64 a5.2.1,AV.int .i64 a5.2.2.1,AV.sl zf.sl a5.2.2.2]]) [])) (Tr.chk (mO a1 a6).isSome (Tr.br (a7.2 != 0) (Tr.chk (oL a7.2) (Tr.re (AV.tup [AV.sl zh a8.1,AV.agg [AV.int .i64 a8.2.1,AV.int .i64 a8.2.2.1,AV.sl zf.sl a8.2.2.2]]) []))
  (Tr.chk (decide (length a2.2≤1073741824)) (Tr.to (Az.h13 a4.1 a2.2 (↑(length a2.2):Int) 0 (x0,()) (a2,()) 0 0 a7.1 a2.2))))))))
def BV:Az→Tr (Az ⊕ aj)
 | .h13 l6 l61 i62 i63 z0 z2 jb0 jb1 mh_3 lh_4=>
  let a0:=l61.getD i63.toNat (zj zf.sl)
  let a1:=(z0.1.1,z0.1.2.1,z0.1.2.2.1,z0.1.2.2.2.1,z0.1.2.2.2.2.1,z0.1.2.2.2.2.2.1,z0.1.2.2.2.2.2.2.1,z0.1.2.2.2.2.2.2.2.1,z0.1.2.2.2.2.2.2.2.2.1,zE z0.1.2.2.2.2.2.2.2.2.2.1,z0.1.2.2.2.2.2.2.2.2.2.2.1,z0.1.2.2.2.2.2.2.2.2.2.2.2.1,zE z0.1.2.2.2.2.2.2.2.2.2.2.2.2.1,z0.1.2.2.2.2.2.2.2.2.2.2.2.2.2)
  let a2:=((z2.1.1.1,z2.1.1.2.1,z2.1.1.2.2.1,z2.1.1.2.2.2.1,z2.1.1.2.2.2.2.1,zE z2.1.1.2.2.2.2.2),lh_4)
  let a3:=nj a1 a2 (↑mh_3.length:Int)
  Tr.br (decide (i63 < i62))
  (Tr.chk (zI i63 l61.length) (Tr.chk (zI z2.1.1.2.2.1 (length a0)) (Tr.br (!fN mh_3 (getD a0 (toNat z2.1.1.2.2.1) (zj zf))) (Tr.to (Az.h13 l6 l61 i62 (IntKind.i64.wrap (i63+1)) z0 z2 jb0 jb1 mh_3 lh_4)) (Tr.chk (decide (length a0≤1073741824)) (Tr.chk (zI i63 lh_4.length) (Tr.chk (decide (i63.toNat < lh_4.length)) (Tr.to
  (Az.h19 l6 i63 a0 l61 i62 i63 z0.1.2.2.2.2.2.2.2.2.2.2.2.1 (↑(length z0.1.2.2.2.2.2.2.2.2.2.2.2.1):Int) 0 z0 z2 jb0 jb1 mh_3 lh_4 i63.toNat a0))))))))
  (Tr.chk (decide (mh_3.length≤1073741824)) (Tr.chk (kr a1 a2 (↑mh_3.length:Int)) (Tr.re (AV.tup [AV.sl zh a3.1,AV.agg [AV.int .i64 a3.2.1,AV.int .i64 a3.2.2.1,AV.sl zf.sl a3.2.2.2]]) [])))
 | .h19 l6 i10 l11 l61 i62 i63 l88 i89 i90 z0 z2 jb0 jb1 mh_3 lh_4 jh_4 lh_5=>
  let a0:=l6.getD i90.toNat (zj zg)
  let a1:=l88.getD i90.toNat (zj (Sh.str.pr Sh.expr))
  Tr.br (decide (i90 < i89))
  (Tr.chk (zI i90 l88.length) (Tr.chk (zI i10 lh_4.length) (Tr.chk (decide (i10.toNat=jh_4)) (Tr.chk (zI i90 l6.length) (Tr.chk (zI a0 lh_5.length) (Tr.chk (decide (toNat a0 < lh_5.length)) (Tr.to (Az.h19 l6 i10 l11 l61 i62 i63 l88 i89 (IntKind.i64.wrap (i90+1)) z0 z2 jb0 jb1 mh_3 lh_4 jh_4 (lh_5.set (toNat a0) (hZ (zE a1.2) z2.1.1.2.1 l11))))))))))
  (Tr.to (Az.h13 l6 l61 i62 (IntKind.i64.wrap (i63+1)) z0 z2 jb0 jb1 mh_3 (lh_4.set jh_4 lh_5)))
def fQ (x0:Sem ag):=zW [zh.sl,cB] BV 100000000 (IY x0)
def uB (x0:Sem ag):=(fQ x0).isSome
def AR (x0:Sem ag):=o2 (fQ x0)
def Y3:=FT [ag] [zh.sl,cB] fun x=>fQ x.1
theorem T5:FK 20 Y3:=EZ.T1 (f:=Tryz.f20) (keep:=zdn) (e:=zfU)

end
noncomputable def E1:=EY.add 20 Y3
theorem vC:zl E1:=lq.add T5

noncomputable def ZN:zF:=zU (List.replicate 2 none) (bZ E1 Tryz.f80 (List.replicate 2 none))
theorem UV:FK 80 ZN:=au _ vC (aQ (by kernel_rfl))

noncomputable def vn:=E1.add 80 ZN
theorem vo:zl vn:=vC.add UV

abbrev SI:=lz [(2,[0,1,7,8])]
inductive Id where
 | h2 (i7:Int) (i8:Int) (lh_0:List (Sem zh)) (jb0:zo)
abbrev Kz:Id→Nat×St
 | .h2 i7 i8 lh_0 jb0=>(2,⟨tm 19 [(0,AV.vec 0),(1,AV.clo (Fn.func 80) [] [AV.ptr 1 0]),(7,AV.int .i64 i7),(8,AV.int .i64 i8)],[AO.vec zh lh_0,AO.box [AV.str jb0]]⟩)
theorem zd4:zA vn.P 36 Tryz.f36 2:=aQ (by kernel_rfl)
noncomputable def zc9 (l:List (Sem zh)) (n:zo):Tr (Id ⊕ aj):=
 Tr.to (Id.h2 (↑l.length:Int) 0 l n)
theorem zco (l:List (Sem zh)) (n:zo):rn vn 2 SI Tryz.f36 [AV.vec 0,AV.clo (Fn.func 80) [] [AV.ptr 1 0]] [AO.vec zh l,AO.box [AV.str n]]=(zc9 l n).map (lf Tryz.f36 Kz):=by kernel_rfl
noncomputable def NZ:Id→Tr (Id ⊕ aj)
 | .h2 i7 i8 lh_0 jb0=>
  let a0:=lh_0.getD i8.toNat (zj zh)
  Tr.br (decide (i8 < i7))
  (Tr.chk (zI i8 lh_0.length) (Tr.chk (decide (i8.toNat < lh_0.length)) (Tr.br (a0.1.1==jb0) (Tr.re (AV.int .i64 i8) [AO.vec zh lh_0,AO.box [AV.str jb0]]) (Tr.to (Id.h2 i7 (IntKind.i64.wrap (i8+1)) lh_0 jb0)))))
  (Tr.re (AV.int .i64 (-1)) [AO.vec zh lh_0,AO.box [AV.str jb0]])
theorem zeQ:∀ s,run vn 2 SI (Func.results Tryz.f36).toList 400 (zy Tryz.f36 (Kz s).1) (Kz s).2=(NZ s).map (lf Tryz.f36 Kz):=by intro s; cases s <;> kernel_rfl
abbrev I8 (n:zo):Sem zh→Bool:=fun y=>y.1.1==n
theorem Wv (l:List (Sem zh)) (s:zo) (hl:l.length≤1000000):∀ (m i n:Nat),l.length - i=m→i≤l.length→m < n→
  bl NZ n (.h2 (l.length:Int) (i:Int) l s)=some (.int .i64 (zL (I8 s) (l.drop i) i),[AO.vec zh l,AO.box [AV.str s]]):=by
 intro m
 induction m with
 | zero=>
  intro i n hm hi hn
  obtain rfl:i=l.length:=by omega
  obtain ⟨n,rfl⟩:∃ k,n=k+1:=⟨n - 1,by omega⟩
  rw [bl]
  simp only [NZ,Tr.val,zX,cL]
  rfl
 | succ m IH=>
  intro i n hm hi hn
  have hlt:i < l.length:=by omega
  have h2:decide ((i:Int).toNat < l.length)=true:=by simpa using hlt
  obtain ⟨n,rfl⟩:∃ k,n=k+1:=⟨n - 1,by omega⟩
  rw [bl,dw hlt]
  simp only [NZ,Tr.val,zT hlt,zB hlt,h2,ac l _ hlt,zD i (by unfold zC; omega),if_true,zL]
  by_cases h:I8 s l[i]=true
  ·have h':(l[i].1.1==s)=true:=h
   rw [h]
   simp only [h',if_true]
  ·have h':¬ (l[i].1.1==s)=true:=h
   rw [if_neg h',Bool.eq_false_iff.2 h]
   exact IH (i+1) n (by omega) (by omega) (by omega)
def zbr:cF [none,none]:=fun a h=>match a,h with
 | (.vec 0,.clo (.func 80) [] [.ptr 1 0],_),[.vec FC l,.box [.str s]]=>.chk (decide (length l≤1000000)) (.ok (.int .i64 (zL (I8 s) l 0),[.vec zh l,.box [.str s]]))
 | _,_=>.err
def Zh:zF:=zU [none,none] zbr
theorem Ul:FK 36 Zh:=by
 refine fk (ι:=List (Sem zh)×zo) (args:=fun _=>[AV.vec 0,AV.clo (Fn.func 80) [] [AV.ptr 1 0]]) (heap:=fun y=>[AO.vec zh y.1,AO.box [AV.str y.2]]) (i:=fun y=>zc9 y.1 y.2) (t:=NZ) (e:=Kz) (n:=100000000) (n0:=2) vo zd4 (fun _=>rfl) (fun y=>zco _ _) zeQ (fun a h res hv=>?_)
 unfold zbr at hv
 split at hv
 ·rename_i u l s
  simp only [Tr.val] at hv
  split at hv
  ·rename_i h1
   simp only [ao] at hv
   subst hv
   have h1:length l≤1000000:=fb h1
   have:=Wv l s h1 l.length 0 100000000 rfl (aV _) (by omega)
   rw [List.drop_zero] at this
   exact ⟨(l,s),rfl,rfl,this⟩
  ·cases hv
 ·simp at hv

noncomputable def vp:=vn.add 36 Zh
theorem vq:zl vp:=vo.add Ul

abbrev SN:=lz [(5,[0,1,5,6])]
inductive Ep where
 | h5 (i5:Int) (i6:Int) (lh_0:List (Sem zh)) (jb0:zo)
abbrev KF:Ep→Nat×St
 | .h5 i5 i6 lh_0 jb0=>(5,⟨tm 42 [(0,AV.vec 0),(1,AV.clo (Fn.func 80) [] [AV.ptr 1 0]),(5,AV.int .i64 i5),(6,AV.int .i64 i6)],[AO.vec zh lh_0,AO.box [AV.str jb0]]⟩)
theorem zez:zA vp.P 79 Tryz.f79 2:=aQ (by kernel_rfl)
noncomputable def P4 (l:List (Sem zh)) (n:zo):Tr (Ep ⊕ aj):=
 let a0:=zL (I8 n) l 0
 Tr.chk (decide (l.length≤1000000))
 (Tr.br (a0==-1)
  (Tr.re (AV.vec 0) [AO.vec zh l,AO.box [AV.str n]])
  (Tr.to (Ep.h5 a0 (IntKind.i64.wrap (a0+1)) l n)))
theorem zcB (l:List (Sem zh)) (n:zo):rn vp 2 SN Tryz.f79 [AV.vec 0,AV.clo (Fn.func 80) [] [AV.ptr 1 0]] [AO.vec zh l,AO.box [AV.str n]]=(P4 l n).map (lf Tryz.f79 KF):=by kernel_rfl
noncomputable def JE:Ep→Tr (Ep ⊕ aj)
 | .h5 i5 i6 lh_0 jb0=>
  let a0:=lh_0.getD i6.toNat (zj zh)
  let a1:=IntKind.i64.wrap (i6+1)
  let a2:=decide (0≤i5)
  let a3:=List.take i5.toNat lh_0++List.replicate (lh_0.length - i5.toNat) (([],[],0,[],[],ze.mk [] (0,0,[]) [] []),[])
  let a4:=(↑a3.length:Int)
  Tr.br (decide (i6 < (↑lh_0.length:Int)))
  (Tr.chk (zI i6 lh_0.length) (Tr.chk (decide (i6.toNat < lh_0.length)) (Tr.br (!a0.1.1==jb0) (Tr.chk (zI i5 lh_0.length) (Tr.chk (decide (i5.toNat < lh_0.length)) (Tr.to (Ep.h5 (IntKind.i64.wrap (i5+1)) a1 (lh_0.set i5.toNat ((a0.1.1,a0.1.2.1,a0.1.2.2.1,a0.1.2.2.2.1,a0.1.2.2.2.2.1,zE a0.1.2.2.2.2.2),a0.2)) jb0)))) (Tr.to (Ep.h5 i5 a1 lh_0 jb0)))))
  (Tr.chk (a2&&decide (i5≤(↑lh_0.length:Int))) (Tr.chk (decide (i5.toNat≤lh_0.length)) (Tr.chk (decide (0≤0)&&a2&&decide (i5≤a4)) (Tr.re (AV.sl zh (List.take (i5.toNat - toNat 0) (List.drop (toNat 0) a3))) [AO.frz zh a3,AO.box [AV.str jb0]]))))
theorem ze0:∀ s,run vp 2 SN (Func.results Tryz.f79).toList 400 (zy Tryz.f79 (KF s).1) (KF s).2=(JE s).map (lf Tryz.f79 KF):=by intro s; cases s <;> kernel_rfl
noncomputable def R9 (l:List (Sem zh)) (n:zo):=bh JE 100000000 (P4 l n)

def bx (db:List (Sem zh)) (n:zo):List (Sem zh):=db.filter fun y => !(y.1.1==n)
abbrev QN:Sem zh:=(([],[],0,[],[],ze.mk [] (0,0,[]) [] []),[])
abbrev QM (s:zo) (l:List (Sem zh)):List (Sem zh):=bx l s++List.replicate (l.length - (bx l s).length) QN
def zft (s:zo) (l:List (Sem zh)):List AO:=[AO.frz zh (QM s l),AO.box [AV.str s]]
theorem PH (l:List (Sem zh)) (s:zo) (hl:l.length≤1000000):∀ (m i6 i5 n:Nat) (cur:List (Sem zh)),l.length - i6=m→i6≤l.length→i5≤i6→cur.length=l.length→
  cur.take i5=bx (l.take i6) s→cur.drop i6=l.drop i6→m < n→
  bl JE n (.h5 (i5:Int) (i6:Int) cur s)=some (.sl zh (bx l s),zft s l):=by
 intro m
 induction m with
 | zero=>
  intro i6 i5 n cur hm' hi h5 hcl ht hd hn
  obtain rfl:i6=l.length:=by omega
  obtain ⟨n,rfl⟩:∃ k,n=k+1:=⟨n - 1,by omega⟩
  rw [List.take_length] at ht
  have hlen5:(bx l s).length=i5:=by rw [← ht,rW]; omega
  have e1:decide ((l.length:Int) < (cur.length:Int))=false:=by rw [hcl]; simp
  have e2:(decide ((0:Int)≤(i5:Int))&&decide ((i5:Int)≤(cur.length:Int)))=true:=by simp; omega
  have e3:decide ((i5:Int).toNat≤cur.length)=true:=by simp; omega
  have e4:(decide ((0:Int)≤0)&&decide ((0:Int)≤(i5:Int))&&decide ((i5:Int)≤((List.take (i5:Int).toNat cur++List.replicate (cur.length - (i5:Int).toNat) QN).length:Int)))=true:=by simp; omega
  rw [bl]
  simp only [JE,Tr.val,e1,e2,e3,if_true,zH,if_false]
  have e5:List.take ((i5:Int).toNat - toNat 0) (List.drop (toNat 0) (List.take (i5:Int).toNat cur++List.replicate (cur.length - (i5:Int).toNat) QN))=bx l s:=by
   simp only [aT,Int.toNat_zero,List.drop_zero,Nat.sub_zero]
   rw [List.take_append_of_le_length (by simp; omega),List.take_take,Nat.min_self,ht]
  have e6:List.take (i5:Int).toNat cur++List.replicate (cur.length - (i5:Int).toNat) QN=QM s l:=by
   simp only [aT]
   rw [ht,hcl]
   unfold QM
   rw [hlen5]
  rw [if_pos (by simp; omega),e5,e6]
  rfl
 | succ m IH=>
  intro i6 i5 n cur hm' hi h5 hcl ht hd hn
  obtain ⟨n,rfl⟩:∃ k,n=k+1:=⟨n - 1,by omega⟩
  have hlt:i6 < l.length:=by omega
  have hltc:i6 < cur.length:=by omega
  have h5c:i5 < cur.length:=by omega
  have hc6:cur[i6]=l[i6]:=by
   have:=congrArg (·[0]?) hd
   simp only [jI,oh] at this
   rw [zJ hltc,zJ hlt] at this
   exact Option.some.inj this
  have h2:decide ((i6:Int).toNat < cur.length)=true:=by simpa using hltc
  have h3:decide ((i5:Int).toNat < cur.length)=true:=by simpa using h5c
  have ht6:bx (l.take (i6+1)) s=bx (l.take i6) s++(if (l[i6].1.1==s)=true then [] else [l[i6]]):=by
   unfold bx
   rw [Aq hlt,List.filter_append]
   cases hq:(l[i6].1.1==s) <;> simp [hq]
  have hd6:cur.drop (i6+1)=l.drop (i6+1):=by
   have:=congrArg (List.drop 1) hd
   simpa [List.drop_drop,po] using this
  rw [bl]
  simp only [JE,Tr.val,zp,Prod.eta,zT hltc,zB hltc,zB h5c,h2,h3,ac cur _ hltc,hc6,zD i6 (by unfold zC; omega),zD i5 (by unfold zC; omega),if_true]
  cases hk:(l[i6].1.1==s) with
  | true=>
   simp only [fG,zH,if_false]
   refine IH (i6+1) i5 n cur (by omega) (by omega) (by omega) hcl ?_ hd6 (by omega)
   rw [ht6,hk,if_pos rfl,jL,ht]
  | false=>
   simp only [pn,if_true]
   refine IH (i6+1) (i5+1) n _ (by omega) (by omega) (by omega) (by simpa using hcl) ?_ ?_ (by omega)
   ·rw [ht6,hk,if_neg (by simp),← ht]
    simp only [aT]
    rw [Aq (by simpa using h5c)]
    simp [List.take_set_of_le]
   ·simp only [aT]
    rw [List.drop_set_of_lt (by omega)]
    exact hd6
theorem Kx (l:List (Sem zh)) (s:zo) (hl:l.length≤1000000):
  R9 l s=some (if zL (I8 s) l 0==-1 then (.vec 0,[AO.vec zh l,AO.box [AV.str s]]) else (.sl zh (bx l s),zft s l)):=by
 have h0:decide (l.length≤1000000)=true:=ay hl
 unfold R9 bh P4
 simp only [Tr.val,h0,if_true]
 by_cases h1:(zL (I8 s) l 0==-1)=true
 ·simp only [h1,if_true]
 ·rw [if_neg h1,if_neg h1]
  rcases cn (I8 s) l 0 with ⟨h2,_⟩ | ⟨k,hk',h2,h3,h4⟩
  ·exfalso; apply h1; rw [h2]; rfl
  ·rw [h2,ez,zD k (by unfold zC; omega)]
   refine PH l s hl (l.length - (k+1)) (k+1) k 100000000 l rfl (by omega) (by omega) rfl ?_ rfl (by omega)
   unfold bx
   rw [Aq hk',List.filter_append,List.filter_cons_of_neg (by simpa using h3),List.filter_nil,jL]
   refine (List.filter_eq_self.2 fun y hy=>?_).symm
   have:=h4 y hy
   show (!I8 s y)=true
   rw [this]; rfl
def zbw:cF [none,none]:=fun a h=>match a,h with
 | (.vec 0,.clo (.func 80) [] [.ptr 1 0],_),[.vec FC l,.box [.str s]]=>.chk (decide (length l≤1000000)) (.br (zL (I8 s) l 0==-1)
   (.ok (.vec 0,[.vec zh l,.box [.str s]]))
   (.ok (.sl zh (bx l s),[.frz zh (QM s l),.box [.str s]])))
 | _,_=>.err
def ZL:zF:=zU [none,none] zbw
theorem UT:FK 79 ZL:=by
 refine fk (ι:=List (Sem zh)×zo) (args:=fun _=>[AV.vec 0,AV.clo (Fn.func 80) [] [AV.ptr 1 0]]) (heap:=fun y=>[AO.vec zh y.1,AO.box [AV.str y.2]]) (i:=fun y=>P4 y.1 y.2) (t:=JE) (e:=KF) (n:=100000000) (n0:=2) vq zez (fun _=>rfl) (fun y=>zcB _ _) ze0 (fun a h res hv=>?_)
 unfold zbw at hv
 split at hv
 ·rename_i u l s
  simp only [Tr.val] at hv
  split at hv
  ·rename_i h1
   refine ⟨(l,s),rfl,rfl,(Kx l s (fb h1)).trans ?_⟩
   split at hv
   ·rename_i h3
    rw [if_pos h3]
    exact hv
   ·rename_i h3
    rw [if_neg h3]
    exact hv
  ·cases hv
 ·simp at hv

noncomputable def K5:=vp.add 79 ZL
theorem vt:zl K5:=vq.add UT

noncomputable def Wk (x0:Sem zh.sl) (x1:Sem Sh.str):Tr (Empty ⊕ aj):=
 Tr.chk (decide (length x0≤1073741824))
 (Tr.chk (decide (length x0≤1000000))
  (Tr.br (zL (I8 x1) x0 0==-1) (Tr.re (AV.vec 0) [AO.vec zh x0]) (Tr.re (AV.sl zh (bx x0 x1)) [])))
noncomputable def uC (x0:Sem zh.sl) (x1:Sem Sh.str):=zW [zh.sl] t0 100000000 (Wk x0 x1)
noncomputable def EM (x0:Sem zh.sl) (x1:Sem Sh.str):=(uC x0 x1).isSome
noncomputable def Ku (x0:Sem zh.sl) (x1:Sem Sh.str):=o1 (uC x0 x1)
noncomputable def Zo:=FT [zh.sl,Sh.str] [zh.sl] fun x=>uC x.1 x.2.1
theorem Ut:FK 42 Zo:=vt.T1 (f:=Tryz.f42) (keep:=k0) (e:=e0)

noncomputable def K6:=K5.add 42 Zo
theorem vu:zl K6:=vt.add Ut

noncomputable def Wb (x0:Sem ag):Tr (Empty ⊕ aj):=
 let a0:=zR x0.1 x0.2.2.1
 let a1:=Ku x0.1 x0.2.2.1
 let a2:=kv a1 1
 Tr.br (decide (a0 < 0))
 (Tr.chk true
  (Tr.re (AV.tup [AV.sl zh (bS 6).1,AV.agg [AV.int .i64 (bS 6).2.1,AV.int .i64 (bS 6).2.2.1,AV.sl zf.sl (bS 6).2.2.2]]) []))
 (Tr.chk (EM x0.1 x0.2.2.1)
  (Tr.chk (gA a1 1) (Tr.re (AV.tup [AV.sl zh a2.1,AV.agg [AV.int .i64 a2.2.1,AV.int .i64 a2.2.2.1,AV.sl zf.sl a2.2.2.2]]) [])))
noncomputable def mw (x0:Sem ag):=zW [zh.sl,cB] t0 100000000 (Wb x0)
noncomputable def EF (x0:Sem ag):=(mw x0).isSome
noncomputable def Kq (x0:Sem ag):=o2 (mw x0)
noncomputable def Y0:=FT [ag] [zh.sl,cB] fun x=>mw x.1
theorem TZ:FK 18 Y0:=vu.T1 (f:=Tryz.f18) (keep:=k0) (e:=e0)

noncomputable def K7:=K6.add 18 Y0
theorem vw:zl K7:=vu.add TZ

noncomputable def Oa (x0:Sem zh.sl) (x1:Sem zm):Tr (Empty ⊕ aj):=
 let a0:=(x1.1,x1.2.1,x1.2.2.1,x1.2.2.2.1,x1.2.2.2.2.1,x1.2.2.2.2.2.1,x1.2.2.2.2.2.2.1,x1.2.2.2.2.2.2.2.1,zE x1.2.2.2.2.2.2.2.2.1,x1.2.2.2.2.2.2.2.2.2.1,x1.2.2.2.2.2.2.2.2.2.2.1,zE x1.2.2.2.2.2.2.2.2.2.2.2.1,x1.2.2.2.2.2.2.2.2.2.2.2.2)
 let a1 := !eU a0
 let a2:=pc a0&&bif a1 then true else lg x0
 let a3:=bif a1 then true else fx x0 != 0
 let a4:=(x0,a0)
 let a5:=AL a4
 let a6:=Kq a4
 let a7:=AM a4
 let a8:=AR a4
 let a9:=AP a4
 let a10:=AJ a4
 Tr.chk true
 (Tr.chk true
  (Tr.chk true (Tr.chk true (Tr.chk true (Tr.chk true (Tr.br (x1.1==[99,114,101,97,116,101]) (Tr.chk a2 (Tr.br a3 (Tr.re (AV.tup [AV.sl zh x0,AV.agg [AV.int .i64 1,AV.int .i64 0,AV.nils]]) []) (Tr.chk (ux a4) (Tr.br (a5.2.1 != 0) (Tr.re (AV.tup [AV.sl zh x0,AV.agg [AV.int .i64 a5.2.1,AV.int .i64 a5.2.2.1,AV.sl zf.sl a5.2.2.2]]) []) (Tr.re (AV.tup [AV.sl zh a5.1,
  AV.agg [AV.int .i64 a5.2.1,AV.int .i64 a5.2.2.1,AV.sl zf.sl a5.2.2.2]]) []))))) (Tr.br (x1.1==[100,114,111,112]) (Tr.chk a2 (Tr.br a3 (Tr.re (AV.tup [AV.sl zh x0,AV.agg [AV.int .i64 1,AV.int .i64 0,AV.nils]]) []) (Tr.chk (EF a4) (Tr.br (a6.2.1 != 0) (Tr.re (AV.tup [AV.sl zh x0,AV.agg [AV.int .i64 a6.2.1,AV.int .i64 a6.2.2.1,AV.sl zf.sl a6.2.2.2]]) []) (Tr.re
  (AV.tup [AV.sl zh a6.1,AV.agg [AV.int .i64 a6.2.1,AV.int .i64 a6.2.2.1,AV.sl zf.sl a6.2.2.2]]) []))))) (Tr.br (x1.1==[105,110,115,101,114,116]) (Tr.chk a2 (Tr.br a3 (Tr.re (AV.tup [AV.sl zh x0,AV.agg [AV.int .i64 1,AV.int .i64 0,AV.nils]]) []) (Tr.chk (uy a4) (Tr.br (a7.2.1 != 0) (Tr.re (AV.tup [AV.sl zh x0,AV.agg [AV.int .i64 a7.2.1,AV.int .i64 a7.2.2.1,
  AV.sl zf.sl a7.2.2.2]]) []) (Tr.re (AV.tup [AV.sl zh a7.1,AV.agg [AV.int .i64 a7.2.1,AV.int .i64 a7.2.2.1,AV.sl zf.sl a7.2.2.2]]) []))))) (Tr.br (x1.1==[117,112,100,97,116,101]) (Tr.chk a2 (Tr.br a3 (Tr.re (AV.tup [AV.sl zh x0,AV.agg [AV.int .i64 1,AV.int .i64 0,AV.nils]]) []) (Tr.chk (uB a4) (Tr.br (a8.2.1 != 0) (Tr.re (AV.tup [AV.sl zh x0,AV.agg
  [AV.int .i64 a8.2.1,AV.int .i64 a8.2.2.1,AV.sl zf.sl a8.2.2.2]]) []) (Tr.re (AV.tup [AV.sl zh a8.1,AV.agg [AV.int .i64 a8.2.1,AV.int .i64 a8.2.2.1,AV.sl zf.sl a8.2.2.2]]) []))))) (Tr.br (x1.1==[100,101,108,101,116,101]) (Tr.chk a2 (Tr.br a3 (Tr.re (AV.tup [AV.sl zh x0,AV.agg [AV.int .i64 1,AV.int .i64 0,AV.nils]]) []) (Tr.chk (uA a4) (Tr.br (a9.2.1 != 0) (Tr.re
  (AV.tup [AV.sl zh x0,AV.agg [AV.int .i64 a9.2.1,AV.int .i64 a9.2.2.1,AV.sl zf.sl a9.2.2.2]]) []) (Tr.re (AV.tup [AV.sl zh a9.1,AV.agg [AV.int .i64 a9.2.1,AV.int .i64 a9.2.2.1,AV.sl zf.sl a9.2.2.2]]) []))))) (Tr.br (x1.1==[115,101,108,101,99,116]) (Tr.chk a2 (Tr.br a3 (Tr.re (AV.tup [AV.sl zh x0,AV.agg [AV.int .i64 1,AV.int .i64 0,AV.nils]]) [])
  (Tr.chk (uw a4) (Tr.br (a10.2.1 != 0) (Tr.re (AV.tup [AV.sl zh x0,AV.agg [AV.int .i64 a10.2.1,AV.int .i64 a10.2.2.1,AV.sl zf.sl a10.2.2.2]]) []) (Tr.re (AV.tup [AV.sl zh a10.1,AV.agg [AV.int .i64 a10.2.1,AV.int .i64 a10.2.2.1,AV.sl zf.sl a10.2.2.2]]) []))))) (Tr.re (AV.tup [AV.sl zh x0,AV.agg [AV.int .i64 1,AV.int .i64 0,AV.nils]]) []))))))))))))
noncomputable def jk (x0:Sem zh.sl) (x1:Sem zm):=zW [zh.sl,cB] t0 100000000 (Oa x0 x1)
noncomputable def Kg (x0:Sem zh.sl) (x1:Sem zm):=(jk x0 x1).isSome
noncomputable def yi (x0:Sem zh.sl) (x1:Sem zm):=o2 (jk x0 x1)
noncomputable def F9w:=FT [zh.sl,zm] [zh.sl,cB] fun x=>jk x.1 x.2.1
theorem zbi:FK 9 F9w:=vw.T1 (f:=Tryz.f9) (keep:=k0) (e:=e0)

noncomputable def K4:=K7.add 9 F9w
theorem EW:zl K4:=vw.add zbi
end Cad
