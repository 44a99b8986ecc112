/- The document's writer. The document's statements: texts. The document's reader: numbers. The document's reader: atoms. The document's reader: atoms. -/
import Derived.Test.YtiefilkilbdpgaaGreatDoorN15
import Derived.Test.YtiefilkilbdpgaaGreatDoorN12
namespace Cad
open Go Go.Proofs
open Int (toNat)
open List (getD)
open List (length)
noncomputable section
set_option maxHeartbeats 4000000
abbrev zcv:List CP:=[.d .str,.d .str,.d .str,.nil,.nil,.d .str,.nil,.nil,.d .str,.d zg,.d zg,.d .str,.d .str,.nil,.d (.sl zf),.nil,.d .str,.d zg,.d zg,.d .str,.d .str,.nil,.d .str]
abbrev zcw:List CP:=[.d .str,.d .str,.d .str,.nil,.nil,.d .str,.nil,.nil,.d .str,.d zg,.d zg,.d .str,.d .str,.nil,.nil,.d (.sl aN),.d .expr,.d .str]

abbrev zen:=mn [(15,[1,3,5,12,13]),(27,[1,3,5,8,9,14,15])]
inductive xV where
 | h15 (s12:List UInt8) (i13:Int) (z0:zu mz) (z1:zu eT) (z2:zu zcv)
 | h27 (s8:TS) (b9:Sem Sh.bool) (s14:List UInt8) (i15:Int) (z0:zu mz) (z1:zu eT) (z2:zu zcw)
abbrev zgN:xV→Nat×St
 | .h15 s12 i13 z0 z1 z2=>(15,⟨tm 430 [(1,AV.ptr 0 0),(3,AV.ptr 1 0),(5,AV.ptr 2 0),(12,AV.str s12),(13,AV.int .i64 i13)],[AO.box (bK [] mz z0),AO.box (bK [] eT z1),AO.box (bK [] zcv z2)]⟩)
 | .h27 s8 b9 s14 i15 z0 z1 z2=>(27,⟨tm 430 [(1,AV.ptr 0 0),(3,AV.ptr 1 0),(5,AV.ptr 2 0),(8,AV.str s8),(9,AV.bool b9),(14,AV.str s14),(15,AV.int .i64 i15)],[AO.box (bK [] mz z0),AO.box (bK [] eT z1),AO.box (bK [] zcw z2)]⟩)
def zh4 (x0:Sem zo):Tr (xV ⊕ ao):=
 let a0:=zE x0.2.2.2.2.2.2.2.2.1
 let a1:=zE x0.2.2.2.2.2.2.2.2.2.2.2.1
 let a2:=(x0.1,x0.2.1,x0.2.2.1,x0.2.2.2.1,x0.2.2.2.2.1,x0.2.2.2.2.2.1,x0.2.2.2.2.2.2.1,x0.2.2.2.2.2.2.2.1,a0,x0.2.2.2.2.2.2.2.2.2.1,x0.2.2.2.2.2.2.2.2.2.2.1,a1,x0.2.2.2.2.2.2.2.2.2.2.2.2)
 let a3:=N5 a2
 let a4:=GM a1 [87,72,69,82,69]
 let a5:=[68,69,76,69,84,69,32,70,82,79,77,32]++x0.2.1
 let a6:=[83,69,76,69,67,84,32,42,32,70,82,79,77,32]++x0.2.1
 let a7:=[77,73,71,82,65,84,69,32,67,79,80,89,32]++x0.2.1
 let a8:=a7++[32,70,82,79,77,32]
 let a9:=a8++x0.2.2.1
 let a10:=a9++[32,40,32]
 let a11:=Re x0.2.2.2.1
 let a12:=a10++a11.1
 let a13:=a12++[32,41]
 let a14:=GM a0 []
 let a15:=eX x0.2.2.1
 let a16:=gU x0.2.2.1
 let a17:=[77,73,71,82,65,84,69,32,74,79,73,78,32]++x0.2.1
 let a18:=a17++[32,70,82,79,77,32]
 let a19:=a18++x0.2.2.1
 let a20:=a19++[32,44,32]
 let a21:=a20++x0.2.2.2.2.2.2.2.2.2.2.2.2
 let a22:=a21++[32,79,78,32]
 let a23:=a22++x0.2.2.2.2.2.1
 let a24:=eX x0.2.2.2.2.2.2.2.2.2.2.2.2
 let a25:=gU x0.2.2.2.2.2.2.2.2.2.2.2.2
 let a26:=[77,73,71,82,65,84,69,32,71,82,79,85,80,32]++x0.2.1
 let a27:=a26++[32,70,82,79,77,32]
 let a28:=a27++x0.2.2.1
 let a29:=zI 0 (length x0.2.2.2.1)
 let a30:=a28++[32,66,89,32]
 let a31:=getD x0.2.2.2.1 (toNat 0) (zj Sh.str)
 let a32:=a30++a31
 let a33:=zI 1 (length x0.2.2.2.1)
 let a34:=a32++[32,83,85,77,32]
 let a35:=getD x0.2.2.2.1 (toNat 1) (zj Sh.str)
 let a36:=a34++a35
 let a37:=[71,82,65,78,84,32,82,69,65,68,32,79,78,32]++x0.2.1
 let a38:=a37++[32,84,79,32]
 let a39:=[71,82,65,78,84,32,87,82,73,84,69,32,79,78,32]++x0.2.1
 let a40:=a39++[32,84,79,32]
 let a41:=[82,69,86,79,75,69,32,82,69,65,68,32,79,78,32]++x0.2.1
 let a42:=a41++[32,70,82,79,77,32]
 let a43:=[82,69,86,79,75,69,32,87,82,73,84,69,32,79,78,32]++x0.2.1
 let a44:=a43++[32,70,82,79,77,32]
 Tr.chk (Cf a0 [])
 (Tr.chk (Cf a1 [87,72,69,82,69])
  (Tr.br (x0.1==[99,114,101,97,116,101]) (Tr.chk (J7 a2) (Tr.re (AV.tup [AV.str a3.1,AV.agg [AV.str x0.1,AV.str x0.2.1,AV.str [],AV.nils,AV.sl zi x0.2.2.2.2.1,AV.str x0.2.2.2.2.2.1,AV.sl Sh.str x0.2.2.2.2.2.2.1,AV.sl (Sh.str.pr Sh.str) x0.2.2.2.2.2.2.2.1,AV.str (ze.op x0.2.2.2.2.2.2.2.2.1),AV.int .i64 (ze.v x0.2.2.2.2.2.2.2.2.1).1,
  AV.int .i64 (ze.v x0.2.2.2.2.2.2.2.2.1).2.1,AV.str (ze.v x0.2.2.2.2.2.2.2.2.1).2.2,AV.str (ze.s x0.2.2.2.2.2.2.2.2.1),AV.sl Sh.expr (ze.l x0.2.2.2.2.2.2.2.2.1),AV.nils,AV.nils,AV.str [],AV.int .i64 0,AV.int .i64 0,AV.str [],AV.str [],AV.nils,AV.str []],AV.bool a3.2]) [])) (Tr.br (x0.1==[100,114,111,112])
  (Tr.chk (decide ([68,82,79,80,32,84,65,66,76,69,32].length+length x0.2.1≤1099511627776)) (Tr.re (AV.tup [AV.str ([68,82,79,80,32,84,65,66,76,69,32]++x0.2.1),AV.agg [AV.str x0.1,AV.str x0.2.1,AV.str [],AV.nils,AV.nils,AV.str [],AV.nils,AV.nils,AV.str [],AV.int .i64 0,
  AV.int .i64 0,AV.str [],AV.str [],AV.nils,AV.nils,AV.nils,AV.str [],AV.int .i64 0,AV.int .i64 0,AV.str [],AV.str [],AV.nils,AV.str []],AV.kb true]) [])) (Tr.br (x0.1==[105,110,115,101,114,116]) (Tr.to (xV.h15 [] 0 (x0,()) ([],[],[],[],[],0,0,[],[],[],0,0,[],[],[],())
  (x0.1,x0.2.1,[],[],[],0,0,[],[],x0.2.2.2.2.2.2.2.2.2.1,[],0,0,[],[],[],()))) (Tr.br (x0.1==[117,112,100,97,116,101]) (Tr.to (xV.h27 a4.1 a4.2 [] 0 (x0,()) ([],[],[],[],[],0,0,[],[],[],0,0,[],[],[],()) (x0.1,x0.2.1,[],[],[],0,0,[],[],x0.2.2.2.2.2.2.2.2.2.2.1,x0.2.2.2.2.2.2.2.2.2.2.2.1,[],()))) (Tr.br (x0.1==[100,101,108,101,116,101])
  (Tr.chk (decide ([68,69,76,69,84,69,32,70,82,79,77,32].length+length x0.2.1≤1099511627776)) (Tr.chk (decide (length a5+length a4.1≤1099511627776)) (Tr.re (AV.tup [AV.str (a5++a4.1),AV.agg [AV.str x0.1,AV.str x0.2.1,AV.str [],AV.nils,AV.nils,AV.str [],AV.nils,AV.nils,AV.str [],AV.int .i64 0,
  AV.int .i64 0,AV.str [],AV.str [],AV.nils,AV.nils,AV.nils,AV.str (ze.op x0.2.2.2.2.2.2.2.2.2.2.2.1),AV.int .i64 (ze.v x0.2.2.2.2.2.2.2.2.2.2.2.1).1,AV.int .i64 (ze.v x0.2.2.2.2.2.2.2.2.2.2.2.1).2.1,AV.str (ze.v x0.2.2.2.2.2.2.2.2.2.2.2.1).2.2,AV.str (ze.s x0.2.2.2.2.2.2.2.2.2.2.2.1),AV.sl Sh.expr (ze.l x0.2.2.2.2.2.2.2.2.2.2.2.1),AV.str []],AV.bool a4.2]) [])))
  (Tr.br (x0.1==[115,101,108,101,99,116]) (Tr.chk (decide ([83,69,76,69,67,84,32,42,32,70,82,79,77,32].length+length x0.2.1≤1099511627776)) (Tr.chk (decide (length a6+length a4.1≤1099511627776)) (Tr.re (AV.tup [AV.str (a6++a4.1),AV.agg [AV.str x0.1,AV.str x0.2.1,AV.str [],AV.nils,AV.nils,AV.str [],AV.nils,AV.nils,AV.str [],AV.int .i64 0,
  AV.int .i64 0,AV.str [],AV.str [],AV.nils,AV.nils,AV.nils,AV.str (ze.op x0.2.2.2.2.2.2.2.2.2.2.2.1),AV.int .i64 (ze.v x0.2.2.2.2.2.2.2.2.2.2.2.1).1,AV.int .i64 (ze.v x0.2.2.2.2.2.2.2.2.2.2.2.1).2.1,AV.str (ze.v x0.2.2.2.2.2.2.2.2.2.2.2.1).2.2,AV.str (ze.s x0.2.2.2.2.2.2.2.2.2.2.2.1),AV.sl Sh.expr (ze.l x0.2.2.2.2.2.2.2.2.2.2.2.1),AV.str []],AV.bool a4.2]) [])))
  (Tr.br (x0.1==[99,111,112,121]) (Tr.chk (Oe x0.2.2.2.1) (Tr.chk (decide ([77,73,71,82,65,84,69,32,67,79,80,89,32].length+length x0.2.1≤1099511627776)) (Tr.chk (decide (length a7+[32,70,82,79,77,32].length≤1099511627776)) (Tr.chk (decide (length a8+length x0.2.2.1≤1099511627776))
  (Tr.chk (decide (length a9+[32,40,32].length≤1099511627776)) (Tr.chk (decide (length a10+length a11.1≤1099511627776)) (Tr.chk (decide (length a12+[32,41].length≤1099511627776)) (Tr.chk (decide (length a13+length a14.1≤1099511627776)) (Tr.br a11.2 (Tr.br a14.2 (Tr.chk a15 (Tr.re (AV.tup [AV.str (a13++a14.1),AV.agg
  [AV.str x0.1,AV.str x0.2.1,AV.str x0.2.2.1,AV.sl Sh.str x0.2.2.2.1,AV.nils,AV.str [],AV.nils,AV.nils,AV.str (ze.op x0.2.2.2.2.2.2.2.2.1),AV.int .i64 (ze.v x0.2.2.2.2.2.2.2.2.1).1,AV.int .i64 (ze.v x0.2.2.2.2.2.2.2.2.1).2.1,AV.str (ze.v x0.2.2.2.2.2.2.2.2.1).2.2,AV.str (ze.s x0.2.2.2.2.2.2.2.2.1),
  AV.sl Sh.expr (ze.l x0.2.2.2.2.2.2.2.2.1),AV.nils,AV.nils,AV.str [],AV.int .i64 0,AV.int .i64 0,AV.str [],AV.str [],AV.nils,AV.str []],AV.bool a16]) [])) (Tr.re (AV.tup [AV.str (a13++a14.1),AV.agg [AV.str x0.1,AV.str x0.2.1,AV.str x0.2.2.1,AV.sl Sh.str x0.2.2.2.1,AV.nils,AV.str [],AV.nils,AV.nils,AV.str (ze.op x0.2.2.2.2.2.2.2.2.1),
  AV.int .i64 (ze.v x0.2.2.2.2.2.2.2.2.1).1,AV.int .i64 (ze.v x0.2.2.2.2.2.2.2.2.1).2.1,AV.str (ze.v x0.2.2.2.2.2.2.2.2.1).2.2,AV.str (ze.s x0.2.2.2.2.2.2.2.2.1),AV.sl Sh.expr (ze.l x0.2.2.2.2.2.2.2.2.1),AV.nils,AV.nils,AV.str [],AV.int .i64 0,AV.int .i64 0,AV.str [],AV.str [],AV.nils,AV.str []],AV.kb false]) [])) (Tr.re (AV.tup [AV.str (a13++a14.1),AV.agg
  [AV.str x0.1,AV.str x0.2.1,AV.str x0.2.2.1,AV.sl Sh.str x0.2.2.2.1,AV.nils,AV.str [],AV.nils,AV.nils,AV.str (ze.op x0.2.2.2.2.2.2.2.2.1),AV.int .i64 (ze.v x0.2.2.2.2.2.2.2.2.1).1,AV.int .i64 (ze.v x0.2.2.2.2.2.2.2.2.1).2.1,AV.str (ze.v x0.2.2.2.2.2.2.2.2.1).2.2,AV.str (ze.s x0.2.2.2.2.2.2.2.2.1),
  AV.sl Sh.expr (ze.l x0.2.2.2.2.2.2.2.2.1),AV.nils,AV.nils,AV.str [],AV.int .i64 0,AV.int .i64 0,AV.str [],AV.str [],AV.nils,AV.str []],AV.kb false]) [])))))))))) (Tr.br (x0.1==[106,111,105,110]) (Tr.chk (decide ([77,73,71,82,65,84,69,32,74,79,73,78,32].length+length x0.2.1≤1099511627776))
  (Tr.chk (decide (length a17+[32,70,82,79,77,32].length≤1099511627776)) (Tr.chk (decide (length a18+length x0.2.2.1≤1099511627776)) (Tr.chk (decide (length a19+[32,44,32].length≤1099511627776)) (Tr.chk (decide (length a20+length x0.2.2.2.2.2.2.2.2.2.2.2.2≤1099511627776))
  (Tr.chk (decide (length a21+[32,79,78,32].length≤1099511627776)) (Tr.chk (decide (length a22+length x0.2.2.2.2.2.1≤1099511627776)) (Tr.chk (decide (length a23+length a14.1≤1099511627776)) (Tr.br a14.2 (Tr.chk a15 (Tr.br a16 (Tr.chk a24 (Tr.br a25 (Tr.chk (eX x0.2.2.2.2.2.1) (Tr.re (AV.tup [AV.str (a23++a14.1),AV.agg
  [AV.str x0.1,AV.str x0.2.1,AV.str x0.2.2.1,AV.nils,AV.nils,AV.str x0.2.2.2.2.2.1,AV.nils,AV.nils,AV.str (ze.op x0.2.2.2.2.2.2.2.2.1),AV.int .i64 (ze.v x0.2.2.2.2.2.2.2.2.1).1,AV.int .i64 (ze.v x0.2.2.2.2.2.2.2.2.1).2.1,AV.str (ze.v x0.2.2.2.2.2.2.2.2.1).2.2,AV.str (ze.s x0.2.2.2.2.2.2.2.2.1),AV.sl Sh.expr (ze.l x0.2.2.2.2.2.2.2.2.1),AV.nils,AV.nils,AV.str [],
  AV.int .i64 0,AV.int .i64 0,AV.str [],AV.str [],AV.nils,AV.str x0.2.2.2.2.2.2.2.2.2.2.2.2],AV.bool (gU x0.2.2.2.2.2.1)]) [])) (Tr.re (AV.tup [AV.str (a23++a14.1),AV.agg [AV.str x0.1,AV.str x0.2.1,AV.str x0.2.2.1,AV.nils,AV.nils,AV.str x0.2.2.2.2.2.1,AV.nils,AV.nils,AV.str (ze.op x0.2.2.2.2.2.2.2.2.1),AV.int .i64 (ze.v x0.2.2.2.2.2.2.2.2.1).1,
  AV.int .i64 (ze.v x0.2.2.2.2.2.2.2.2.1).2.1,AV.str (ze.v x0.2.2.2.2.2.2.2.2.1).2.2,AV.str (ze.s x0.2.2.2.2.2.2.2.2.1),AV.sl Sh.expr (ze.l x0.2.2.2.2.2.2.2.2.1),AV.nils,AV.nils,AV.str [],AV.int .i64 0,AV.int .i64 0,AV.str [],AV.str [],AV.nils,AV.str x0.2.2.2.2.2.2.2.2.2.2.2.2],AV.kb false]) []))) (Tr.re (AV.tup [AV.str (a23++a14.1),AV.agg
  [AV.str x0.1,AV.str x0.2.1,AV.str x0.2.2.1,AV.nils,AV.nils,AV.str x0.2.2.2.2.2.1,AV.nils,AV.nils,AV.str (ze.op x0.2.2.2.2.2.2.2.2.1),AV.int .i64 (ze.v x0.2.2.2.2.2.2.2.2.1).1,AV.int .i64 (ze.v x0.2.2.2.2.2.2.2.2.1).2.1,AV.str (ze.v x0.2.2.2.2.2.2.2.2.1).2.2,AV.str (ze.s x0.2.2.2.2.2.2.2.2.1),AV.sl Sh.expr (ze.l x0.2.2.2.2.2.2.2.2.1),AV.nils,AV.nils,AV.str [],
  AV.int .i64 0,AV.int .i64 0,AV.str [],AV.str [],AV.nils,AV.str x0.2.2.2.2.2.2.2.2.2.2.2.2],AV.kb false]) []))) (Tr.re (AV.tup [AV.str (a23++a14.1),AV.agg [AV.str x0.1,AV.str x0.2.1,AV.str x0.2.2.1,AV.nils,AV.nils,AV.str x0.2.2.2.2.2.1,AV.nils,AV.nils,AV.str (ze.op x0.2.2.2.2.2.2.2.2.1),AV.int .i64 (ze.v x0.2.2.2.2.2.2.2.2.1).1,
  AV.int .i64 (ze.v x0.2.2.2.2.2.2.2.2.1).2.1,AV.str (ze.v x0.2.2.2.2.2.2.2.2.1).2.2,AV.str (ze.s x0.2.2.2.2.2.2.2.2.1),AV.sl Sh.expr (ze.l x0.2.2.2.2.2.2.2.2.1),AV.nils,AV.nils,AV.str [],AV.int .i64 0,AV.int .i64 0,AV.str [],AV.str [],AV.nils,AV.str x0.2.2.2.2.2.2.2.2.2.2.2.2],AV.kb false]) [])))))))))) (Tr.br (x0.1==[103,114,111,117,112])
  (Tr.br ((↑(length x0.2.2.2.1):Int) != 2) (Tr.re (AV.tup [AV.str [],AV.agg [AV.str x0.1,AV.str x0.2.1,AV.str x0.2.2.1,AV.sl Sh.str x0.2.2.2.1,AV.nils,AV.str [],AV.nils,AV.nils,AV.str (ze.op x0.2.2.2.2.2.2.2.2.1),AV.int .i64 (ze.v x0.2.2.2.2.2.2.2.2.1).1,AV.int .i64 (ze.v x0.2.2.2.2.2.2.2.2.1).2.1,
  AV.str (ze.v x0.2.2.2.2.2.2.2.2.1).2.2,AV.str (ze.s x0.2.2.2.2.2.2.2.2.1),AV.sl Sh.expr (ze.l x0.2.2.2.2.2.2.2.2.1),AV.nils,AV.nils,AV.str [],AV.int .i64 0,AV.int .i64 0,AV.str [],AV.str [],AV.nils,AV.str []],AV.kb false]) []) (Tr.chk (decide ([77,73,71,82,65,84,69,32,71,82,79,85,80,32].length+length x0.2.1≤1099511627776))
  (Tr.chk (decide (length a26+[32,70,82,79,77,32].length≤1099511627776)) (Tr.chk (decide (length a27+length x0.2.2.1≤1099511627776)) (Tr.chk (decide (length a28+[32,66,89,32].length≤1099511627776)) (Tr.chk a29 (Tr.chk (decide (length a30+length a31≤1099511627776))
  (Tr.chk (decide (length a32+[32,83,85,77,32].length≤1099511627776)) (Tr.chk a33 (Tr.chk (decide (length a34+length a35≤1099511627776)) (Tr.chk (decide (length a36+length a14.1≤1099511627776)) (Tr.br a14.2 (Tr.chk a15 (Tr.br a16 (Tr.chk a29 (Tr.chk (eX a31) (Tr.br (gU a31) (Tr.chk a33 (Tr.chk (eX a35) (Tr.re (AV.tup [AV.str (a36++a14.1),
  AV.agg [AV.str x0.1,AV.str x0.2.1,AV.str x0.2.2.1,AV.sl Sh.str x0.2.2.2.1,AV.nils,AV.str [],AV.nils,AV.nils,AV.str (ze.op x0.2.2.2.2.2.2.2.2.1),AV.int .i64 (ze.v x0.2.2.2.2.2.2.2.2.1).1,AV.int .i64 (ze.v x0.2.2.2.2.2.2.2.2.1).2.1,AV.str (ze.v x0.2.2.2.2.2.2.2.2.1).2.2,AV.str (ze.s x0.2.2.2.2.2.2.2.2.1),AV.sl Sh.expr (ze.l x0.2.2.2.2.2.2.2.2.1),AV.nils,AV.nils,
  AV.str [],AV.int .i64 0,AV.int .i64 0,AV.str [],AV.str [],AV.nils,AV.str []],AV.bool (gU a35)]) []))) (Tr.re (AV.tup [AV.str (a36++a14.1),AV.agg [AV.str x0.1,AV.str x0.2.1,AV.str x0.2.2.1,AV.sl Sh.str x0.2.2.2.1,AV.nils,AV.str [],AV.nils,AV.nils,AV.str (ze.op x0.2.2.2.2.2.2.2.2.1),AV.int .i64 (ze.v x0.2.2.2.2.2.2.2.2.1).1,
  AV.int .i64 (ze.v x0.2.2.2.2.2.2.2.2.1).2.1,AV.str (ze.v x0.2.2.2.2.2.2.2.2.1).2.2,AV.str (ze.s x0.2.2.2.2.2.2.2.2.1),AV.sl Sh.expr (ze.l x0.2.2.2.2.2.2.2.2.1),AV.nils,AV.nils,AV.str [],AV.int .i64 0,AV.int .i64 0,AV.str [],AV.str [],AV.nils,AV.str []],AV.kb false]) [])))) (Tr.re (AV.tup [AV.str (a36++a14.1),AV.agg
  [AV.str x0.1,AV.str x0.2.1,AV.str x0.2.2.1,AV.sl Sh.str x0.2.2.2.1,AV.nils,AV.str [],AV.nils,AV.nils,AV.str (ze.op x0.2.2.2.2.2.2.2.2.1),AV.int .i64 (ze.v x0.2.2.2.2.2.2.2.2.1).1,AV.int .i64 (ze.v x0.2.2.2.2.2.2.2.2.1).2.1,AV.str (ze.v x0.2.2.2.2.2.2.2.2.1).2.2,AV.str (ze.s x0.2.2.2.2.2.2.2.2.1),
  AV.sl Sh.expr (ze.l x0.2.2.2.2.2.2.2.2.1),AV.nils,AV.nils,AV.str [],AV.int .i64 0,AV.int .i64 0,AV.str [],AV.str [],AV.nils,AV.str []],AV.kb false]) []))) (Tr.re (AV.tup [AV.str (a36++a14.1),AV.agg [AV.str x0.1,AV.str x0.2.1,AV.str x0.2.2.1,AV.sl Sh.str x0.2.2.2.1,AV.nils,AV.str [],AV.nils,AV.nils,AV.str (ze.op x0.2.2.2.2.2.2.2.2.1),
  AV.int .i64 (ze.v x0.2.2.2.2.2.2.2.2.1).1,AV.int .i64 (ze.v x0.2.2.2.2.2.2.2.2.1).2.1,AV.str (ze.v x0.2.2.2.2.2.2.2.2.1).2.2,AV.str (ze.s x0.2.2.2.2.2.2.2.2.1),AV.sl Sh.expr (ze.l x0.2.2.2.2.2.2.2.2.1),AV.nils,AV.nils,AV.str [],AV.int .i64 0,AV.int .i64 0,AV.str [],AV.str [],AV.nils,AV.str []],AV.kb false]) []))))))))))))) (Tr.br (x0.1==[114,101,97,100])
  (Tr.chk (decide ([71,82,65,78,84,32,82,69,65,68,32,79,78,32].length+length x0.2.1≤1099511627776)) (Tr.chk (decide (length a37+[32,84,79,32].length≤1099511627776)) (Tr.chk (decide (length a38+length x0.2.2.2.2.2.2.2.2.2.2.2.2≤1099511627776)) (Tr.chk a24 (Tr.re (AV.tup [AV.str (a38++x0.2.2.2.2.2.2.2.2.2.2.2.2),AV.agg
  [AV.str x0.1,AV.str x0.2.1,AV.str [],AV.nils,AV.nils,AV.str [],AV.nils,AV.nils,AV.str [],AV.int .i64 0,AV.int .i64 0,AV.str [],AV.str [],AV.nils,AV.nils,AV.nils,AV.str [],AV.int .i64 0,AV.int .i64 0,AV.str [],AV.str [],AV.nils,AV.str x0.2.2.2.2.2.2.2.2.2.2.2.2],AV.bool a25]) []))))) (Tr.br (x0.1==[119,114,105,116,101])
  (Tr.chk (decide ([71,82,65,78,84,32,87,82,73,84,69,32,79,78,32].length+length x0.2.1≤1099511627776)) (Tr.chk (decide (length a39+[32,84,79,32].length≤1099511627776)) (Tr.chk (decide (length a40+length x0.2.2.2.2.2.2.2.2.2.2.2.2≤1099511627776)) (Tr.chk a24 (Tr.re (AV.tup [AV.str (a40++x0.2.2.2.2.2.2.2.2.2.2.2.2),AV.agg
  [AV.str x0.1,AV.str x0.2.1,AV.str [],AV.nils,AV.nils,AV.str [],AV.nils,AV.nils,AV.str [],AV.int .i64 0,AV.int .i64 0,AV.str [],AV.str [],AV.nils,AV.nils,AV.nils,AV.str [],AV.int .i64 0,AV.int .i64 0,AV.str [],AV.str [],AV.nils,AV.str x0.2.2.2.2.2.2.2.2.2.2.2.2],AV.bool a25]) []))))) (Tr.br (x0.1==[117,110,114,101,97,100])
  (Tr.chk (decide ([82,69,86,79,75,69,32,82,69,65,68,32,79,78,32].length+length x0.2.1≤1099511627776)) (Tr.chk (decide (length a41+[32,70,82,79,77,32].length≤1099511627776)) (Tr.chk (decide (length a42+length x0.2.2.2.2.2.2.2.2.2.2.2.2≤1099511627776)) (Tr.chk a24 (Tr.re (AV.tup [AV.str (a42++x0.2.2.2.2.2.2.2.2.2.2.2.2),AV.agg
  [AV.str x0.1,AV.str x0.2.1,AV.str [],AV.nils,AV.nils,AV.str [],AV.nils,AV.nils,AV.str [],AV.int .i64 0,AV.int .i64 0,AV.str [],AV.str [],AV.nils,AV.nils,AV.nils,AV.str [],AV.int .i64 0,AV.int .i64 0,AV.str [],AV.str [],AV.nils,AV.str x0.2.2.2.2.2.2.2.2.2.2.2.2],AV.bool a25]) []))))) (Tr.br (x0.1==[117,110,119,114,105,116,101]) (Tr.chk
  (decide ([82,69,86,79,75,69,32,87,82,73,84,69,32,79,78,32].length+length x0.2.1≤1099511627776)) (Tr.chk (decide (length a43+[32,70,82,79,77,32].length≤1099511627776)) (Tr.chk (decide (length a44+length x0.2.2.2.2.2.2.2.2.2.2.2.2≤1099511627776)) (Tr.chk a24 (Tr.re (AV.tup [AV.str (a44++x0.2.2.2.2.2.2.2.2.2.2.2.2),AV.agg
  [AV.str x0.1,AV.str x0.2.1,AV.str [],AV.nils,AV.nils,AV.str [],AV.nils,AV.nils,AV.str [],AV.int .i64 0,AV.int .i64 0,AV.str [],AV.str [],AV.nils,AV.nils,AV.nils,AV.str [],AV.int .i64 0,AV.int .i64 0,AV.str [],AV.str [],AV.nils,AV.str x0.2.2.2.2.2.2.2.2.2.2.2.2],AV.bool a25]) []))))) (Tr.re (AV.tup [AV.str [],AV.agg
  [AV.str x0.1,AV.str x0.2.1,AV.str [],AV.nils,AV.nils,AV.str [],AV.nils,AV.nils,AV.str [],AV.int .i64 0,AV.int .i64 0,AV.str [],AV.str [],AV.nils,AV.nils,AV.nils,AV.str [],AV.int .i64 0,AV.int .i64 0,AV.str [],AV.str [],AV.nils,AV.str []],AV.kb false]) [])))))))))))))))
def ziF:xV→Tr (xV ⊕ ao)
 | .h15 s12 i13 z0 z1 z2=>
  let a0:=(↑(length z0.1.2.2.2.2.2.2.2.2.2.1):Int)
  let a1:=zI i13 (length z0.1.2.2.2.2.2.2.2.2.2.1)
  let a2:=getD z0.1.2.2.2.2.2.2.2.2.2.1 i13.toNat (zj zf)
  let a3:=nV a2
  let a4:=s12++[32,44,32]
  let a5:=rT a2
  let a6:=IntKind.i64.wrap (i13+1)
  let a7:=[73,78,83,69,82,84,32,73,78,84,79,32]++z0.1.2.1
  let a8:=a7++[32,86,65,76,85,69,83,32,40,32]
  let a9:=a8++s12
  Tr.br (decide (i13 < a0))
  (Tr.chk a1
   (Tr.chk (wR a2) (Tr.br (!Em a2) (Tr.re (AV.tup [AV.str [],AV.agg [AV.str z2.1,AV.str z2.2.1,AV.str z2.2.2.1,AV.nils,AV.nils,AV.str z2.2.2.2.1,AV.nils,AV.nils,AV.str z2.2.2.2.2.1,AV.int .i64 z2.2.2.2.2.2.1,AV.int .i64 z2.2.2.2.2.2.2.1,AV.str z2.2.2.2.2.2.2.2.1,AV.str z2.2.2.2.2.2.2.2.2.1,AV.nils,AV.sl zf z2.2.2.2.2.2.2.2.2.2.1,AV.nils,
   AV.str z2.2.2.2.2.2.2.2.2.2.2.1,AV.int .i64 z2.2.2.2.2.2.2.2.2.2.2.2.1,AV.int .i64 z2.2.2.2.2.2.2.2.2.2.2.2.2.1,AV.str z2.2.2.2.2.2.2.2.2.2.2.2.2.2.1,AV.str z2.2.2.2.2.2.2.2.2.2.2.2.2.2.2.1,AV.nils,AV.str z2.2.2.2.2.2.2.2.2.2.2.2.2.2.2.2.1],AV.kb false]) []) (Tr.br (decide (i13 > 0)) (Tr.chk (decide (s12.length+[32,44,32].length≤1099511627776))
   (Tr.chk a1 (Tr.chk a3 (Tr.chk (decide (length a4+length a5≤1099511627776)) (Tr.to (xV.h15 (a4++a5) a6 z0 z1 z2)))))) (Tr.chk a1 (Tr.chk a3 (Tr.chk (decide (s12.length+length a5≤1099511627776)) (Tr.to (xV.h15 (s12++a5) a6 z0 z1 z2)))))))))
  (Tr.chk (decide ([73,78,83,69,82,84,32,73,78,84,79,32].length+length z0.1.2.1≤1099511627776))
   (Tr.chk (decide (length a7+[32,86,65,76,85,69,83,32,40,32].length≤1099511627776)) (Tr.chk (decide (length a8+s12.length≤1099511627776)) (Tr.chk (decide (length a9+[32,41].length≤1099511627776)) (Tr.br (decide (1≤a0)) (Tr.re (AV.tup [AV.str (a9++[32,41]),AV.agg
   [AV.str z2.1,AV.str z2.2.1,AV.str z2.2.2.1,AV.nils,AV.nils,AV.str z2.2.2.2.1,AV.nils,AV.nils,AV.str z2.2.2.2.2.1,AV.int .i64 z2.2.2.2.2.2.1,AV.int .i64 z2.2.2.2.2.2.2.1,AV.str z2.2.2.2.2.2.2.2.1,AV.str z2.2.2.2.2.2.2.2.2.1,AV.nils,AV.sl zf z2.2.2.2.2.2.2.2.2.2.1,AV.nils,AV.str z2.2.2.2.2.2.2.2.2.2.2.1,AV.int .i64 z2.2.2.2.2.2.2.2.2.2.2.2.1,
   AV.int .i64 z2.2.2.2.2.2.2.2.2.2.2.2.2.1,AV.str z2.2.2.2.2.2.2.2.2.2.2.2.2.2.1,AV.str z2.2.2.2.2.2.2.2.2.2.2.2.2.2.2.1,AV.nils,AV.str z2.2.2.2.2.2.2.2.2.2.2.2.2.2.2.2.1],AV.bool (decide (a0≤12))]) []) (Tr.re (AV.tup [AV.str (a9++[32,41]),AV.agg [AV.str z2.1,AV.str z2.2.1,AV.str z2.2.2.1,AV.nils,AV.nils,AV.str z2.2.2.2.1,AV.nils,AV.nils,
   AV.str z2.2.2.2.2.1,AV.int .i64 z2.2.2.2.2.2.1,AV.int .i64 z2.2.2.2.2.2.2.1,AV.str z2.2.2.2.2.2.2.2.1,AV.str z2.2.2.2.2.2.2.2.2.1,AV.nils,AV.sl zf z2.2.2.2.2.2.2.2.2.2.1,AV.nils,AV.str z2.2.2.2.2.2.2.2.2.2.2.1,AV.int .i64 z2.2.2.2.2.2.2.2.2.2.2.2.1,AV.int .i64 z2.2.2.2.2.2.2.2.2.2.2.2.2.1,AV.str z2.2.2.2.2.2.2.2.2.2.2.2.2.2.1,AV.str z2.2.2.2.2.2.2.2.2.2.2.2.2.2.2.1,
   AV.nils,AV.str z2.2.2.2.2.2.2.2.2.2.2.2.2.2.2.2.1],AV.kb false]) []))))))
 | .h27 s8 b9 s14 i15 z0 z1 z2=>
  let a0:=(↑(length z0.1.2.2.2.2.2.2.2.2.2.2.1):Int)
  let a1:=zI i15 (length z0.1.2.2.2.2.2.2.2.2.2.2.1)
  let a2:=getD z0.1.2.2.2.2.2.2.2.2.2.2.1 i15.toNat (zj aN)
  let a3 := !gU a2.1
  let a4:=zE a2.2
  let a5:=decide (length a2.1+[32,61,32].length≤1099511627776)
  let a6:=tS a4
  let a7:=a2.1++[32,61,32]
  let a8:=rV a4
  let a9:=decide (length a7+length a8≤1099511627776)
  let a10:=s14++[32,44,32]
  let a11:=a7++a8
  let a12:=IntKind.i64.wrap (i15+1)
  let a13:=[85,80,68,65,84,69,32]++z0.1.2.1
  let a14:=a13++[32,83,69,84,32]
  let a15:=a14++s14
  Tr.br (decide (i15 < a0))
  (Tr.chk (a1&&(eX a2.1&&bif a3 then true else a1&&Gy a4))
   (Tr.br (bif a3 then true else !NZ a4) (Tr.re (AV.tup [AV.str [],AV.agg [AV.str z2.1,AV.str z2.2.1,AV.str z2.2.2.1,AV.nils,AV.nils,AV.str z2.2.2.2.1,AV.nils,AV.nils,AV.str z2.2.2.2.2.1,AV.int .i64 z2.2.2.2.2.2.1,AV.int .i64 z2.2.2.2.2.2.2.1,AV.str z2.2.2.2.2.2.2.2.1,AV.str z2.2.2.2.2.2.2.2.2.1,AV.nils,AV.nils,
   AV.sl (Sh.str.pr Sh.expr) z2.2.2.2.2.2.2.2.2.2.1,AV.str (ze.op z2.2.2.2.2.2.2.2.2.2.2.1),AV.int .i64 (ze.v z2.2.2.2.2.2.2.2.2.2.2.1).1,AV.int .i64 (ze.v z2.2.2.2.2.2.2.2.2.2.2.1).2.1,AV.str (ze.v z2.2.2.2.2.2.2.2.2.2.2.1).2.2,AV.str (ze.s z2.2.2.2.2.2.2.2.2.2.2.1),AV.sl Sh.expr (ze.l z2.2.2.2.2.2.2.2.2.2.2.1),AV.str z2.2.2.2.2.2.2.2.2.2.2.2.1],AV.kb false]) [])
   (Tr.br (decide (i15 > 0)) (Tr.chk (decide (s14.length+[32,44,32].length≤1099511627776)) (Tr.chk a1 (Tr.chk a5 (Tr.chk a1 (Tr.chk a6 (Tr.chk a9 (Tr.chk (decide (length a10+length a11≤1099511627776)) (Tr.to (xV.h27 s8 b9 (a10++a11) a12 z0 z1 z2))))))))) (Tr.chk a1 (Tr.chk a5 (Tr.chk a1
   (Tr.chk a6 (Tr.chk a9 (Tr.chk (decide (s14.length+length a11≤1099511627776)) (Tr.to (xV.h27 s8 b9 (s14++a11) a12 z0 z1 z2)))))))))))
  (Tr.chk (decide ([85,80,68,65,84,69,32].length+length z0.1.2.1≤1099511627776))
   (Tr.chk (decide (length a13+[32,83,69,84,32].length≤1099511627776)) (Tr.chk (decide (length a14+s14.length≤1099511627776)) (Tr.chk (decide (length a15+length s8≤1099511627776)) (Tr.br b9 (Tr.br (decide (1≤a0)) (Tr.re (AV.tup [AV.str (a15++s8),AV.agg [AV.str z2.1,AV.str z2.2.1,AV.str z2.2.2.1,AV.nils,AV.nils,AV.str z2.2.2.2.1,AV.nils,AV.nils,
   AV.str z2.2.2.2.2.1,AV.int .i64 z2.2.2.2.2.2.1,AV.int .i64 z2.2.2.2.2.2.2.1,AV.str z2.2.2.2.2.2.2.2.1,AV.str z2.2.2.2.2.2.2.2.2.1,AV.nils,AV.nils,AV.sl (Sh.str.pr Sh.expr) z2.2.2.2.2.2.2.2.2.2.1,AV.str (ze.op z2.2.2.2.2.2.2.2.2.2.2.1),AV.int .i64 (ze.v z2.2.2.2.2.2.2.2.2.2.2.1).1,AV.int .i64 (ze.v z2.2.2.2.2.2.2.2.2.2.2.1).2.1,AV.str (ze.v z2.2.2.2.2.2.2.2.2.2.2.1).2.2,
   AV.str (ze.s z2.2.2.2.2.2.2.2.2.2.2.1),AV.sl Sh.expr (ze.l z2.2.2.2.2.2.2.2.2.2.2.1),AV.str z2.2.2.2.2.2.2.2.2.2.2.2.1],AV.bool (decide (a0≤8))]) []) (Tr.re (AV.tup [AV.str (a15++s8),AV.agg [AV.str z2.1,AV.str z2.2.1,AV.str z2.2.2.1,AV.nils,AV.nils,AV.str z2.2.2.2.1,AV.nils,AV.nils,AV.str z2.2.2.2.2.1,AV.int .i64 z2.2.2.2.2.2.1,AV.int .i64 z2.2.2.2.2.2.2.1,
   AV.str z2.2.2.2.2.2.2.2.1,AV.str z2.2.2.2.2.2.2.2.2.1,AV.nils,AV.nils,AV.sl (Sh.str.pr Sh.expr) z2.2.2.2.2.2.2.2.2.2.1,AV.str (ze.op z2.2.2.2.2.2.2.2.2.2.2.1),AV.int .i64 (ze.v z2.2.2.2.2.2.2.2.2.2.2.1).1,AV.int .i64 (ze.v z2.2.2.2.2.2.2.2.2.2.2.1).2.1,AV.str (ze.v z2.2.2.2.2.2.2.2.2.2.2.1).2.2,
   AV.str (ze.s z2.2.2.2.2.2.2.2.2.2.2.1),AV.sl Sh.expr (ze.l z2.2.2.2.2.2.2.2.2.2.2.1),AV.str z2.2.2.2.2.2.2.2.2.2.2.2.1],AV.kb false]) [])) (Tr.re (AV.tup [AV.str (a15++s8),AV.agg [AV.str z2.1,AV.str z2.2.1,AV.str z2.2.2.1,AV.nils,AV.nils,AV.str z2.2.2.2.1,AV.nils,AV.nils,AV.str z2.2.2.2.2.1,AV.int .i64 z2.2.2.2.2.2.1,AV.int .i64 z2.2.2.2.2.2.2.1,
   AV.str z2.2.2.2.2.2.2.2.1,AV.str z2.2.2.2.2.2.2.2.2.1,AV.nils,AV.nils,AV.sl (Sh.str.pr Sh.expr) z2.2.2.2.2.2.2.2.2.2.1,AV.str (ze.op z2.2.2.2.2.2.2.2.2.2.2.1),AV.int .i64 (ze.v z2.2.2.2.2.2.2.2.2.2.2.1).1,AV.int .i64 (ze.v z2.2.2.2.2.2.2.2.2.2.2.1).2.1,AV.str (ze.v z2.2.2.2.2.2.2.2.2.2.2.1).2.2,AV.str (ze.s z2.2.2.2.2.2.2.2.2.2.2.1),
   AV.sl Sh.expr (ze.l z2.2.2.2.2.2.2.2.2.2.2.1),AV.str z2.2.2.2.2.2.2.2.2.2.2.2.1],AV.kb false]) []))))))
def w7 (x0:Sem zo):=zW [Sh.str,zo,Sh.bool] ziF 100000000 (zh4 x0)
def Of (x0:Sem zo):=(w7 x0).isSome
def Rf (x0:Sem zo):=o3 (w7 x0)
def zar:=FT [zo] [Sh.str,zo,Sh.bool] fun x=>w7 x.1
theorem VD:FK 183 zar:=vw.T1 (f:=Tryz.f183) (keep:=zen) (e:=zgN)

def S6:=Lv.add 183 zar
theorem y6:zl S6:=vw.add VD
end

noncomputable def zhY (x0:Sem zo):Tr (Empty ⊕ ao):=
 let a0:=(x0.1,x0.2.1,x0.2.2.1,x0.2.2.2.1,x0.2.2.2.2.1,x0.2.2.2.2.2.1,x0.2.2.2.2.2.2.1,x0.2.2.2.2.2.2.2.1,zE x0.2.2.2.2.2.2.2.2.1,x0.2.2.2.2.2.2.2.2.2.1,x0.2.2.2.2.2.2.2.2.2.2.1,zE x0.2.2.2.2.2.2.2.2.2.2.2.1,x0.2.2.2.2.2.2.2.2.2.2.2.2)
 let a1:=Rf a0
 let a2 := !a1.2.2
 let a3 := !gU x0.2.1
 let a4:=(a1.2.1.1,a1.2.1.2.1,a1.2.1.2.2.1,a1.2.1.2.2.2.1,a1.2.1.2.2.2.2.1,a1.2.1.2.2.2.2.2.1,a1.2.1.2.2.2.2.2.2.1,a1.2.1.2.2.2.2.2.2.2.1,zE a1.2.1.2.2.2.2.2.2.2.2.1,a1.2.1.2.2.2.2.2.2.2.2.2.1,a1.2.1.2.2.2.2.2.2.2.2.2.2.1,zE a1.2.1.2.2.2.2.2.2.2.2.2.2.2.1,a1.2.1.2.2.2.2.2.2.2.2.2.2.2.2)
 let a5:=AH a1.1
 Tr.chk (Of a0)
 (Tr.chk (bif a2 then true else eX x0.2.1&&bif a3 then true else Rd a4 a0)
  (Tr.br (bif a2 then true else bif a3 then true else !Yy a4 a0) (Tr.re (AV.tup [AV.str [],AV.kb false]) []) (Tr.chk (N7 a1.1) (Tr.br (!a5.2) (Tr.re (AV.tup [AV.str [],AV.kb false]) []) (Tr.re (AV.tup [AV.str a1.1,AV.kb true]) [])))))
noncomputable def Ce (x0:Sem zo):=zW [Sh.str,Sh.bool] t0 100000000 (zhY x0)
noncomputable def j5 (x0:Sem zo):=(Ce x0).isSome
noncomputable def ng (x0:Sem zo):=o2 (Ce x0)
noncomputable def Z1:=FT [zo] [Sh.str,Sh.bool] fun x=>Ce x.1
theorem Vb:FK 116 Z1:=y6.T1 (f:=Tryz.f116) (keep:=k0) (e:=e0)

noncomputable def DE:=S6.add 116 Z1
theorem nJ:zl DE:=y6.add Vb
noncomputable section

def zdM (x0:Sem zq.sl) (x1:Sem zg) (x2:Sem Sh.str):Tr (Empty ⊕ ao):=
 let a0:=decide (x1 < (↑(length x0):Int))
 let a1:=getD x0 (toNat x1) (zj zq)
 let a2:=a1.1==1
 let a3:=a1.1==4
 let a4:=a1.2==x2
 Tr.chk
 (bif a0 then zI x1 (length x0)&&bif a2 then zI x1 (length x0) else zI x1 (length x0)&&bif a3 then zI x1 (length x0) else true
 else true)
 (Tr.re (AV.bool (bif a0 then bif a2 then a4 else bif a3 then a4 else false else false)) [])
def Oa (x0:Sem zq.sl) (x1:Sem zg) (x2:Sem Sh.str):=zW [Sh.bool] t0 100000000 (zdM x0 x1 x2)
def j4 (x0:Sem zq.sl) (x1:Sem zg) (x2:Sem Sh.str):=(Oa x0 x1 x2).isSome
def qy (x0:Sem zq.sl) (x1:Sem zg) (x2:Sem Sh.str):=o1 (Oa x0 x1 x2)
def Sq:=FT [zq.sl,zg,Sh.str] [Sh.bool] fun x=>Oa x.1 x.2.1 x.2.2.1
theorem PR:FK 274 Sq:=nJ.T1 (f:=Tryz.f274) (keep:=k0) (e:=e0)

abbrev XG:=mn [(3,[0,2,4,5]),(10,[0,2,6,7]),(18,[0,2,6,8])]
inductive l7 where
 | h3 (s0:Sem Sh.str) (l4:List (Sem zf)) (i5:Int) (z0:zu [CP.d zf])
 | h10 (s0:Sem Sh.str) (i7:Int) (z0:zu [CP.d zf]) (z1:zu [CP.d zf])
 | h18 (s0:Sem Sh.str) (i8:Int) (z0:zu [CP.d zf]) (z1:zu [CP.d zf])
abbrev zcN:l7→Nat×St
 | .h3 s0 l4 i5 z0=>(3,⟨tm 145 [(0,AV.str s0),(2,AV.ptr 0 0),(4,AV.sl zf l4),(5,AV.int .i64 i5)],[AO.box (bK [] [CP.d zf] z0)]⟩)
 | .h10 s0 i7 z0 z1=>(10,⟨tm 145 [(0,AV.str s0),(2,AV.ptr 0 0),(6,AV.ptr 1 0),(7,AV.int .i64 i7)],[AO.box (bK [] [CP.d zf] z0),AO.box (bK [] [CP.d zf] z1)]⟩)
 | .h18 s0 i8 z0 z1=>(18,⟨tm 145 [(0,AV.str s0),(2,AV.ptr 0 0),(6,AV.ptr 1 0),(8,AV.int .i64 i8)],[AO.box (bK [] [CP.d zf] z0),AO.box (bK [] [CP.d zf] z1)]⟩)
def zdO (x0:Sem Sh.str):Tr (l7 ⊕ ao):=
 Tr.to (l7.h3 x0 [(0,0,[]),(3,0,[]),(3,1,[])] 0 ((0,0,[]),()))
def zf5:l7→Tr (l7 ⊕ ao)
 | .h3 s0 l4 i5 z0=>
  let a0:=l4.getD i5.toNat (zj zf)
  let a1:=decide ((↑(length s0):Int) ≥ 2)
  let a2:=(↑(getD s0 (toNat 0) 0).toNat:Int)==39
  let a3:=IntKind.i64.wrap ((↑(length s0):Int) - 1)
  Tr.br (decide (i5 < (↑l4.length:Int)))
  (Tr.chk (zI i5 l4.length) (Tr.chk (nV a0) (Tr.br (rT a0==s0) (Tr.chk (zI i5 l4.length) (Tr.re (AV.tup [AV.agg [AV.int .i64 a0.1,AV.int .i64 a0.2.1,AV.str a0.2.2],AV.kb true]) [])) (Tr.to (l7.h3 s0 l4 (IntKind.i64.wrap (i5+1)) z0)))))
  (Tr.chk (bif a1 then zI 0 (length s0)&&bif a2 then zI a3 (length s0) else true else true) (Tr.br (bif a1 then bif a2 then (↑(getD s0 a3.toNat 0).toNat:Int)==39 else false else false) (Tr.to (l7.h10 s0 1 z0 ((2,0,[]),()))) (Tr.to (l7.h18 s0 0 z0 ((1,0,[]),())))))
 | .h10 s0 i7 z0 z1=>
  let a0:=IntKind.i64.wrap ((↑(length s0):Int) - 1)
  let a1:=IntKind.i64.wrap (i7+1)
  let a2:=List.take (a1.toNat - i7.toNat) (List.drop i7.toNat s0)
  let a3:=((z1.1.1,z1.1.2.1,z1.1.2.2++a2),())
  Tr.br (decide (i7 < a0))
  (Tr.chk (decide (0≤i7)&&decide (i7≤a1)&&decide (a1≤(↑(length s0):Int))) (Tr.chk (decide (length z1.1.2.2+a2.length≤1099511627776)) (Tr.chk (zI i7 (length s0)) (Tr.br ((↑(getD s0 i7.toNat 0).toNat:Int)==39) (Tr.to (l7.h10 s0 (IntKind.i64.wrap (a1+1)) z0 a3)) (Tr.to (l7.h10 s0 a1 z0 a3))))))
  (Tr.chk (nV z1.1) (Tr.re (AV.tup [AV.agg [AV.int .i64 z1.1.1,AV.int .i64 z1.1.2.1,AV.str z1.1.2.2],AV.bool (rT z1.1==s0)]) []))
 | .h18 s0 i8 z0 z1=>
  let a0:=zI 0 (length s0)
  let a1:=(↑(getD s0 (toNat 0) 0).toNat:Int)
  let a2:=IntKind.i64.wrap (i8+1)
  let a3:=(↑(getD s0 i8.toNat 0).toNat:Int)
  let a4:=decide (a3 < 48)
  let a5:=decide (a3 > 57)
  let a6:=decide (z1.1.2.1 < -922337203685477580)
  let a7:=z1.1.2.1==-922337203685477580
  let a8:=IntKind.i64.wrap (0 - z1.1.2.1)
  let a9:=(z1.1.1,a8,z1.1.2.2)
  Tr.br (decide (i8 < (↑(length s0):Int)))
  (Tr.chk (bif i8==0 then a0 else true) (Tr.br (bif i8==0 then a1==45 else false) (Tr.to (l7.h18 s0 a2 z0 z1)) (Tr.chk (zI i8 (length s0)&&bif a4 then true else zI i8 (length s0)&&bif a5 then true else bif a6 then true else bif a7 then zI i8 (length s0) else true)
  (Tr.br (bif a4 then true else bif a5 then true else bif a6 then true else bif a7 then decide (a3 > 56) else false) (Tr.re (AV.tup [AV.agg [AV.int .i64 0,AV.int .i64 0,AV.str []],AV.kb false]) []) (Tr.chk (zI i8 (length s0)) (Tr.to (l7.h18 s0 a2 z0 ((z1.1.1,IntKind.i64.wrap (IntKind.i64.wrap (IntKind.i64.wrap (10 * z1.1.2.1) - IntKind.i64.wrap a3)+48),z1.1.2.2),()))))))))
  (Tr.chk (bif s0==[] then true else a0) (Tr.br (bif s0==[] then true else a1 != 45) (Tr.br (z1.1.2.1==-9223372036854775808) (Tr.re (AV.tup [AV.agg [AV.int .i64 0,AV.int .i64 0,AV.str []],AV.kb false]) []) (Tr.chk (nV a9) (Tr.re (AV.tup [AV.agg [AV.int .i64 z1.1.1,AV.int .i64 a8,AV.str z1.1.2.2],AV.bool (rT a9==s0)]) []))) (Tr.chk (nV z1.1)
  (Tr.re (AV.tup [AV.agg [AV.int .i64 z1.1.1,AV.int .i64 z1.1.2.1,AV.str z1.1.2.2],AV.bool (rT z1.1==s0)]) []))))
def wS (x0:Sem Sh.str):=zW [zf,Sh.bool] zf5 100000000 (zdO x0)
def En (x0:Sem Sh.str):=(wS x0).isSome
def qq (x0:Sem Sh.str):=o2 (wS x0)
def Su:=FT [Sh.str] [zf,Sh.bool] fun x=>wS x.1
theorem PU:FK 292 Su:=nJ.T1 (f:=Tryz.f292) (keep:=XG) (e:=zcN)

def Tb:=DE.addL [(274,Sq),(292,Su)]
theorem Ag:zl Tb:=nJ.addL <| fc PR <| fc PU <|  jn
end
noncomputable section

abbrev XF:=mn [(1,[0,1,4])]
inductive yx where
 | h1 (s0:Sem Sh.str) (s1:Sem Sh.str) (z0:zu [CP.d zf])
abbrev zcM:yx→Nat×St
 | .h1 s0 s1 z0=>(1,⟨tm 25 [(0,AV.str s0),(1,AV.str s1),(4,AV.ptr 0 0)],[AO.box (bK [] [CP.d zf] z0)]⟩)
def zdN (x0:Sem Sh.str) (x1:Sem Sh.str):Tr (yx ⊕ ao):=
 Tr.to (yx.h1 x0 x1 ((0,0,[]),()))
def zf4:yx→Tr (yx ⊕ ao)
 | .h1 s0 s1 z0=>
  let a0:=decide ((↑(length s1):Int) > 0)
  Tr.chk (bif a0 then zI 0 (length s1) else true)
  (Tr.br (bif a0 then (↑(getD s1 (toNat 0) 0).toNat:Int)==48 else false) (Tr.chk (decide (0≤1)&&decide (1≤(↑(length s1):Int))&&decide ((↑(length s1):Int)≤(↑(length s1):Int))) (Tr.to (yx.h1 s0 (List.take ((↑(length s1):Int).toNat - toNat 1) (List.drop (toNat 1) s1)) z0)))
  (Tr.br (s1==[]) (Tr.re (AV.tup [AV.agg [AV.int .i64 1,AV.int .i64 0,AV.str []],AV.kb true]) []) (Tr.chk (decide (length s0+length s1≤1099511627776)) (Tr.chk (En (s0++s1)) (Tr.re (AV.tup [AV.agg [AV.int .i64 (qq (s0++s1)).1.1,AV.int .i64 (qq (s0++s1)).1.2.1,AV.str (qq (s0++s1)).1.2.2],AV.bool (qq (s0++s1)).2]) [])))))
def GL (x0:Sem Sh.str) (x1:Sem Sh.str):=zW [zf,Sh.bool] zf4 100000000 (zdN x0 x1)
def Ob (x0:Sem Sh.str) (x1:Sem Sh.str):=(GL x0 x1).isSome
def TU (x0:Sem Sh.str) (x1:Sem Sh.str):=o2 (GL x0 x1)
def Ss:=FT [Sh.str,Sh.str] [zf,Sh.bool] fun x=>GL x.1 x.2.1
theorem PT:FK 291 Ss:=Ag.T1 (f:=Tryz.f291) (keep:=XF) (e:=zcM)

def Tc:=Tb.add 291 Ss
theorem Ah:zl Tc:=Ag.add PT
end

noncomputable def zdL (x0:Sem zq.sl) (x1:Sem zg):Tr (Empty ⊕ ao):=
 let a0:=IntKind.i64.wrap (x1+1)
 let a1:=decide (a0 ≥ (↑(length x0):Int))
 let a2:=zI a0 (length x0)
 let a3:=getD x0 a0.toNat (zj zq)
 let a4:=TU [45] a3.2
 let a5:=getD x0 (toNat x1) (zj zq)
 let a6:=TU [] a5.2
 let a7:=qy x0 x1 [84,82,85,69]
 let a8:=qy x0 x1 [70,65,76,83,69]
 let a9:=qq a5.2
 Tr.br (decide (x1 ≥ (↑(length x0):Int)))
 (Tr.re (AV.tup [AV.agg [AV.str [],AV.int .i64 0,AV.int .i64 0,AV.str [],AV.str [],AV.nils],AV.int .i64 (-1)]) [])
 (Tr.chk (zI x1 (length x0))
  (Tr.chk (j4 x0 x1 [45]) (Tr.br (qy x0 x1 [45]) (Tr.chk (bif a1 then true else a2) (Tr.br (bif a1 then true else a3.1 != 2) (Tr.re (AV.tup [AV.agg [AV.str [],AV.int .i64 0,AV.int .i64 0,AV.str [],AV.str [],AV.nils],AV.int .i64 (-1)]) []) (Tr.chk a2 (Tr.chk (Ob [45] a3.2) (Tr.br (!a4.2)
  (Tr.re (AV.tup [AV.agg [AV.str [],AV.int .i64 0,AV.int .i64 0,AV.str [],AV.str [],AV.nils],AV.int .i64 (-1)]) []) (Tr.re (AV.tup [AV.agg [AV.str [108,105,116],AV.int .i64 a4.1.1,AV.int .i64 a4.1.2.1,AV.str a4.1.2.2,AV.str [],AV.nils],AV.int .i64 (IntKind.i64.wrap (x1+2))]) [])))))) (Tr.br (a5.1==2) (Tr.chk (Ob [] a5.2) (Tr.br (!a6.2)
  (Tr.re (AV.tup [AV.agg [AV.str [],AV.int .i64 0,AV.int .i64 0,AV.str [],AV.str [],AV.nils],AV.int .i64 (-1)]) []) (Tr.re (AV.tup [AV.agg [AV.str [108,105,116],AV.int .i64 a6.1.1,AV.int .i64 a6.1.2.1,AV.str a6.1.2.2,AV.str [],AV.nils],AV.int .i64 a0]) []))) (Tr.br (a5.1==3) (Tr.re
  (AV.tup [AV.agg [AV.str [108,105,116],AV.int .i64 2,AV.int .i64 0,AV.str a5.2,AV.str [],AV.nils],AV.int .i64 a0]) []) (Tr.chk (j4 x0 x1 [40]) (Tr.br (qy x0 x1 [40]) Tr.err (Tr.chk (j4 x0 x1 [84,82,85,69]&&bif a7 then true else j4 x0 x1 [70,65,76,83,69]&&bif a8 then true else j4 x0 x1 [78,85,76,76])
  (Tr.br (bif a7 then true else bif a8 then true else qy x0 x1 [78,85,76,76]) (Tr.chk (En a5.2) (Tr.re (AV.tup [AV.agg [AV.str [108,105,116],AV.int .i64 a9.1.1,AV.int .i64 a9.1.2.1,AV.str a9.1.2.2,AV.str [],AV.nils],AV.int .i64 a0]) [])) (Tr.br (a5.1==1) (Tr.re (AV.tup [AV.agg [AV.str [99,111,108],AV.int .i64 0,AV.int .i64 0,AV.str [],AV.str a5.2,AV.nils],
  AV.int .i64 a0]) []) (Tr.re (AV.tup [AV.agg [AV.str [],AV.int .i64 0,AV.int .i64 0,AV.str [],AV.str [],AV.nils],AV.int .i64 (-1)]) [])))))))))))
noncomputable def Ca (x0:Sem zq.sl) (x1:Sem zg):=zW [Sh.expr,zg] t0 100000000 (zdL x0 x1)
noncomputable def Rc (x0:Sem zq.sl) (x1:Sem zg):=(Ca x0 x1).isSome
noncomputable def pp (x0:Sem zq.sl) (x1:Sem zg):=o2 (Ca x0 x1)
noncomputable def Sp:=FT [zq.sl,zg] [Sh.expr,zg] fun x=>Ca x.1 x.2.1
theorem PQ:FK 273 Sp:=Ah.T1 (f:=Tryz.f273) (keep:=k0) (e:=e0)

noncomputable def HG:=Tc.add 273 Sp
theorem Ai:zl HG:=Ah.add PQ
noncomputable section

def vg (g:Sem zq.sl→Sem zg→Sem zg→Sem Sh.expr×Sem zg) (c:Sem zq.sl→Sem zg→Sem zg→Bool):bx:=HG.add 238 (zG [zq.sl,zg,zg] [Sh.expr,zg] (fun x=>c x.1 x.2.1 x.2.2.1) fun x=>((g x.1 x.2.1 x.2.2.1).1,(g x.1 x.2.1 x.2.2.1).2,()))
theorem Fy {g:Sem zq.sl→Sem zg→Sem zg→Sem Sh.expr×Sem zg} {c:Sem zq.sl→Sem zg→Sem zg→Bool} (hg:FK 238 (zG [zq.sl,zg,zg] [Sh.expr,zg] (fun x=>c x.1 x.2.1 x.2.2.1) fun x=>((g x.1 x.2.1 x.2.2.1).1,(g x.1 x.2.1 x.2.2.1).2,()))):zl (vg g c):=Ai.add hg
abbrev Gf:=mn [(22,[0,2,6,15,16])]
inductive kv where
 | h22 (l0:List (Sem zq)) (i2:Sem zg) (i16:Sem zg) (z1:zu [CP.d Sh.expr]) (ja0:List UInt8) (ja1:Int) (ja2:Int) (ja3:List UInt8) (ja4:List UInt8)
abbrev Dp:kv→Nat×St
 | .h22 l0 i2 i16 z1 ja0 ja1 ja2 ja3 ja4=>(22,⟨tm 157 [(0,AV.sl zq l0),(2,AV.int .i64 i2),(6,AV.ptr 0 0),(15,AV.ptr 1 0),(16,AV.int .i64 i16)],[AO.box [AV.str ja0,AV.int .i64 ja1,AV.int .i64 ja2,AV.str ja3,AV.str ja4,AV.nils],AO.box (bK [] [CP.d Sh.expr] z1)]⟩)
theorem X2 (g:Sem zq.sl→Sem zg→Sem zg→Sem Sh.expr×Sem zg) (c:Sem zq.sl→Sem zg→Sem zg→Bool):zA (vg g c).P 238 Tryz.f238 3:=aS (by kernel_rfl)
def Mv (g:Sem zq.sl→Sem zg→Sem zg→Sem Sh.expr×Sem zg) (c:Sem zq.sl→Sem zg→Sem zg→Bool) (x0:Sem zq.sl) (x1:Sem zg) (x2:Sem zg):Tr (kv ⊕ ao):=
 let a0:=IntKind.i64.wrap (x1+1)
 let a1:=g x0 a0 2
 let a2:=g x0 x1 3
 let a3:=qy x0 a2.2 [61]
 let a4:=IntKind.i64.wrap (a2.2+1)
 let a5:=getD x0 (toNat a2.2) (zj zq)
 let a6:=zE a2.1
 let a7:=g x0 a4 3
 let a8:=IntKind.i64.wrap (x2+1)
 let a9:=g x0 x1 a8
 Tr.br (decide (x1 < 0))
 (Tr.re (AV.tup [AV.agg [AV.str [],AV.int .i64 0,AV.int .i64 0,AV.str [],AV.str [],AV.nils],AV.int .i64 (-1)]) [])
 (Tr.br (x2==4)
  (Tr.chk (Rc x0 x1) (Tr.re (AV.tup [AV.agg [AV.str (ze.op (pp x0 x1).1),AV.int .i64 (ze.v (pp x0 x1).1).1,AV.int .i64 (ze.v (pp x0 x1).1).2.1,AV.str (ze.v (pp x0 x1).1).2.2,AV.str (ze.s (pp x0 x1).1),AV.sl Sh.expr (ze.l (pp x0 x1).1)],AV.int .i64 (pp x0 x1).2]) []))
  (Tr.br (x2==2) (Tr.chk (j4 x0 x1 [78,79,84]) (Tr.br (qy x0 x1 [78,79,84]) (Tr.chk (c x0 a0 2) (Tr.re (AV.tup [AV.agg [AV.str [110,111,116],AV.int .i64 0,AV.int .i64 0,AV.str [],AV.str [],AV.sl Sh.expr [zE a1.1]],AV.int .i64 a1.2]) [])) (Tr.chk (c x0 x1 3) (Tr.br (decide (a2.2 < 0))
  (Tr.re (AV.tup [AV.agg [AV.str [],AV.int .i64 0,AV.int .i64 0,AV.str [],AV.str [],AV.nils],AV.int .i64 (-1)]) []) (Tr.chk (j4 x0 a2.2 [61]&&bif a3 then true else j4 x0 a2.2 [60]) (Tr.br (bif a3 then true else qy x0 a2.2 [60]) (Tr.chk (zI a2.2 (length x0)) (Tr.chk (c x0 a4 3) (Tr.re (AV.tup
  [AV.agg [AV.str a5.2,AV.int .i64 0,AV.int .i64 0,AV.str [],AV.str [],AV.sl Sh.expr [a6,zE a7.1]],AV.int .i64 a7.2]) []))) (Tr.chk (j4 x0 a2.2 [73,83]) (Tr.br (qy x0 a2.2 [73,83]) (Tr.chk (j4 x0 a4 [78,85,76,76]) (Tr.br (!qy x0 a4 [78,85,76,76]) (Tr.re (AV.tup [AV.agg [AV.str [],AV.int .i64 0,AV.int .i64 0,AV.str [],AV.str [],AV.nils],AV.int .i64 (-1)]) [])
  (Tr.re (AV.tup [AV.agg [AV.str [110,117,108,108],AV.int .i64 0,AV.int .i64 0,AV.str [],AV.str [],AV.sl Sh.expr [a6]],AV.int .i64 (IntKind.i64.wrap (a2.2+2))]) []))) (Tr.re (AV.tup [AV.agg [AV.str (ze.op a2.1),AV.int .i64 (ze.v a2.1).1,AV.int .i64 (ze.v a2.1).2.1,AV.str (ze.v a2.1).2.2,AV.str (ze.s a2.1),AV.sl Sh.expr (ze.l a2.1)],AV.int .i64 a2.2])
  []))))))))) (Tr.chk (c x0 x1 a8) (Tr.to (kv.h22 x0 x2 a9.2 (a9.1,()) [] 0 0 [] [])))))
theorem WP (g:Sem zq.sl→Sem zg→Sem zg→Sem Sh.expr×Sem zg) (c:Sem zq.sl→Sem zg→Sem zg→Bool) (x0:Sem zq.sl) (x1:Sem zg) (x2:Sem zg):rn (vg g c) 0 Gf Tryz.f238 [zz zq.sl x0,zz zg x1,zz zg x2] []=(Mv g c x0 x1 x2).map (lf Tryz.f238 Dp):=by kernel_rfl
def OM (g:Sem zq.sl→Sem zg→Sem zg→Sem Sh.expr×Sem zg) (c:Sem zq.sl→Sem zg→Sem zg→Bool):kv→Tr (kv ⊕ ao)
 | .h22 l0 i2 i16 z1 ja0 ja1 ja2 ja3 ja4=>
  let a0:=bif i2==1 then j4 l0 i16 [65,78,68] else true
  let a1:=bif i2==1 then qy l0 i16 [65,78,68] else false
  let a2:=qy l0 i16 [43]
  let a3:=bif i2==3 then j4 l0 i16 [43]&&bif a2 then true else j4 l0 i16 [45] else true
  let a4:=bif i2==3 then bif a2 then true else qy l0 i16 [45] else false
  let a5:=l0.getD (toNat i16) (zj zq)
  let a6:=IntKind.i64.wrap (i16+1)
  let a7:=IntKind.i64.wrap (i2+1)
  let a8:=c l0 a6 a7
  let a9:=g l0 a6 a7
  let a10:=[zE z1.1,zE a9.1]
  Tr.br (decide (i16 ≥ 0))
  (Tr.chk (bif i2==0 then j4 l0 i16 [79,82] else true) (Tr.br (bif i2==0 then qy l0 i16 [79,82] else false) (Tr.chk a0 (Tr.br a1 (Tr.chk a3 (Tr.br a4 (Tr.chk (zI i16 l0.length) (Tr.br (a5.2==[]) (Tr.re (AV.tup [AV.agg [AV.str (ze.op z1.1),AV.int .i64 (ze.v z1.1).1,AV.int .i64 (ze.v z1.1).2.1,
  AV.str (ze.v z1.1).2.2,AV.str (ze.s z1.1),AV.sl Sh.expr (ze.l z1.1)],AV.int .i64 i16]) []) (Tr.chk a8 (Tr.to (kv.h22 l0 i2 a9.2 (ze.mk a5.2 (0,0,[]) [] a10,()) ja0 ja1 ja2 ja3 ja4))))) (Tr.br false (Tr.re (AV.tup [AV.agg [AV.str (ze.op z1.1),AV.int .i64 (ze.v z1.1).1,AV.int .i64 (ze.v z1.1).2.1,
  AV.str (ze.v z1.1).2.2,AV.str (ze.s z1.1),AV.sl Sh.expr (ze.l z1.1)],AV.int .i64 i16]) []) (Tr.chk a8 (Tr.to (kv.h22 l0 i2 a9.2 (ze.mk [97,110,100] (0,0,[]) [] a10,()) ja0 ja1 ja2 ja3 ja4)))))) (Tr.chk a3 (Tr.br a4 (Tr.chk (zI i16 l0.length) (Tr.br (a5.2==[]) (Tr.re (AV.tup [AV.agg
  [AV.str (ze.op z1.1),AV.int .i64 (ze.v z1.1).1,AV.int .i64 (ze.v z1.1).2.1,AV.str (ze.v z1.1).2.2,AV.str (ze.s z1.1),AV.sl Sh.expr (ze.l z1.1)],AV.int .i64 i16]) []) (Tr.chk a8 (Tr.to (kv.h22 l0 i2 a9.2 (ze.mk a5.2 (0,0,[]) [] a10,()) ja0 ja1 ja2 ja3 ja4))))) (Tr.br false (Tr.re (AV.tup [AV.agg
  [AV.str (ze.op z1.1),AV.int .i64 (ze.v z1.1).1,AV.int .i64 (ze.v z1.1).2.1,AV.str (ze.v z1.1).2.2,AV.str (ze.s z1.1),AV.sl Sh.expr (ze.l z1.1)],AV.int .i64 i16]) []) (Tr.chk a8 (Tr.to (kv.h22 l0 i2 a9.2 (ze.mk [111,114] (0,0,[]) [] a10,()) ja0 ja1 ja2 ja3 ja4)))))))) (Tr.chk a0 (Tr.br a1 (Tr.chk a3 (Tr.br a4 (Tr.chk (zI i16 l0.length)
  (Tr.br (a5.2==[]) (Tr.re (AV.tup [AV.agg [AV.str (ze.op z1.1),AV.int .i64 (ze.v z1.1).1,AV.int .i64 (ze.v z1.1).2.1,AV.str (ze.v z1.1).2.2,AV.str (ze.s z1.1),AV.sl Sh.expr (ze.l z1.1)],AV.int .i64 i16]) []) (Tr.chk a8 (Tr.to (kv.h22 l0 i2 a9.2 (ze.mk a5.2 (0,0,[]) [] a10,()) ja0 ja1 ja2 ja3 ja4))))) (Tr.br false (Tr.re (AV.tup [AV.agg
  [AV.str (ze.op z1.1),AV.int .i64 (ze.v z1.1).1,AV.int .i64 (ze.v z1.1).2.1,AV.str (ze.v z1.1).2.2,AV.str (ze.s z1.1),AV.sl Sh.expr (ze.l z1.1)],AV.int .i64 i16]) []) (Tr.chk a8 (Tr.to (kv.h22 l0 i2 a9.2 (ze.mk [97,110,100] (0,0,[]) [] a10,()) ja0 ja1 ja2 ja3 ja4)))))) (Tr.chk a3 (Tr.br a4 (Tr.chk (zI i16 l0.length) (Tr.br (a5.2==[]) (Tr.re
  (AV.tup [AV.agg [AV.str (ze.op z1.1),AV.int .i64 (ze.v z1.1).1,AV.int .i64 (ze.v z1.1).2.1,AV.str (ze.v z1.1).2.2,AV.str (ze.s z1.1),AV.sl Sh.expr (ze.l z1.1)],AV.int .i64 i16]) []) (Tr.chk a8 (Tr.to (kv.h22 l0 i2 a9.2 (ze.mk a5.2 (0,0,[]) [] a10,()) ja0 ja1 ja2 ja3 ja4))))) (Tr.br true (Tr.re (AV.tup [AV.agg
  [AV.str (ze.op z1.1),AV.int .i64 (ze.v z1.1).1,AV.int .i64 (ze.v z1.1).2.1,AV.str (ze.v z1.1).2.2,AV.str (ze.s z1.1),AV.sl Sh.expr (ze.l z1.1)],AV.int .i64 i16]) []) (Tr.chk a8 (Tr.to (kv.h22 l0 i2 a9.2 (ze.mk [] (0,0,[]) [] a10,()) ja0 ja1 ja2 ja3 ja4))))))))))
  (Tr.re (AV.tup [AV.agg [AV.str (ze.op z1.1),AV.int .i64 (ze.v z1.1).1,AV.int .i64 (ze.v z1.1).2.1,AV.str (ze.v z1.1).2.2,AV.str (ze.s z1.1),AV.sl Sh.expr (ze.l z1.1)],AV.int .i64 i16]) [])
theorem Yc (g:Sem zq.sl→Sem zg→Sem zg→Sem Sh.expr×Sem zg) (c:Sem zq.sl→Sem zg→Sem zg→Bool):∀ s,run (vg g c) 0 Gf (Func.results Tryz.f238).toList 400 (zy Tryz.f238 (Dp s).1) (Dp s).2=(OM g c s).map (lf Tryz.f238 Dp):=by intro s; cases s <;> kernel_rfl
def jE (o:Option (zx (List.map some [Sh.expr,zg]))):Sem Sh.expr×Sem zg:=(fun r:zx (List.map some [Sh.expr,zg])=>(r.1,r.2.1)) (o.getD (cq [Sh.expr,zg]))
def Oc (g:Sem zq.sl→Sem zg→Sem zg→Sem Sh.expr×Sem zg) (c:Sem zq.sl→Sem zg→Sem zg→Bool) (x0:Sem zq.sl) (x1:Sem zg) (x2:Sem zg):Option (zx (List.map some [Sh.expr,zg])):=zW [Sh.expr,zg] (OM g c) 100000000 (Mv g c x0 x1 x2)
def ee:Nat→Sem zq.sl→Sem zg→Sem zg→Option (zx (List.map some [Sh.expr,zg]))
 | 0=>fun _ _ _=>none
 | n+1=>Oc (fun x0 x1 x2=>jE (ee n x0 x1 x2)) fun x0 x1 x2=>(ee n x0 x1 x2).isSome
theorem MM:zA HG.P 238 Tryz.f238 3:=aS (by kernel_rfl)
theorem CX:∀ n,FK 238 (zG [zq.sl,zg,zg] [Sh.expr,zg] (fun x=>(ee n x.1 x.2.1 x.2.2.1).isSome) fun x=>((jE (ee n x.1 x.2.1 x.2.2.1)).1,(jE (ee n x.1 x.2.1 x.2.2.1)).2,()))
 | 0=>dz ⟨Tryz.f238,MM.1,MM.2.1,MM.2.2.1⟩ (fun _=>rfl)
 | n+1=>jq (E:=vg (fun x0 x1 x2=>jE (ee n x0 x1 x2)) (fun x0 x1 x2=>(ee n x0 x1 x2).isSome)) (ks:=[zq.sl,zg,zg]) (outs:=[Sh.expr,zg]) (keep:=Gf) (gas:=400) (n:=100000000) (e:=Dp) (t:=OM (fun x0 x1 x2=>jE (ee n x0 x1 x2)) (fun x0 x1 x2=>(ee n x0 x1 x2).isSome)) (i:=fun x=>Mv (fun x0 x1 x2=>jE (ee n x0 x1 x2)) (fun x0 x1 x2=>(ee n x0 x1 x2).isSome) x.1 x.2.1 x.2.2.1) (Fy (CX n)) (X2 _ _) (fun x=>WP _ _ x.1 x.2.1 x.2.2.1) (Yc _ _) (fun _=>by kernel_rfl) (fun _=>by kernel_rfl)
def Eu (x0:Sem zq.sl) (x1:Sem zg) (x2:Sem zg):Option (zx (List.map some [Sh.expr,zg])):=ee 16 x0 x1 x2
def Et (x0:Sem zq.sl) (x1:Sem zg) (x2:Sem zg):Bool:=(Eu x0 x1 x2).isSome
def Cb (x0:Sem zq.sl) (x1:Sem zg) (x2:Sem zg):Sem Sh.expr×Sem zg:=jE (Eu x0 x1 x2)
def Sm:zF:=zG [zq.sl,zg,zg] [Sh.expr,zg] (fun x=>Et x.1 x.2.1 x.2.2.1) fun x=>((Cb x.1 x.2.1 x.2.2.1).1,(Cb x.1 x.2.1 x.2.2.1).2,())
theorem PN:FK 238 Sm:=CX 16

def Td:=HG.add 238 Sm
theorem Aj:zl Td:=Ai.add PN
end

noncomputable def zdI (x0:Sem zq.sl):Tr (Empty ⊕ ao):=
 let a0:=Cb x0 0 0
 let a1:=decide (a0.2 < 0)
 let a2:=zE a0.1
 Tr.chk (Et x0 0 0)
 (Tr.chk (bif a1 then true else Gy a2)
  (Tr.br (bif a1 then true else !NZ a2) (Tr.re (AV.tup [AV.agg [AV.str [],AV.int .i64 0,AV.int .i64 0,AV.str [],AV.str [],AV.nils],AV.int .i64 0,AV.kb false]) []) (Tr.re (AV.tup [AV.agg [AV.str (ze.op a0.1),AV.int .i64 (ze.v a0.1).1,AV.int .i64 (ze.v a0.1).2.1,AV.str (ze.v a0.1).2.2,AV.str (ze.s a0.1),AV.sl Sh.expr (ze.l a0.1)],AV.int .i64 a0.2,AV.kb true])
  [])))
noncomputable def w4 (x0:Sem zq.sl):=zW [Sh.expr,zg,Sh.bool] t0 100000000 (zdI x0)
noncomputable def Es (x0:Sem zq.sl):=(w4 x0).isSome
noncomputable def Iw (x0:Sem zq.sl):=o3 (w4 x0)
noncomputable def Se:=FT [zq.sl] [Sh.expr,zg,Sh.bool] fun x=>w4 x.1
theorem PG:FK 182 Se:=Aj.T1 (f:=Tryz.f182) (keep:=k0) (e:=e0)

noncomputable def HH:=Td.add 182 Se
theorem Ak:zl HH:=Aj.add PG
open Go

theorem hJ.cells {C:cI} {w:World} {U:Nat→Prop} {ρ:Nat→Option Value} {hp:Nat→AO} {k:Nat} {cs cs':List AV} (hH:hJ C w U ρ hp) (hk:hp k=.box cs)
  (hr:∀ vals,cK w U ρ cs vals→cK w U ρ cs' vals):hJ C w U ρ (fun j=>if j=k then .box cs' else hp j):=by
 have hown:∀ id b,zP ρ id (if id=k then .box cs' else hp id) b→zP ρ id (hp id) b:=by
  intro id b ho
  by_cases hid:id=k
  ·subst hid
   rw [if_pos rfl] at ho
   rw [hk]
   obtain ⟨_,v,hv,hb⟩:=ho
   exact ⟨rfl,v,hv,hb⟩
  ·rw [if_neg hid] at ho; exact ho
 refine ⟨fun id=>?_,fun id1 id2 b o1 o2=>hH.inj id1 id2 b (hown _ _ o1) (hown _ _ o2),fun id b o=>hH.blk id b (hown _ _ o)⟩
 by_cases hid:id=k
 ·subst hid
  have h0:=hH.ob id
  rw [hk] at h0
  obtain ⟨b,T,vals,h1,h2,h3,h4,h5⟩:=h0
  simp only [if_true]
  exact ⟨b,T,vals,h1,h2,h3,hr _ h4,h5⟩
 ·simp only [if_neg hid]
  exact hH.ob id

def aZ (ps qs:List CP) (y:zu ps) (z:zu qs):List AO:=.box (fU 2 ps y)::.box (fU (2+aF ps) qs z)::(fV ps y++fV qs z)

theorem mI (ps qs:List CP) (y:zu ps) (z:zu qs):(aZ ps qs y z).length=aF ps+aF qs+2:=by
 simp [aZ,bE]

theorem hJ.box2 {C:cI} {w:World} {U:Nat→Prop} {ρ:Nat→Option Value} {cs ds:List AV} {os:List AO} {ps qs:List CP} {y:zu ps} {z:zu qs} (hH:hJ C w U ρ (fun j=>((AO.box cs::AO.box ds::os).getD j .dead))) (hl:os.length=aF ps+aF qs)
  (hm:cz (iT (.box cs::.box ds::os)) 2 ps cs=some y) (hm2:cz (iT (.box cs::.box ds::os)) (2+aF ps) qs ds=some z):hJ C w U ρ (fun j=>(aZ ps qs y z).getD j .dead):=by
 have h1:=hH.cells (k:=0) (cs:=cs) (cs':=fU 2 ps y) rfl (fun vals h=>(eJ ps 2 cs y vals hm h).1)
 have h2:=h1.cells (k:=1) (cs:=ds) (cs':=fU (2+aF ps) qs z) rfl (fun vals h=>(eJ qs _ ds z vals hm2 h).1)
 obtain ⟨b0,T0,v0,_,_,_,r0,_⟩:=hH.ob 0
 obtain ⟨b1,T1,v1,_,_,_,r1,_⟩:=hH.ob 1
 have k1:=(eJ ps 2 cs y v0.toList hm r0).2
 have k2:=(eJ qs _ ds z v1.toList hm2 r1).2
 have e:(fun j=>(aZ ps qs y z).getD j .dead)=fun j=>if j=1 then .box (fU (2+aF ps) qs z) else if j=0 then .box (fU 2 ps y) else (AO.box cs::AO.box ds::os).getD j .dead:=by
  funext j
  match j with
  | 0=>rfl
  | 1=>rfl
  | j+2=>
   rw [if_neg (by omega),if_neg (by omega)]
   simp only [aZ,yE]
   by_cases hj:j < aF ps
   ·have hj':j < (fV ps y).length:=by rw [bE]; exact hj
    have:=k1 j _ (zJ hj')
    simp only [iT,oB 2 j,yE] at this
    rw [this,aH,kd hj',zJ hj']
    rfl
   ·by_cases hj2:j < aF ps+aF qs
    ·have hj':j - aF ps < (fV qs z).length:=by rw [bE]; omega
     have:=k2 (j - aF ps) _ (zJ hj')
     rw [show 2+aF ps+(j - aF ps)=j+2 by omega] at this
     simp only [iT,yE] at this
     rw [this,aH,lw (by rw [bE]; omega),bE,zJ hj']
     rfl
    ·rw [aH,aH,dg (by simp [bE]; omega),dg (by omega)]
 rw [e]
 exact h2

def tJ (ps qs:List CP) (outs:List Sh) (r:AV) (h:List AO):Option (zx (outs.map some)×zu ps×zu qs):=match h with
 | .box cs::.box ds::os=>if os.length=aF ps+aF qs then match ah [] outs r,cz (iT (.box cs::.box ds::os)) 2 ps cs,cz (iT (.box cs::.box ds::os)) (2+aF ps) qs ds with
   | some a,some y,some z=>some (a,y,z)
   | _,_,_=>none
  else none
 | _=>none

def ST (ps qs:List CP) (ks outs:List Sh) (ps' qs':List CP) (c:zu ps→zu qs→zx (ks.map some)→Bool) (g:zu ps→zu qs→zx (ks.map some)→zx (outs.map some)×zu ps'×zu qs'):cG (none::none::ks.map some):=fun x h=>match x.1,x.2.1,h with
 | .ptr 0 0,.ptr 1 0,.box cs::.box ds::os=>if os.length=aF ps+aF qs then match cz (iT (.box cs::.box ds::os)) 2 ps cs,cz (iT (.box cs::.box ds::os)) (2+aF ps) qs ds with
   | some y,some z=>.chk (c y z x.2.2) (.ok (s6 outs (g y z x.2.2).1,aZ ps' qs' (g y z x.2.2).2.1 (g y z x.2.2).2.2))
   | _,_=>.err
  else .err
 | _,_,_=>.err

def Ht (ps qs:List CP) (ks outs:List Sh) (ps' qs':List CP) (c:zu ps→zu qs→zx (ks.map some)→Bool) (g:zu ps→zu qs→zx (ks.map some)→zx (outs.map some)×zu ps'×zu qs'):zF:=zU (none::none::ks.map some) (ST ps qs ks outs ps' qs' c g)

theorem KL {P:Program} {gl:Nat→AV} {E:bx} {k:FuncId} {f:Func} {ps qs:List CP} {ks outs:List Sh} {ps' qs':List CP} {c:zu ps→zu qs→zx (ks.map some)→Bool} {g:zu ps→zu qs→zx (ks.map some)→zx (outs.map some)×zu ps'×zu qs'} (hf:zA E.P k f (ks.length+2))
  (h:∀ y z x,c y z x=true→∀ C:cI,(∀ id,aF ps+aF qs+2≤id→C.ρ0 id=none)→Reach E C k (aC f) (ar f.ntmps (.ptr 0 0::.ptr 1 0::gD (ks.map some) x) (aZ ps qs y z)) (fun r h=>tJ ps' qs' outs r h=some (g y z x))) (qp:E.P=P:=by rfl) (qg:E.gl=gl:=by rfl):
  mv P gl k (Ht ps qs ks outs ps' qs' c g):=by
 subst qp qg
 refine bC (by simpa using hf) fun x h0 res hx C hC=>?_
 obtain ⟨x0,x1,x⟩:=x
 unfold ST at hx
 simp only at hx
 split at hx
 ·rename_i cs ds os
  split at hx
  ·rename_i hos
   split at hx
   ·rename_i y z hy hz
    simp only [Tr.val] at hx
    split at hx
    ·rename_i hc
     simp only [ap] at hx
     subst hx
     have hR:=h y z x hc C (fun id hid=>hC id (by simpa [hos] using hid))
     intro b cs' a w U ρ h1 h2 hcn hW
     have hH:hJ C w U ρ (fun j=>((AO.box cs::AO.box ds::os).getD j .dead)):=hcn.hp
     have hcn':Cn C (ar f.ntmps (.ptr 0 0::.ptr 1 0::gD (ks.map some) x) (aZ ps qs y z)) a w U ρ:=
      ⟨hcn.tm,hH.box2 hos hy hz,fun id hid=>hcn.new id (by have hid:(aZ ps qs y z).length≤id:=hid; rw [mI] at hid; simpa [ar,hos] using hid),hcn.df,hcn.r0⟩
     obtain ⟨e,w',fr,⟨v,r,h',U',ρ',he,hq,hrv,hH',hnew,hr0,hWd⟩,hcm,hf',hl⟩:=hR b cs' a w U ρ h1 h2 hcn' hW
     unfold tJ at hq
     split at hq
     ·rename_i cs2 ds2 os2
      split at hq
      ·rename_i hos2
       split at hq
       ·rename_i a' y' z' ha' hy' hz'
        simp only [ap] at hq
        refine ⟨e,w',fr,⟨v,_,_,U',ρ',he,by rw [← hq],AN ha' hrv,hH'.box2 hos2 hy' hz',fun id hid=>hnew id (by rw [mI] at hid; simpa [hos2] using hid),hr0,hWd⟩,hcm,hf',hl⟩
       ·cases hq
      ·cases hq
     ·cases hq
    ·simp at hx
   ·simp at hx
  ·simp at hx
 ·simp at hx

def Ej {σ:Type} (outs:List Sh) (ps' qs':List CP) (t:σ→Tr (σ ⊕ ao)) (n:Nat) (i:Tr (σ ⊕ ao)):Option (zx (outs.map some)×zu ps'×zu qs'):=(bl t n i).bind fun r=>tJ ps' qs' outs r.1 r.2

theorem KK {P:Program} {gl:Nat→AV} {σ:Type} {E:bx} {k:FuncId} {f:Func} {ps qs:List CP} {ks outs:List Sh} {ps' qs':List CP} {keep:Nat→aj} {gas n:Nat} {e:σ→Nat×St} {t:σ→Tr (σ ⊕ ao)} {i:zu ps→zu qs→zx (ks.map some)→Tr (σ ⊕ ao)} {c:zu ps→zu qs→zx (ks.map some)→Bool} {g:zu ps→zu qs→zx (ks.map some)→zx (outs.map some)×zu ps'×zu qs'}
  (hE:zl E) (hf:zA E.P k f (ks.length+2)) (hgo:∀ y z x,run E (aF ps+aF qs+2) keep f.results.toList gas (aC f) (ar f.ntmps (.ptr 0 0::.ptr 1 0::gD (ks.map some) x) (aZ ps qs y z))=(i y z x).map (lf f e))
  (hon:∀ s,run E (aF ps+aF qs+2) keep f.results.toList gas (zy f (e s).1) (e s).2=(t s).map (lf f e))
  (hc:∀ y z x,c y z x=(Ej outs ps' qs' t n (i y z x)).isSome) (hg:∀ y z x,g y z x=(Ej outs ps' qs' t n (i y z x)).getD (cq outs,fX ps',fX qs')) (qp:E.P=P:=by rfl) (qg:E.gl=gl:=by rfl):mv P gl k (Ht ps qs ks outs ps' qs' c g):=by
 subst qp qg
 refine KL hf fun y z x hcx C hC=>?_
 rw [hc,Option.isSome_iff_exists] at hcx
 obtain ⟨u,hu⟩:=hcx
 rw [hg,hu]
 unfold Ej at hu
 rw [fa] at hu
 obtain ⟨r,h1,h2⟩:=hu
 exact kQ (Q:=fun r h=>tJ ps' qs' outs r h=some u) hE hf hC (n+1) _ _ r (by rw [jB hon (hgo y z x)]; exact h1) h2


abbrev MS:=mn []
theorem XQ:zA HH.P 110 Tryz.f110 1:=aS (by kernel_rfl)
noncomputable def Ml (y:zu zK):Tr (Empty ⊕ ao):=
 let a0:=(y.1,y.2.1,y.2.2.1,())
 let a1:=nh a0 [45]
 let a2:=IntKind.i64.wrap (a1.2.2.1+2)
 let a3:=(↑(length a1.2.1):Int)
 let a4:=decide (0≤a1.2.2.1)
 let a5:=List.drop (toNat a1.2.2.1) a1.2.1
 let a6:=List.take (a2.toNat - toNat a1.2.2.1) a5
 let a7:=Iw a6
 let a8:=IntKind.i64.wrap (a1.2.2.1+1)
 let a9:=List.take (a8.toNat - toNat a1.2.2.1) a5
 let a10:=Iw a9
 Tr.chk (ki a0 [45])
 (Tr.br a1.1
  (Tr.br (decide (a2 > a3)) (Tr.re (AV.agg [AV.int .i64 0,AV.int .i64 0,AV.str []]) [AO.box [AV.sl zq a1.2.1,AV.int .i64 a1.2.2.1,AV.kb false]]) (Tr.chk (a4&&decide (a1.2.2.1≤a2)&&decide (a2≤a3)) (Tr.chk (Es a6) (Tr.br (bif !a7.2.2 then true else bif a7.2.1 != 2 then true else !ze.op a7.1==[108,105,116])
  (Tr.re (AV.agg [AV.int .i64 (ze.v a7.1).1,AV.int .i64 (ze.v a7.1).2.1,AV.str (ze.v a7.1).2.2]) [AO.box [AV.sl zq a1.2.1,AV.int .i64 a2,AV.kb false]]) (Tr.re (AV.agg [AV.int .i64 (ze.v a7.1).1,AV.int .i64 (ze.v a7.1).2.1,AV.str (ze.v a7.1).2.2]) (cj zK (a1.2.1,a2,a1.2.2.2)))))))
  (Tr.br (decide (a8 > a3)) (Tr.re (AV.agg [AV.int .i64 0,AV.int .i64 0,AV.str []]) [AO.box [AV.sl zq a1.2.1,AV.int .i64 a1.2.2.1,AV.kb false]]) (Tr.chk (a4&&decide (a1.2.2.1≤a8)&&decide (a8≤a3)) (Tr.chk (Es a9) (Tr.br (bif !a10.2.2 then true else bif a10.2.1 != 1 then true else !ze.op a10.1==[108,105,116])
  (Tr.re (AV.agg [AV.int .i64 (ze.v a10.1).1,AV.int .i64 (ze.v a10.1).2.1,AV.str (ze.v a10.1).2.2]) [AO.box [AV.sl zq a1.2.1,AV.int .i64 a8,AV.kb false]]) (Tr.re (AV.agg [AV.int .i64 (ze.v a10.1).1,AV.int .i64 (ze.v a10.1).2.1,AV.str (ze.v a10.1).2.2]) (cj zK (a1.2.1,a8,a1.2.2.2))))))))
theorem WA (y:zu zK):rn HH 1 MS Tryz.f110 [AV.ptr 0 0] (cj zK y)=(Ml y).map (lf Tryz.f110 e0):=by kernel_rfl
noncomputable def Ol (y:zu zK):Option (zx (List.map some [zf])×zu zK):=yj [zf] zK t0 100000000 (Ml y)
noncomputable def GQ (y:zu zK):Bool:=(Ol y).isSome
noncomputable def IB (y:zu zK):(Sem zf)×zu zK:=(fun r:zx (List.map some [zf])×zu zK=>(r.1.1,r.2)) ((Ol y).getD (cq [zf],fX zK))
noncomputable def RG:zF:=xY zK [] [zf] zK (fun y _=>GQ y) fun y _=>(((IB y).1,()),(IB y).2)
theorem O9:FK 110 RG:=qZ (ps:=zK) (ks:=[]) (outs:=[zf]) (keep:=MS) (gas:=400) (n:=100000000) (e:=e0) (t:=t0) (i:=fun y x=>Ml y) Ak XQ (fun y x=>WA y) (Kw _ _ _ _ _) (fun _ _=>by kernel_rfl) (fun _ _=>by kernel_rfl)

noncomputable def DO:=HH.add 110 RG
theorem Al:zl DO:=Ak.add O9
noncomputable section
abbrev Qm:List CP:=[.d .str,.d .str,.d .str,.nil,.vec zi,.d .str,.nil,.nil,.d .str,.d zg,.d zg,.d .str,.d .str,.nil,.nil,.nil,.d .str,.d zg,.d zg,.d .str,.d .str,.nil,.d .str]
abbrev oy:List CP:=[.d .str,.d .str,.d .str,.nil,.vec zi,.d .str,.vec .str,.vec bJ,.d .str,.d zg,.d zg,.d .str,.d .str,.nil,.nil,.nil,.d .str,.d zg,.d zg,.d .str,.d .str,.nil,.d .str]
abbrev gw:List CP:=[.d .str,.d .str,.d .str,.nil,.vec zi,.d .str,.vec .str,.vec bJ,.d .expr,.nil,.nil,.d .str,.d zg,.d zg,.d .str,.d .str,.nil,.d .str]

abbrev Gc:Nat→aj:=fun j=>if j=4 then { slots:=[0,1],prom:=[(1,some 4,zi)] } else if j=23 then { slots:=[0,1,5],prom:=[(1,some 6,.str),(1,some 7,bJ)] } else if j=500013 then { slots:=[0,1,4,47],cut:=true } else if j=500025 then { slots:=[0,1,5,85],cut:=true } else if j=500029 then { slots:=[0,1,5,107],cut:=true } else if j=500035 then { slots:=[0,1,5,133],cut:=true } else if j=1000000 then { prom:=[(1,some 4,zi),(1,some 6,.str),(1,some 7,bJ),(1,some 13,.expr)],sett:=[(1,13)] } else { }
inductive bD where
 | h4 (z0:zu zK) (z1:zu Qm)
 | h500013 (b47:Sem Sh.bool) (z0:zu zK) (z1:zu Qm) (jc0:Sem Sh.str) (jc1:Int)
 | h23 (i5:Int) (z1:zu oy) (ja0:List (Sem zq)) (ja1:Sem zg) (bh_0_2:Sem Sh.bool)
 | h500025 (i5:Int) (b85:Sem Sh.bool) (z0:zu zK) (z1:zu oy)
 | h500025b (i5:Int) (z0:zu zK) (z1:zu oy)
 | h500029 (i5:Int) (b107:Sem Sh.bool) (z0:zu zK) (z1:zu oy)
 | h500029b (i5:Int) (z0:zu zK) (z1:zu oy)
 | h500035 (i5:Int) (b133:Sem Sh.bool) (z0:zu zK) (z1:zu oy)
 | h500035b (i5:Int) (z0:zu zK) (z1:zu oy)
 | h23b (i5:Int) (z1:zu gw) (ja0:List (Sem zq)) (ja1:Sem zg) (bh_0_2:Sem Sh.bool)
 | h23bb (i5:Int) (z1:zu oy) (ja0:List (Sem zq)) (ja1:Sem zg)
 | h500025bb (i5:Int) (b85:Sem Sh.bool) (z0:zu zK) (z1:zu gw)
 | h500025bbb (i5:Int) (z0:zu zK) (z1:zu gw)
 | h500029bb (i5:Int) (b107:Sem Sh.bool) (z0:zu zK) (z1:zu gw)
 | h500029bbb (i5:Int) (z0:zu zK) (z1:zu gw)
 | h500035bb (i5:Int) (b133:Sem Sh.bool) (z0:zu zK) (z1:zu gw)
 | h500035bbb (i5:Int) (z0:zu zK) (z1:zu gw)
 | h23bbb (i5:Int) (z1:zu gw) (ja0:List (Sem zq)) (ja1:Sem zg)
abbrev Dl:bD→Nat×St
 | .h4 z0 z1=>(4,⟨tm 147 [(0,AV.ptr 0 0),(1,AV.ptr 1 0)],[AO.box (bK [] zK z0),AO.box (bK [2] Qm z1),AO.vec zi z1.2.2.2.1]⟩)
 | .h500013 b47 z0 z1 jc0 jc1=>(500013,⟨tm 147 [(0,AV.ptr 0 0),(1,AV.ptr 1 0),(4,AV.ptr 2 0),(47,AV.bool b47)],[AO.box (bK [] zK z0),AO.box (bK [3] Qm z1),AO.box [AV.str jc0,AV.int .i64 jc1,AV.kb false],AO.vec zi z1.2.2.2.1]⟩)
 | .h23 i5 z1 ja0 ja1 bh_0_2=>(23,⟨tm 147 [(0,AV.ptr 0 0),(1,AV.ptr 1 0),(5,AV.int .i64 i5)],[AO.box [AV.sl zq ja0,AV.int .i64 ja1,AV.bool bh_0_2],AO.box (bK [2,3,4] oy z1),AO.vec zi z1.2.2.2.1,AO.vec Sh.str z1.2.2.2.2.2.1,AO.vec (Sh.str.pr Sh.str) z1.2.2.2.2.2.2.1]⟩)
 | .h500025 i5 b85 z0 z1=>(500025,⟨tm 147 [(0,AV.ptr 0 0),(1,AV.ptr 1 0),(5,AV.int .i64 i5),(85,AV.bool b85)],[AO.box (bK [] zK z0),AO.box (bK [2,3,4] oy z1),AO.vec zi z1.2.2.2.1,AO.vec Sh.str z1.2.2.2.2.2.1,AO.vec (Sh.str.pr Sh.str) z1.2.2.2.2.2.2.1]⟩)
 | .h500025b i5 z0 z1=>(500025,⟨tm 147 [(0,AV.ptr 0 0),(1,AV.ptr 1 0),(5,AV.int .i64 i5),(85,AV.kb false)],[AO.box (bK [] zK z0),AO.box (bK [2,3,4] oy z1),AO.vec zi z1.2.2.2.1,AO.vec Sh.str z1.2.2.2.2.2.1,AO.vec (Sh.str.pr Sh.str) z1.2.2.2.2.2.2.1]⟩)
 | .h500029 i5 b107 z0 z1=>(500029,⟨tm 147 [(0,AV.ptr 0 0),(1,AV.ptr 1 0),(5,AV.int .i64 i5),(107,AV.bool b107)],[AO.box (bK [] zK z0),AO.box (bK [2,3,4] oy z1),AO.vec zi z1.2.2.2.1,AO.vec Sh.str z1.2.2.2.2.2.1,AO.vec (Sh.str.pr Sh.str) z1.2.2.2.2.2.2.1]⟩)
 | .h500029b i5 z0 z1=>(500029,⟨tm 147 [(0,AV.ptr 0 0),(1,AV.ptr 1 0),(5,AV.int .i64 i5),(107,AV.kb false)],[AO.box (bK [] zK z0),AO.box (bK [2,3,4] oy z1),AO.vec zi z1.2.2.2.1,AO.vec Sh.str z1.2.2.2.2.2.1,AO.vec (Sh.str.pr Sh.str) z1.2.2.2.2.2.2.1]⟩)
 | .h500035 i5 b133 z0 z1=>(500035,⟨tm 147 [(0,AV.ptr 0 0),(1,AV.ptr 1 0),(5,AV.int .i64 i5),(133,AV.bool b133)],[AO.box (bK [] zK z0),AO.box (bK [2,3,4] oy z1),AO.vec zi z1.2.2.2.1,AO.vec Sh.str z1.2.2.2.2.2.1,AO.vec (Sh.str.pr Sh.str) z1.2.2.2.2.2.2.1]⟩)
 | .h500035b i5 z0 z1=>(500035,⟨tm 147 [(0,AV.ptr 0 0),(1,AV.ptr 1 0),(5,AV.int .i64 i5),(133,AV.kb false)],[AO.box (bK [] zK z0),AO.box (bK [2,3,4] oy z1),AO.vec zi z1.2.2.2.1,AO.vec Sh.str z1.2.2.2.2.2.1,AO.vec (Sh.str.pr Sh.str) z1.2.2.2.2.2.2.1]⟩)
 | .h23b i5 z1 ja0 ja1 bh_0_2=>(23,⟨tm 147 [(0,AV.ptr 0 0),(1,AV.ptr 1 0),(5,AV.int .i64 i5)],[AO.box [AV.sl zq ja0,AV.int .i64 ja1,AV.bool bh_0_2],AO.box (bK [2,3,4] gw z1),AO.vec zi z1.2.2.2.1,AO.vec Sh.str z1.2.2.2.2.2.1,AO.vec (Sh.str.pr Sh.str) z1.2.2.2.2.2.2.1]⟩)
 | .h23bb i5 z1 ja0 ja1=>(23,⟨tm 147 [(0,AV.ptr 0 0),(1,AV.ptr 1 0),(5,AV.int .i64 i5)],[AO.box [AV.sl zq ja0,AV.int .i64 ja1,AV.kb false],AO.box (bK [2,3,4] oy z1),AO.vec zi z1.2.2.2.1,AO.vec Sh.str z1.2.2.2.2.2.1,AO.vec (Sh.str.pr Sh.str) z1.2.2.2.2.2.2.1]⟩)
 | .h500025bb i5 b85 z0 z1=>(500025,⟨tm 147 [(0,AV.ptr 0 0),(1,AV.ptr 1 0),(5,AV.int .i64 i5),(85,AV.bool b85)],[AO.box (bK [] zK z0),AO.box (bK [2,3,4] gw z1),AO.vec zi z1.2.2.2.1,AO.vec Sh.str z1.2.2.2.2.2.1,AO.vec (Sh.str.pr Sh.str) z1.2.2.2.2.2.2.1]⟩)
 | .h500025bbb i5 z0 z1=>(500025,⟨tm 147 [(0,AV.ptr 0 0),(1,AV.ptr 1 0),(5,AV.int .i64 i5),(85,AV.kb false)],[AO.box (bK [] zK z0),AO.box (bK [2,3,4] gw z1),AO.vec zi z1.2.2.2.1,AO.vec Sh.str z1.2.2.2.2.2.1,AO.vec (Sh.str.pr Sh.str) z1.2.2.2.2.2.2.1]⟩)
 | .h500029bb i5 b107 z0 z1=>(500029,⟨tm 147 [(0,AV.ptr 0 0),(1,AV.ptr 1 0),(5,AV.int .i64 i5),(107,AV.bool b107)],[AO.box (bK [] zK z0),AO.box (bK [2,3,4] gw z1),AO.vec zi z1.2.2.2.1,AO.vec Sh.str z1.2.2.2.2.2.1,AO.vec (Sh.str.pr Sh.str) z1.2.2.2.2.2.2.1]⟩)
 | .h500029bbb i5 z0 z1=>(500029,⟨tm 147 [(0,AV.ptr 0 0),(1,AV.ptr 1 0),(5,AV.int .i64 i5),(107,AV.kb false)],[AO.box (bK [] zK z0),AO.box (bK [2,3,4] gw z1),AO.vec zi z1.2.2.2.1,AO.vec Sh.str z1.2.2.2.2.2.1,AO.vec (Sh.str.pr Sh.str) z1.2.2.2.2.2.2.1]⟩)
 | .h500035bb i5 b133 z0 z1=>(500035,⟨tm 147 [(0,AV.ptr 0 0),(1,AV.ptr 1 0),(5,AV.int .i64 i5),(133,AV.bool b133)],[AO.box (bK [] zK z0),AO.box (bK [2,3,4] gw z1),AO.vec zi z1.2.2.2.1,AO.vec Sh.str z1.2.2.2.2.2.1,AO.vec (Sh.str.pr Sh.str) z1.2.2.2.2.2.2.1]⟩)
 | .h500035bbb i5 z0 z1=>(500035,⟨tm 147 [(0,AV.ptr 0 0),(1,AV.ptr 1 0),(5,AV.int .i64 i5),(133,AV.kb false)],[AO.box (bK [] zK z0),AO.box (bK [2,3,4] gw z1),AO.vec zi z1.2.2.2.1,AO.vec Sh.str z1.2.2.2.2.2.1,AO.vec (Sh.str.pr Sh.str) z1.2.2.2.2.2.2.1]⟩)
 | .h23bbb i5 z1 ja0 ja1=>(23,⟨tm 147 [(0,AV.ptr 0 0),(1,AV.ptr 1 0),(5,AV.int .i64 i5)],[AO.box [AV.sl zq ja0,AV.int .i64 ja1,AV.kb false],AO.box (bK [2,3,4] gw z1),AO.vec zi z1.2.2.2.1,AO.vec Sh.str z1.2.2.2.2.2.1,AO.vec (Sh.str.pr Sh.str) z1.2.2.2.2.2.2.1]⟩)
theorem XO:zA DO.P 107 Tryz.f107 2:=aS (by kernel_rfl)
def Mj (y:zu zK) (z:zu eT):Tr (bD ⊕ ao):=
 let a0:=(y.1,y.2.1,y.2.2.1,())
 let a1:=ac a0 [84,65,66,76,69]
 let a2:=(a1.1,a1.2.1,a1.2.2.1,())
 let a3:=aO a2
 let a4:=(a3.2.1,a3.2.2.1,a3.2.2.2.1,())
 Tr.chk (zQ a0 [84,65,66,76,69])
 (Tr.chk (au a2) (Tr.chk (zQ a4 [40]) (Tr.to (bD.h4 (ac a4 [40]) ([99,114,101,97,116,101],a3.1,z.2.2.1,[],z.2.2.2)))))
theorem Wy (y:zu zK) (z:zu eT):rn DO 2 Gc Tryz.f107 [AV.ptr 0 0,AV.ptr 1 0] (aZ zK eT y z)=(Mj y z).map (lf Tryz.f107 Dl):=by kernel_rfl
def OI:bD→Tr (bD ⊕ ao)
 | .h4 z0 z1=>
  let a0:=(z0.1,z0.2.1,z0.2.2.1,())
  let a1:=nh a0 [75,69,89]
  let a2:=(a1.2.1,a1.2.2.1,a1.2.2.2.1,())
  let a3:=aO a2
  let a4:=(a3.2.1,a3.2.2.1,a3.2.2.2.1,())
  let a5:=bq a4 [73,78,84]
  let a6:=(a5.2.1,a5.2.2.1,a5.2.2.2.1,())
  let a7:=bq a6 [78,79,84]
  let a8:=bq a6 [84,69,88,84]
  let a9:=(a8.2.1,a8.2.2.1,a8.2.2.2.1,())
  let a10:=bq a9 [78,79,84]
  let a11:=bq a9 [66,79,79,76]
  let a12:=(a11.2.1,a11.2.2.1,a11.2.2.2.1,())
  let a13:=bq a12 [78,79,84]
  let a14:=(a11.2.1,a11.2.2.1,false,())
  let a15:=bq a14 [78,79,84]
  let a16:=ac a2 [75,69,89]
  let a17:=(a16.1,a16.2.1,a16.2.2.1,())
  let a18:=ac a17 [40]
  let a19:=(a18.1,a18.2.1,a18.2.2.1,())
  let a20:=aO a19
  let a21:=(a20.2.1,a20.2.2.1,a20.2.2.2.1,())
  let a22:=([],[],z1.2.2.2.2.2)
  let a23:=ac a21 [41]
  let a24:=ac a0 [75,69,89]
  let a25:=(a24.1,a24.2.1,a24.2.2.1,())
  let a26:=ac a25 [40]
  let a27:=(a26.1,a26.2.1,a26.2.2.1,())
  let a28:=aO a27
  let a29:=(a28.2.1,a28.2.2.1,a28.2.2.2.1,())
  let a30:=ac a29 [41]
  Tr.br z0.2.2.1
  (Tr.chk (ki a0 [75,69,89]) (Tr.br (!a1.1) (Tr.chk (au a2) (Tr.chk (aU a4 [73,78,84]) (Tr.br a5.1 (Tr.chk (aU a6 [78,79,84]) (Tr.to (bD.h500013 a7.1 a7.2 z1 a3.1 1))) (Tr.chk (aU a6 [84,69,88,84]) (Tr.br a8.1 (Tr.chk (aU a9 [78,79,84]) (Tr.to (bD.h500013 a10.1 a10.2 z1 a3.1 2))) (Tr.chk (aU a9 [66,79,79,76])
  (Tr.br a11.1 (Tr.chk (aU a12 [78,79,84]) (Tr.to (bD.h500013 a13.1 a13.2 z1 a3.1 3))) (Tr.chk (aU a14 [78,79,84]) (Tr.to (bD.h500013 a15.1 a15.2 z1 a3.1 0)))))))))) (Tr.chk (zQ a2 [75,69,89]) (Tr.chk (zQ a17 [40]) (Tr.chk (au a19) (Tr.chk (zQ a21 [41]) (Tr.to (bD.h23 0 (z1.1,z1.2.1,z1.2.2.1,z1.2.2.2.1,a20.1,a22) a23.1 a23.2.1 a23.2.2.1))))))))
  (Tr.chk (zQ a0 [75,69,89]) (Tr.chk (zQ a25 [40]) (Tr.chk (au a27) (Tr.chk (zQ a29 [41]) (Tr.to (bD.h23 0 (z1.1,z1.2.1,z1.2.2.1,z1.2.2.2.1,a28.1,a22) a30.1 a30.2.1 a30.2.2.1))))))
 | .h500013 b47 z0 z1 jc0 jc1=>
  let a0:=(z0.1,z0.2.1,z0.2.2.1,())
  let a1:=[(jc0,jc1,true)]
  let a2:=ac a0 [78,85,76,76]
  let a3:=(a2.1,a2.2.1,a2.2.2.1,())
  let a4:=[(jc0,jc1,false)]
  Tr.br b47
  (Tr.chk (zQ a0 [78,85,76,76]) (Tr.chk (decide (z1.2.2.2.1.length+a1.length≤1073741824)) (Tr.chk (zQ a3 [44]) (Tr.to (bD.h4 (ac a3 [44]) (z1.1,z1.2.1,z1.2.2.1,z1.2.2.2.1++a1,z1.2.2.2.2))))))
  (Tr.chk (decide (z1.2.2.2.1.length+a4.length≤1073741824)) (Tr.chk (zQ a0 [44]) (Tr.to (bD.h4 (ac a0 [44]) (z1.1,z1.2.1,z1.2.2.1,z1.2.2.2.1++a4,z1.2.2.2.2)))))
 | .h23 i5 z1 ja0 ja1 bh_0_2=>
  let a0:=(ja0,ja1,bh_0_2,())
  let a1:=bq a0 [44]
  let a2:=(a1.2.1,a1.2.2.1,a1.2.2.2.1,())
  let a3:=bq a2 [85,78,73,81,85,69]
  let a4:=(z1.1,z1.2.1,z1.2.2.1,z1.2.2.2.1,z1.2.2.2.2.1,z1.2.2.2.2.2.1,z1.2.2.2.2.2.2.1,ze.mk z1.2.2.2.2.2.2.2.1 (z1.2.2.2.2.2.2.2.2.1,z1.2.2.2.2.2.2.2.2.2.1,z1.2.2.2.2.2.2.2.2.2.2.1) z1.2.2.2.2.2.2.2.2.2.2.2.1 [],z1.2.2.2.2.2.2.2.2.2.2.2.2)
  Tr.br bh_0_2
  (Tr.chk (aU a0 [44]) (Tr.br a1.1 (Tr.br (i5==0) (Tr.chk (aU a2 [85,78,73,81,85,69]) (Tr.to (bD.h500025 i5 a3.1 a3.2 z1))) (Tr.to (bD.h500025b i5 a1.2 z1))) (Tr.chk (zQ a2 [41]) (Tr.re (AV.tup []) (aZ zK gw (ac a2 [41]) a4)))))
  (Tr.chk (zQ a0 [41]) (Tr.re (AV.tup []) (aZ zK gw (ac a0 [41]) a4)))
 | .h500025 i5 b85 z0 z1=>
  let a0:=(z0.1,z0.2.1,z0.2.2.1,())
  let a1:=ac a0 [40]
  let a2:=(a1.1,a1.2.1,a1.2.2.1,())
  let a3:=aO a2
  let a4:=[a3.1]
  let a5:=(a3.2.1,a3.2.2.1,a3.2.2.2.1,())
  let a6:=ac a5 [41]
  let a7:=bq a0 [82,69,70,69,82,69,78,67,69,83]
  Tr.br b85
  (Tr.chk (zQ a0 [40]) (Tr.chk (au a2) (Tr.chk (decide (z1.2.2.2.2.2.1.length+a4.length≤1073741824)) (Tr.chk (zQ a5 [41]) (Tr.to (bD.h23 i5 (z1.1,z1.2.1,z1.2.2.1,z1.2.2.2.1,z1.2.2.2.2.1,z1.2.2.2.2.2.1++a4,z1.2.2.2.2.2.2) a6.1 a6.2.1 a6.2.2.1))))))
  (Tr.br (decide (i5≤1)) (Tr.chk (aU a0 [82,69,70,69,82,69,78,67,69,83]) (Tr.to (bD.h500029 i5 a7.1 a7.2 z1))) (Tr.to (bD.h500029b i5 z0 z1)))
 | .h500025b i5 z0 z1=>
  let a0:=(z0.1,z0.2.1,z0.2.2.1,())
  let a1:=bq a0 [82,69,70,69,82,69,78,67,69,83]
  Tr.br (decide (i5≤1)) (Tr.chk (aU a0 [82,69,70,69,82,69,78,67,69,83]) (Tr.to (bD.h500029 i5 a1.1 a1.2 z1)))
  (Tr.to (bD.h500029b i5 z0 z1))
 | .h500029 i5 b107 z0 z1=>
  let a0:=(z0.1,z0.2.1,z0.2.2.1,())
  let a1:=ac a0 [40]
  let a2:=(a1.1,a1.2.1,a1.2.2.1,())
  let a3:=aO a2
  let a4:=(a3.2.1,a3.2.2.1,a3.2.2.2.1,())
  let a5:=ac a4 [41]
  let a6:=(a5.1,a5.2.1,a5.2.2.1,())
  let a7:=aO a6
  let a8:=[(a3.1,a7.1)]
  let a9:=nh a0 [67,72,69,67,75]
  Tr.br b107
  (Tr.chk (zQ a0 [40]) (Tr.chk (au a2) (Tr.chk (zQ a4 [41]) (Tr.chk (au a6) (Tr.chk (decide (z1.2.2.2.2.2.2.1.length+a8.length≤1073741824)) (Tr.to (bD.h23 1 (z1.1,z1.2.1,z1.2.2.1,z1.2.2.2.1,z1.2.2.2.2.1,z1.2.2.2.2.2.1,z1.2.2.2.2.2.2.1++a8,z1.2.2.2.2.2.2.2) a7.2.1 a7.2.2.1 a7.2.2.2.1)))))))
  (Tr.br (decide (i5≤2)) (Tr.chk (ki a0 [67,72,69,67,75]) (Tr.to (bD.h500035 i5 a9.1 a9.2 z1))) (Tr.to (bD.h500035b i5 z0 z1)))
 | .h500029b i5 z0 z1=>
  let a0:=(z0.1,z0.2.1,z0.2.2.1,())
  let a1:=nh a0 [67,72,69,67,75]
  Tr.br (decide (i5≤2)) (Tr.chk (ki a0 [67,72,69,67,75]) (Tr.to (bD.h500035 i5 a1.1 a1.2 z1))) (Tr.to (bD.h500035b i5 z0 z1))
 | .h500035 i5 b133 z0 z1=>
  let a0:=(z0.1,z0.2.1,z0.2.2.1,())
  let a1:=dr a0 [67,72,69,67,75]
  Tr.br b133
  (Tr.chk (cD a0 [67,72,69,67,75]) (Tr.to (bD.h23b 3 (z1.1,z1.2.1,z1.2.2.1,z1.2.2.2.1,z1.2.2.2.2.1,z1.2.2.2.2.2.1,z1.2.2.2.2.2.2.1,a1.1,z1.2.2.2.2.2.2.2.2.2.2.2.2) a1.2.1 a1.2.2.1 a1.2.2.2.1)))
  (Tr.to (bD.h23bb i5 z1 z0.1 z0.2.1))
 | .h500035b i5 z0 z1=>
  Tr.to (bD.h23bb i5 z1 z0.1 z0.2.1)
 | .h23b i5 z1 ja0 ja1 bh_0_2=>
  let a0:=(ja0,ja1,bh_0_2,())
  let a1:=bq a0 [44]
  let a2:=(a1.2.1,a1.2.2.1,a1.2.2.2.1,())
  let a3:=bq a2 [85,78,73,81,85,69]
  Tr.br bh_0_2
  (Tr.chk (aU a0 [44]) (Tr.br a1.1 (Tr.br (i5==0) (Tr.chk (aU a2 [85,78,73,81,85,69]) (Tr.to (bD.h500025bb i5 a3.1 a3.2 z1))) (Tr.to (bD.h500025bbb i5 a1.2 z1))) (Tr.chk (zQ a2 [41]) (Tr.re (AV.tup []) (aZ zK gw (ac a2 [41]) z1)))))
  (Tr.chk (zQ a0 [41]) (Tr.re (AV.tup []) (aZ zK gw (ac a0 [41]) z1)))
 | .h23bb _ z1 ja0 ja1=>
  let a0:=(ja0,ja1,false,())
  Tr.chk (zQ a0 [41])
  (Tr.re (AV.tup []) (aZ zK gw (ac a0 [41]) (z1.1,z1.2.1,z1.2.2.1,z1.2.2.2.1,z1.2.2.2.2.1,z1.2.2.2.2.2.1,z1.2.2.2.2.2.2.1,ze.mk z1.2.2.2.2.2.2.2.1 (z1.2.2.2.2.2.2.2.2.1,z1.2.2.2.2.2.2.2.2.2.1,z1.2.2.2.2.2.2.2.2.2.2.1) z1.2.2.2.2.2.2.2.2.2.2.2.1 [],z1.2.2.2.2.2.2.2.2.2.2.2.2)))
 | .h500025bb i5 b85 z0 z1=>
  let a0:=(z0.1,z0.2.1,z0.2.2.1,())
  let a1:=ac a0 [40]
  let a2:=(a1.1,a1.2.1,a1.2.2.1,())
  let a3:=aO a2
  let a4:=[a3.1]
  let a5:=(a3.2.1,a3.2.2.1,a3.2.2.2.1,())
  let a6:=ac a5 [41]
  let a7:=bq a0 [82,69,70,69,82,69,78,67,69,83]
  Tr.br b85
  (Tr.chk (zQ a0 [40]) (Tr.chk (au a2) (Tr.chk (decide (z1.2.2.2.2.2.1.length+a4.length≤1073741824)) (Tr.chk (zQ a5 [41]) (Tr.to (bD.h23b i5 (z1.1,z1.2.1,z1.2.2.1,z1.2.2.2.1,z1.2.2.2.2.1,z1.2.2.2.2.2.1++a4,z1.2.2.2.2.2.2) a6.1 a6.2.1 a6.2.2.1))))))
  (Tr.br (decide (i5≤1)) (Tr.chk (aU a0 [82,69,70,69,82,69,78,67,69,83]) (Tr.to (bD.h500029bb i5 a7.1 a7.2 z1))) (Tr.to (bD.h500029bbb i5 z0 z1)))
 | .h500025bbb i5 z0 z1=>
  let a0:=(z0.1,z0.2.1,z0.2.2.1,())
  let a1:=bq a0 [82,69,70,69,82,69,78,67,69,83]
  Tr.br (decide (i5≤1)) (Tr.chk (aU a0 [82,69,70,69,82,69,78,67,69,83]) (Tr.to (bD.h500029bb i5 a1.1 a1.2 z1)))
  (Tr.to (bD.h500029bbb i5 z0 z1))
 | .h500029bb i5 b107 z0 z1=>
  let a0:=(z0.1,z0.2.1,z0.2.2.1,())
  let a1:=ac a0 [40]
  let a2:=(a1.1,a1.2.1,a1.2.2.1,())
  let a3:=aO a2
  let a4:=(a3.2.1,a3.2.2.1,a3.2.2.2.1,())
  let a5:=ac a4 [41]
  let a6:=(a5.1,a5.2.1,a5.2.2.1,())
  let a7:=aO a6
  let a8:=[(a3.1,a7.1)]
  let a9:=nh a0 [67,72,69,67,75]
  Tr.br b107
  (Tr.chk (zQ a0 [40]) (Tr.chk (au a2) (Tr.chk (zQ a4 [41]) (Tr.chk (au a6) (Tr.chk (decide (z1.2.2.2.2.2.2.1.length+a8.length≤1073741824)) (Tr.to (bD.h23b 1 (z1.1,z1.2.1,z1.2.2.1,z1.2.2.2.1,z1.2.2.2.2.1,z1.2.2.2.2.2.1,z1.2.2.2.2.2.2.1++a8,z1.2.2.2.2.2.2.2) a7.2.1 a7.2.2.1 a7.2.2.2.1)))))))
  (Tr.br (decide (i5≤2)) (Tr.chk (ki a0 [67,72,69,67,75]) (Tr.to (bD.h500035bb i5 a9.1 a9.2 z1))) (Tr.to (bD.h500035bbb i5 z0 z1)))
 | .h500029bbb i5 z0 z1=>
  let a0:=(z0.1,z0.2.1,z0.2.2.1,())
  let a1:=nh a0 [67,72,69,67,75]
  Tr.br (decide (i5≤2)) (Tr.chk (ki a0 [67,72,69,67,75]) (Tr.to (bD.h500035bb i5 a1.1 a1.2 z1))) (Tr.to (bD.h500035bbb i5 z0 z1))
 | .h500035bb i5 b133 z0 z1=>
  let a0:=(z0.1,z0.2.1,z0.2.2.1,())
  let a1:=dr a0 [67,72,69,67,75]
  Tr.br b133
  (Tr.chk (cD a0 [67,72,69,67,75]) (Tr.to (bD.h23b 3 (z1.1,z1.2.1,z1.2.2.1,z1.2.2.2.1,z1.2.2.2.2.1,z1.2.2.2.2.2.1,z1.2.2.2.2.2.2.1,a1.1,z1.2.2.2.2.2.2.2.2) a1.2.1 a1.2.2.1 a1.2.2.2.1)))
  (Tr.to (bD.h23bbb i5 z1 z0.1 z0.2.1))
 | .h500035bbb i5 z0 z1=>
  Tr.to (bD.h23bbb i5 z1 z0.1 z0.2.1)
 | .h23bbb _ z1 ja0 ja1=>
  let a0:=(ja0,ja1,false,())
  Tr.chk (zQ a0 [41]) (Tr.re (AV.tup []) (aZ zK gw (ac a0 [41]) z1))
theorem X8:∀ s,run DO 2 Gc (Func.results Tryz.f107).toList 400 (zy Tryz.f107 (Dl s).1) (Dl s).2=(OI s).map (lf Tryz.f107 Dl):=by intro s; cases s <;> kernel_rfl
def AK (y:zu zK) (z:zu eT):Option (zx (List.map some [])×zu zK×zu gw):=Ej [] zK gw OI 100000000 (Mj y z)
def AJ (y:zu zK) (z:zu eT):Bool:=(AK y z).isSome
def Ex (y:zu zK) (z:zu eT):zu zK×zu gw:=(fun r:zx (List.map some [])×zu zK×zu gw=>r.2) ((AK y z).getD (cq [],fX zK,fX gw))
def RE:zF:=Ht zK eT [] [] zK gw (fun y z _=>AJ y z) fun y z _=>((),Ex y z)
theorem O7:FK 107 RE:=KK (ps:=zK) (qs:=eT) (ks:=[]) (outs:=[]) (keep:=Gc) (gas:=400) (n:=100000000) (e:=Dl) (t:=OI) (i:=fun y z x=>Mj y z) Al XO (fun y z x=>Wy y z) X8 (fun _ _ _=>by kernel_rfl) (fun _ _ _=>by kernel_rfl)

def Te:=DO.add 107 RE
theorem Jz:zl Te:=Al.add O7
end
noncomputable section
abbrev kD:List CP:=[.d .str,.d .str,.d .str,.vec .str,.nil,.d .str,.nil,.nil,.d .expr,.nil,.nil,.d .str,.d zg,.d zg,.d .str,.d .str,.nil,.d .str]
abbrev Qn:List CP:=[.d .str,.d .str,.d .str,.vec .str,.nil,.d .str,.nil,.nil,.d .str,.d zg,.d zg,.d .str,.d .str,.nil,.nil,.nil,.d .str,.d zg,.d zg,.d .str,.d .str,.nil,.d .str]

abbrev Gd:Nat→aj:=fun j=>if j=14 then { slots:=[0,1,4],prom:=[(1,some 3,.str)] } else if j=1000000 then { prom:=[(1,some 3,.str)] } else { }
inductive oA where
 | h14 (z0:zu zK) (z1:zu Qn)
 | h14b (b4:Sem Sh.bool) (z0:zu zK) (z1:zu Qn)
abbrev Dm:oA→Nat×St
 | .h14 z0 z1=>(14,⟨tm 117 [(0,AV.ptr 0 0),(1,AV.ptr 1 0),(4,AV.kb true)],[AO.box (bK [] zK z0),AO.box (bK [2] Qn z1),AO.vec Sh.str z1.2.2.2.1]⟩)
 | .h14b b4 z0 z1=>(14,⟨tm 117 [(0,AV.ptr 0 0),(1,AV.ptr 1 0),(4,AV.bool b4)],[AO.box (bK [] zK z0),AO.box (bK [2] Qn z1),AO.vec Sh.str z1.2.2.2.1]⟩)
theorem XT:zA DE.P 115 Tryz.f115 2:=aS (by kernel_rfl)
def Mo (y:zu zK) (z:zu eT):Tr (oA ⊕ ao):=
 let a0:=(y.1,y.2.1,y.2.2.1,())
 let a1:=bq a0 [67,79,80,89]
 let a2:=(a1.2.1,a1.2.2.1,a1.2.2.2.1,())
 let a3:=aO a2
 let a4:=(a3.2.1,a3.2.2.1,a3.2.2.2.1,())
 let a5:=ac a4 [70,82,79,77]
 let a6:=(a5.1,a5.2.1,a5.2.2.1,())
 let a7:=aO a6
 let a8:=(a7.2.1,a7.2.2.1,a7.2.2.2.1,())
 let a9:=([],z.2.2.2)
 let a10:=ac a8 [44]
 let a11:=(a10.1,a10.2.1,a10.2.2.1,())
 let a12:=aO a11
 let a13:=(a12.2.1,a12.2.2.1,a12.2.2.2.1,())
 let a14:=ac a13 [79,78]
 let a15:=(a14.1,a14.2.1,a14.2.2.1,())
 let a16:=aO a15
 let a17:=(a16.2.1,a16.2.2.1,a16.2.2.2.1,())
 let a18:=dr a17 [67,72,69,67,75]
 let a19:=ac a8 [66,89]
 let a20:=(a19.1,a19.2.1,a19.2.2.1,())
 let a21:=aO a20
 let a22:=[a21.1]
 let a23:=(a21.2.1,a21.2.2.1,a21.2.2.2.1,())
 let a24:=ac a23 [83,85,77]
 let a25:=(a24.1,a24.2.1,a24.2.2.1,())
 let a26:=aO a25
 let a27:=[a26.1]
 let a28:=(a26.2.1,a26.2.2.1,a26.2.2.2.1,())
 let a29:=dr a28 [67,72,69,67,75]
 let a30:=dr a8 [67,72,69,67,75]
 let a31:=bq a2 [74,79,73,78]
 let a32:=(a31.2.1,a31.2.2.1,a31.2.2.2.1,())
 let a33:=aO a32
 let a34:=(a33.2.1,a33.2.2.1,a33.2.2.2.1,())
 let a35:=ac a34 [70,82,79,77]
 let a36:=(a35.1,a35.2.1,a35.2.2.1,())
 let a37:=aO a36
 let a38:=(a37.2.1,a37.2.2.1,a37.2.2.2.1,())
 let a39:=ac a38 [44]
 let a40:=(a39.1,a39.2.1,a39.2.2.1,())
 let a41:=aO a40
 let a42:=(a41.2.1,a41.2.2.1,a41.2.2.2.1,())
 let a43:=ac a42 [79,78]
 let a44:=(a43.1,a43.2.1,a43.2.2.1,())
 let a45:=aO a44
 let a46:=(a45.2.1,a45.2.2.1,a45.2.2.2.1,())
 let a47:=dr a46 [67,72,69,67,75]
 let a48:=ac a38 [66,89]
 let a49:=(a48.1,a48.2.1,a48.2.2.1,())
 let a50:=aO a49
 let a51:=[a50.1]
 let a52:=(a50.2.1,a50.2.2.1,a50.2.2.2.1,())
 let a53:=ac a52 [83,85,77]
 let a54:=(a53.1,a53.2.1,a53.2.2.1,())
 let a55:=aO a54
 let a56:=[a55.1]
 let a57:=(a55.2.1,a55.2.2.1,a55.2.2.2.1,())
 let a58:=dr a57 [67,72,69,67,75]
 let a59:=dr a38 [67,72,69,67,75]
 let a60:=bq a32 [71,82,79,85,80]
 let a61:=(a60.2.1,a60.2.2.1,a60.2.2.2.1,())
 let a62:=aO a61
 let a63:=(a62.2.1,a62.2.2.1,a62.2.2.2.1,())
 let a64:=ac a63 [70,82,79,77]
 let a65:=(a64.1,a64.2.1,a64.2.2.1,())
 let a66:=aO a65
 let a67:=(a66.2.1,a66.2.2.1,a66.2.2.2.1,())
 let a68:=ac a67 [44]
 let a69:=(a68.1,a68.2.1,a68.2.2.1,())
 let a70:=aO a69
 let a71:=(a70.2.1,a70.2.2.1,a70.2.2.2.1,())
 let a72:=ac a71 [79,78]
 let a73:=(a72.1,a72.2.1,a72.2.2.1,())
 let a74:=aO a73
 let a75:=(a74.2.1,a74.2.2.1,a74.2.2.2.1,())
 let a76:=dr a75 [67,72,69,67,75]
 let a77:=ac a67 [66,89]
 let a78:=(a77.1,a77.2.1,a77.2.2.1,())
 let a79:=aO a78
 let a80:=[a79.1]
 let a81:=(a79.2.1,a79.2.2.1,a79.2.2.2.1,())
 let a82:=ac a81 [83,85,77]
 let a83:=(a82.1,a82.2.1,a82.2.2.1,())
 let a84:=aO a83
 let a85:=[a84.1]
 let a86:=(a84.2.1,a84.2.2.1,a84.2.2.2.1,())
 let a87:=dr a86 [67,72,69,67,75]
 let a88:=dr a67 [67,72,69,67,75]
 let a89:=(a60.2.1,a60.2.2.1,false,())
 let a90:=aO a89
 let a91:=(a90.2.1,a90.2.2.1,a90.2.2.2.1,())
 let a92:=ac a91 [70,82,79,77]
 let a93:=(a92.1,a92.2.1,a92.2.2.1,())
 let a94:=aO a93
 let a95:=(a94.2.1,a94.2.2.1,a94.2.2.2.1,())
 let a96:=ac a95 [44]
 let a97:=(a96.1,a96.2.1,a96.2.2.1,())
 let a98:=aO a97
 let a99:=(a98.2.1,a98.2.2.1,a98.2.2.2.1,())
 let a100:=ac a99 [79,78]
 let a101:=(a100.1,a100.2.1,a100.2.2.1,())
 let a102:=aO a101
 let a103:=(a102.2.1,a102.2.2.1,a102.2.2.2.1,())
 let a104:=dr a103 [67,72,69,67,75]
 let a105:=ac a95 [66,89]
 let a106:=(a105.1,a105.2.1,a105.2.2.1,())
 let a107:=aO a106
 let a108:=[a107.1]
 let a109:=(a107.2.1,a107.2.2.1,a107.2.2.2.1,())
 let a110:=ac a109 [83,85,77]
 let a111:=(a110.1,a110.2.1,a110.2.2.1,())
 let a112:=aO a111
 let a113:=[a112.1]
 let a114:=(a112.2.1,a112.2.2.1,a112.2.2.2.1,())
 let a115:=dr a114 [67,72,69,67,75]
 let a116:=dr a95 [67,72,69,67,75]
 Tr.chk (aU a0 [67,79,80,89])
 (Tr.br a1.1
  (Tr.chk (au a2) (Tr.chk (zQ a4 [70,82,79,77]) (Tr.chk (au a6) (Tr.br true (Tr.chk (zQ a8 [40]) (Tr.to (oA.h14 (ac a8 [40]) ([99,111,112,121],a3.1,a7.1,a9)))) (Tr.br false (Tr.chk (zQ a8 [44]) (Tr.chk (au a11) (Tr.chk (zQ a13 [79,78]) (Tr.chk (au a15) (Tr.chk (cD a17 [67,72,69,67,75]) (Tr.re (AV.tup []) (aZ zK kD a18.2
  ([99,111,112,121],a3.1,a7.1,[],a16.1,a18.1,z.2.2.2.2.2.2.2.2.2.1,z.2.2.2.2.2.2.2.2.2.2.1,z.2.2.2.2.2.2.2.2.2.2.2.1,z.2.2.2.2.2.2.2.2.2.2.2.2.1,z.2.2.2.2.2.2.2.2.2.2.2.2.2.1,a12.1,())))))))) (Tr.br false (Tr.chk (zQ a8 [66,89]) (Tr.chk (au a20) (Tr.chk (decide (a22.length≤1073741824)) (Tr.chk (zQ a23 [83,85,77]) (Tr.chk (au a25)
  (Tr.chk (decide (a22.length+a27.length≤1073741824)) (Tr.chk (cD a28 [67,72,69,67,75]) (Tr.re (AV.tup []) (aZ zK kD a29.2 ([99,111,112,121],a3.1,a7.1,a22++a27,z.2.2.2.1,a29.1,z.2.2.2.2.2.2.2.2.2)))))))))) (Tr.chk (cD a8 [67,72,69,67,75]) (Tr.re (AV.tup []) (aZ zK kD a30.2
  ([99,111,112,121],a3.1,a7.1,[],z.2.2.2.1,a30.1,z.2.2.2.2.2.2.2.2.2))))))))))
  (Tr.chk (aU a2 [74,79,73,78]) (Tr.br a31.1 (Tr.chk (au a32) (Tr.chk (zQ a34 [70,82,79,77]) (Tr.chk (au a36) (Tr.br false (Tr.chk (zQ a38 [40]) (Tr.to (oA.h14 (ac a38 [40]) ([106,111,105,110],a33.1,a37.1,a9)))) (Tr.br true (Tr.chk (zQ a38 [44]) (Tr.chk (au a40) (Tr.chk (zQ a42 [79,78]) (Tr.chk (au a44)
  (Tr.chk (cD a46 [67,72,69,67,75]) (Tr.re (AV.tup []) (aZ zK kD a47.2 ([106,111,105,110],a33.1,a37.1,[],a45.1,a47.1,z.2.2.2.2.2.2.2.2.2.1,z.2.2.2.2.2.2.2.2.2.2.1,z.2.2.2.2.2.2.2.2.2.2.2.1,z.2.2.2.2.2.2.2.2.2.2.2.2.1,z.2.2.2.2.2.2.2.2.2.2.2.2.2.1,a41.1,())))))))) (Tr.br false (Tr.chk (zQ a38 [66,89]) (Tr.chk (au a49)
  (Tr.chk (decide (a51.length≤1073741824)) (Tr.chk (zQ a52 [83,85,77]) (Tr.chk (au a54) (Tr.chk (decide (a51.length+a56.length≤1073741824)) (Tr.chk (cD a57 [67,72,69,67,75]) (Tr.re (AV.tup []) (aZ zK kD a58.2 ([106,111,105,110],a33.1,a37.1,a51++a56,z.2.2.2.1,a58.1,z.2.2.2.2.2.2.2.2.2)))))))))) (Tr.chk (cD a38 [67,72,69,67,75])
  (Tr.re (AV.tup []) (aZ zK kD a59.2 ([106,111,105,110],a33.1,a37.1,[],z.2.2.2.1,a59.1,z.2.2.2.2.2.2.2.2.2)))))))))) (Tr.chk (aU a32 [71,82,79,85,80]) (Tr.br a60.1 (Tr.chk (au a61) (Tr.chk (zQ a63 [70,82,79,77]) (Tr.chk (au a65) (Tr.br false (Tr.chk (zQ a67 [40]) (Tr.to (oA.h14 (ac a67 [40]) ([103,114,111,117,112],a62.1,a66.1,a9))))
  (Tr.br false (Tr.chk (zQ a67 [44]) (Tr.chk (au a69) (Tr.chk (zQ a71 [79,78]) (Tr.chk (au a73) (Tr.chk (cD a75 [67,72,69,67,75]) (Tr.re (AV.tup []) (aZ zK kD a76.2 ([103,114,111,117,112],a62.1,a66.1,[],a74.1,a76.1,z.2.2.2.2.2.2.2.2.2.1,z.2.2.2.2.2.2.2.2.2.2.1,z.2.2.2.2.2.2.2.2.2.2.2.1,
  z.2.2.2.2.2.2.2.2.2.2.2.2.1,z.2.2.2.2.2.2.2.2.2.2.2.2.2.1,a70.1,())))))))) (Tr.br true (Tr.chk (zQ a67 [66,89]) (Tr.chk (au a78) (Tr.chk (decide (a80.length≤1073741824)) (Tr.chk (zQ a81 [83,85,77]) (Tr.chk (au a83) (Tr.chk (decide (a80.length+a85.length≤1073741824)) (Tr.chk (cD a86 [67,72,69,67,75]) (Tr.re (AV.tup []) (aZ zK kD a87.2
  ([103,114,111,117,112],a62.1,a66.1,a80++a85,z.2.2.2.1,a87.1,z.2.2.2.2.2.2.2.2.2)))))))))) (Tr.chk (cD a67 [67,72,69,67,75]) (Tr.re (AV.tup []) (aZ zK kD a88.2 ([103,114,111,117,112],a62.1,a66.1,[],z.2.2.2.1,a88.1,z.2.2.2.2.2.2.2.2.2)))))))))) (Tr.chk (au a89) (Tr.chk (zQ a91 [70,82,79,77]) (Tr.chk (au a93)
  (Tr.br (z.1==[99,111,112,121]) (Tr.chk (zQ a95 [40]) (Tr.to (oA.h14 (ac a95 [40]) (z.1,a90.1,a94.1,a9)))) (Tr.br (z.1==[106,111,105,110]) (Tr.chk (zQ a95 [44]) (Tr.chk (au a97) (Tr.chk (zQ a99 [79,78]) (Tr.chk (au a101) (Tr.chk (cD a103 [67,72,69,67,75]) (Tr.re (AV.tup []) (aZ zK kD a104.2
  (z.1,a90.1,a94.1,[],a102.1,a104.1,z.2.2.2.2.2.2.2.2.2.1,z.2.2.2.2.2.2.2.2.2.2.1,z.2.2.2.2.2.2.2.2.2.2.2.1,z.2.2.2.2.2.2.2.2.2.2.2.2.1,z.2.2.2.2.2.2.2.2.2.2.2.2.2.1,a98.1,())))))))) (Tr.br (z.1==[103,114,111,117,112]) (Tr.chk (zQ a95 [66,89]) (Tr.chk (au a106) (Tr.chk (decide (a108.length≤1073741824)) (Tr.chk (zQ a109 [83,85,77]) (Tr.chk (au a111)
  (Tr.chk (decide (a108.length+a113.length≤1073741824)) (Tr.chk (cD a114 [67,72,69,67,75]) (Tr.re (AV.tup []) (aZ zK kD a115.2 (z.1,a90.1,a94.1,a108++a113,z.2.2.2.1,a115.1,z.2.2.2.2.2.2.2.2.2)))))))))) (Tr.chk (cD a95 [67,72,69,67,75]) (Tr.re (AV.tup []) (aZ zK kD a116.2 (z.1,a90.1,a94.1,[],z.2.2.2.1,a116.1,z.2.2.2.2.2.2.2.2.2)))))))))))))))
theorem WD (y:zu zK) (z:zu eT):rn DE 2 Gd Tryz.f115 [AV.ptr 0 0,AV.ptr 1 0] (aZ zK eT y z)=(Mo y z).map (lf Tryz.f115 Dm):=by kernel_rfl
def OJ:oA→Tr (oA ⊕ ao)
 | .h14 z0 z1=>
  let a0:=(z0.1,z0.2.1,z0.2.2.1,())
  let a1:=aO a0
  let a2:=[a1.1]
  let a3:=(a1.2.1,a1.2.2.1,a1.2.2.2.1,())
  let a4:=bq a3 [44]
  let a5:=ac a0 [41]
  let a6:=(a5.1,a5.2.1,a5.2.2.1,())
  let a7:=dr a6 [67,72,69,67,75]
  Tr.br z0.2.2.1
  (Tr.chk (au a0)
   (Tr.chk (decide (z1.2.2.2.1.length+a2.length≤1073741824)) (Tr.chk (aU a3 [44]) (Tr.to (oA.h14b a4.1 a4.2 (z1.1,z1.2.1,z1.2.2.1,z1.2.2.2.1++a2,z1.2.2.2.2))))))
  (Tr.chk (zQ a0 [41])
   (Tr.chk (cD a6 [67,72,69,67,75]) (Tr.re (AV.tup []) (aZ zK kD a7.2 (z1.1,z1.2.1,z1.2.2.1,z1.2.2.2.1,z1.2.2.2.2.1,a7.1,z1.2.2.2.2.2.2.2.2.2.2)))))
 | .h14b b4 z0 z1=>
  let a0:=(z0.1,z0.2.1,z0.2.2.1,())
  let a1:=aO a0
  let a2:=[a1.1]
  let a3:=(a1.2.1,a1.2.2.1,a1.2.2.2.1,())
  let a4:=bq a3 [44]
  let a5:=ac a0 [41]
  let a6:=(a5.1,a5.2.1,a5.2.2.1,())
  let a7:=dr a6 [67,72,69,67,75]
  Tr.br (bif b4 then z0.2.2.1 else false)
  (Tr.chk (au a0)
   (Tr.chk (decide (z1.2.2.2.1.length+a2.length≤1073741824)) (Tr.chk (aU a3 [44]) (Tr.to (oA.h14b a4.1 a4.2 (z1.1,z1.2.1,z1.2.2.1,z1.2.2.2.1++a2,z1.2.2.2.2))))))
  (Tr.chk (zQ a0 [41])
   (Tr.chk (cD a6 [67,72,69,67,75]) (Tr.re (AV.tup []) (aZ zK kD a7.2 (z1.1,z1.2.1,z1.2.2.1,z1.2.2.2.1,z1.2.2.2.2.1,a7.1,z1.2.2.2.2.2.2.2.2.2.2)))))
theorem X9:∀ s,run DE 2 Gd (Func.results Tryz.f115).toList 400 (zy Tryz.f115 (Dm s).1) (Dm s).2=(OJ s).map (lf Tryz.f115 Dm)
 | .h14 z0 z1=>by kernel_rfl
 | .h14b b4 z0 z1=>by kernel_rfl
def Oj (y:zu zK) (z:zu eT):Option (zx (List.map some [])×zu zK×zu kD):=Ej [] zK kD OJ 100000000 (Mo y z)
def Oi (y:zu zK) (z:zu eT):Bool:=(Oj y z).isSome
def TV (y:zu zK) (z:zu eT):zu zK×zu kD:=(fun r:zx (List.map some [])×zu zK×zu kD=>r.2) ((Oj y z).getD (cq [],fX zK,fX kD))
def RJ:zF:=Ht zK eT [] [] zK kD (fun y z _=>Oi y z) fun y z _=>((),TV y z)
theorem Pc:FK 115 RJ:=KK (ps:=zK) (qs:=eT) (ks:=[]) (outs:=[]) (keep:=Gd) (gas:=400) (n:=100000000) (e:=Dm) (t:=OJ) (i:=fun y z x=>Mo y z) nJ XT (fun y z x=>WD y z) X9 (fun _ _ _=>by kernel_rfl) (fun _ _ _=>by kernel_rfl)

end
end Cad
