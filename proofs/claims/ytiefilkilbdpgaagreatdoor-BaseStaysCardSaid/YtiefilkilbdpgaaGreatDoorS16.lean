/- The document's writer. The document's statements: texts. The document's reader: numbers. The document's reader: atoms. The document's reader: atoms. -/
import Derived.Test.YtiefilkilbdpgaaGreatDoorS15
import Derived.Test.YtiefilkilbdpgaaGreatDoorS12
namespace Cad
open Go Go.Proofs
open Int (toNat)
open List (getD)
open List (length)
noncomputable section
set_option maxHeartbeats 4000000
abbrev zbO:List CP:=[.d .str,.d .str,.d .str,.nil,.nil,.d .str,.nil,.nil,.d .str,.d zg,.d zg,.d .str,.d .str,.nil,.d (.sl zf),.nil,.d .str,.d zg,.d zg,.d .str,.d .str,.nil,.d .str]
abbrev zbP:List CP:=[.d .str,.d .str,.d .str,.nil,.nil,.d .str,.nil,.nil,.d .str,.d zg,.d zg,.d .str,.d .str,.nil,.nil,.d (.sl aN),.d .expr,.d .str]

abbrev zdG:=lz [(15,[1,3,5,12,13]),(27,[1,3,5,8,9,14,15])]
inductive xt where
 | h15 (s12:List UInt8) (i13:Int) (z0:zu mi) (z1:zu eK) (z2:zu zbO)
 | h27 (s8:TS) (b9:Sem Sh.bool) (s14:List UInt8) (i15:Int) (z0:zu mi) (z1:zu eK) (z2:zu zbP)
abbrev zf5:xt→Nat×St
 | .h15 s12 i13 z0 z1 z2=>(15,⟨tm 430 [(1,AV.ptr 0 0),(3,AV.ptr 1 0),(5,AV.ptr 2 0),(12,AV.str s12),(13,AV.int .i64 i13)],[AO.box (bJ [] mi z0),AO.box (bJ [] eK z1),AO.box (bJ [] zbO z2)]⟩)
 | .h27 s8 b9 s14 i15 z0 z1 z2=>(27,⟨tm 430 [(1,AV.ptr 0 0),(3,AV.ptr 1 0),(5,AV.ptr 2 0),(8,AV.str s8),(9,AV.bool b9),(14,AV.str s14),(15,AV.int .i64 i15)],[AO.box (bJ [] mi z0),AO.box (bJ [] eK z1),AO.box (bJ [] zbP z2)]⟩)
def zhm (x0:Sem zm):Tr (xt ⊕ aj):=
 let a0:=zE x0.2.2.2.2.2.2.2.2.1
 let a1:=zE x0.2.2.2.2.2.2.2.2.2.2.2.1
 let a2:=(x0.1,x0.2.1,x0.2.2.1,x0.2.2.2.1,x0.2.2.2.2.1,x0.2.2.2.2.2.1,x0.2.2.2.2.2.2.1,x0.2.2.2.2.2.2.2.1,a0,x0.2.2.2.2.2.2.2.2.2.1,x0.2.2.2.2.2.2.2.2.2.2.1,a1,x0.2.2.2.2.2.2.2.2.2.2.2.2)
 let a3:=Nj a2
 let a4:=FW a1 [87,72,69,82,69]
 let a5:=[68,69,76,69,84,69,32,70,82,79,77,32]++x0.2.1
 let a6:=[83,69,76,69,67,84,32,42,32,70,82,79,77,32]++x0.2.1
 let a7:=[77,73,71,82,65,84,69,32,67,79,80,89,32]++x0.2.1
 let a8:=a7++[32,70,82,79,77,32]
 let a9:=a8++x0.2.2.1
 let a10:=a9++[32,40,32]
 let a11:=Qv x0.2.2.2.1
 let a12:=a10++a11.1
 let a13:=a12++[32,41]
 let a14:=FW a0 []
 let a15:=eP x0.2.2.1
 let a16:=gO x0.2.2.1
 let a17:=[77,73,71,82,65,84,69,32,74,79,73,78,32]++x0.2.1
 let a18:=a17++[32,70,82,79,77,32]
 let a19:=a18++x0.2.2.1
 let a20:=a19++[32,44,32]
 let a21:=a20++x0.2.2.2.2.2.2.2.2.2.2.2.2
 let a22:=a21++[32,79,78,32]
 let a23:=a22++x0.2.2.2.2.2.1
 let a24:=eP x0.2.2.2.2.2.2.2.2.2.2.2.2
 let a25:=gO x0.2.2.2.2.2.2.2.2.2.2.2.2
 let a26:=[77,73,71,82,65,84,69,32,71,82,79,85,80,32]++x0.2.1
 let a27:=a26++[32,70,82,79,77,32]
 let a28:=a27++x0.2.2.1
 let a29:=zI 0 (length x0.2.2.2.1)
 let a30:=a28++[32,66,89,32]
 let a31:=getD x0.2.2.2.1 (toNat 0) (zj Sh.str)
 let a32:=a30++a31
 let a33:=zI 1 (length x0.2.2.2.1)
 let a34:=a32++[32,83,85,77,32]
 let a35:=getD x0.2.2.2.1 (toNat 1) (zj Sh.str)
 let a36:=a34++a35
 let a37:=[71,82,65,78,84,32,82,69,65,68,32,79,78,32]++x0.2.1
 let a38:=a37++[32,84,79,32]
 let a39:=[71,82,65,78,84,32,87,82,73,84,69,32,79,78,32]++x0.2.1
 let a40:=a39++[32,84,79,32]
 let a41:=[82,69,86,79,75,69,32,82,69,65,68,32,79,78,32]++x0.2.1
 let a42:=a41++[32,70,82,79,77,32]
 let a43:=[82,69,86,79,75,69,32,87,82,73,84,69,32,79,78,32]++x0.2.1
 let a44:=a43++[32,70,82,79,77,32]
 Tr.chk (BB a0 [])
 (Tr.chk (BB a1 [87,72,69,82,69])
  (Tr.br (x0.1==[99,114,101,97,116,101]) (Tr.chk (Jl a2) (Tr.re (AV.tup [AV.str a3.1,AV.agg [AV.str x0.1,AV.str x0.2.1,AV.str [],AV.nils,AV.sl zi x0.2.2.2.2.1,AV.str x0.2.2.2.2.2.1,AV.sl Sh.str x0.2.2.2.2.2.2.1,AV.sl (Sh.str.pr Sh.str) x0.2.2.2.2.2.2.2.1,AV.str (ze.op x0.2.2.2.2.2.2.2.2.1),AV.int .i64 (ze.v x0.2.2.2.2.2.2.2.2.1).1,
  AV.int .i64 (ze.v x0.2.2.2.2.2.2.2.2.1).2.1,AV.str (ze.v x0.2.2.2.2.2.2.2.2.1).2.2,AV.str (ze.s x0.2.2.2.2.2.2.2.2.1),AV.sl Sh.expr (ze.l x0.2.2.2.2.2.2.2.2.1),AV.nils,AV.nils,AV.str [],AV.int .i64 0,AV.int .i64 0,AV.str [],AV.str [],AV.nils,AV.str []],AV.bool a3.2]) [])) (Tr.br (x0.1==[100,114,111,112])
  (Tr.chk (decide ([68,82,79,80,32,84,65,66,76,69,32].length+length x0.2.1≤1099511627776)) (Tr.re (AV.tup [AV.str ([68,82,79,80,32,84,65,66,76,69,32]++x0.2.1),AV.agg [AV.str x0.1,AV.str x0.2.1,AV.str [],AV.nils,AV.nils,AV.str [],AV.nils,AV.nils,AV.str [],AV.int .i64 0,
  AV.int .i64 0,AV.str [],AV.str [],AV.nils,AV.nils,AV.nils,AV.str [],AV.int .i64 0,AV.int .i64 0,AV.str [],AV.str [],AV.nils,AV.str []],AV.kb true]) [])) (Tr.br (x0.1==[105,110,115,101,114,116]) (Tr.to (xt.h15 [] 0 (x0,()) ([],[],[],[],[],0,0,[],[],[],0,0,[],[],[],())
  (x0.1,x0.2.1,[],[],[],0,0,[],[],x0.2.2.2.2.2.2.2.2.2.1,[],0,0,[],[],[],()))) (Tr.br (x0.1==[117,112,100,97,116,101]) (Tr.to (xt.h27 a4.1 a4.2 [] 0 (x0,()) ([],[],[],[],[],0,0,[],[],[],0,0,[],[],[],()) (x0.1,x0.2.1,[],[],[],0,0,[],[],x0.2.2.2.2.2.2.2.2.2.2.1,x0.2.2.2.2.2.2.2.2.2.2.2.1,[],()))) (Tr.br (x0.1==[100,101,108,101,116,101])
  (Tr.chk (decide ([68,69,76,69,84,69,32,70,82,79,77,32].length+length x0.2.1≤1099511627776)) (Tr.chk (decide (length a5+length a4.1≤1099511627776)) (Tr.re (AV.tup [AV.str (a5++a4.1),AV.agg [AV.str x0.1,AV.str x0.2.1,AV.str [],AV.nils,AV.nils,AV.str [],AV.nils,AV.nils,AV.str [],AV.int .i64 0,
  AV.int .i64 0,AV.str [],AV.str [],AV.nils,AV.nils,AV.nils,AV.str (ze.op x0.2.2.2.2.2.2.2.2.2.2.2.1),AV.int .i64 (ze.v x0.2.2.2.2.2.2.2.2.2.2.2.1).1,AV.int .i64 (ze.v x0.2.2.2.2.2.2.2.2.2.2.2.1).2.1,AV.str (ze.v x0.2.2.2.2.2.2.2.2.2.2.2.1).2.2,AV.str (ze.s x0.2.2.2.2.2.2.2.2.2.2.2.1),AV.sl Sh.expr (ze.l x0.2.2.2.2.2.2.2.2.2.2.2.1),AV.str []],AV.bool a4.2]) [])))
  (Tr.br (x0.1==[115,101,108,101,99,116]) (Tr.chk (decide ([83,69,76,69,67,84,32,42,32,70,82,79,77,32].length+length x0.2.1≤1099511627776)) (Tr.chk (decide (length a6+length a4.1≤1099511627776)) (Tr.re (AV.tup [AV.str (a6++a4.1),AV.agg [AV.str x0.1,AV.str x0.2.1,AV.str [],AV.nils,AV.nils,AV.str [],AV.nils,AV.nils,AV.str [],AV.int .i64 0,
  AV.int .i64 0,AV.str [],AV.str [],AV.nils,AV.nils,AV.nils,AV.str (ze.op x0.2.2.2.2.2.2.2.2.2.2.2.1),AV.int .i64 (ze.v x0.2.2.2.2.2.2.2.2.2.2.2.1).1,AV.int .i64 (ze.v x0.2.2.2.2.2.2.2.2.2.2.2.1).2.1,AV.str (ze.v x0.2.2.2.2.2.2.2.2.2.2.2.1).2.2,AV.str (ze.s x0.2.2.2.2.2.2.2.2.2.2.2.1),AV.sl Sh.expr (ze.l x0.2.2.2.2.2.2.2.2.2.2.2.1),AV.str []],AV.bool a4.2]) [])))
  (Tr.br (x0.1==[99,111,112,121]) (Tr.chk (Ns x0.2.2.2.1) (Tr.chk (decide ([77,73,71,82,65,84,69,32,67,79,80,89,32].length+length x0.2.1≤1099511627776)) (Tr.chk (decide (length a7+[32,70,82,79,77,32].length≤1099511627776)) (Tr.chk (decide (length a8+length x0.2.2.1≤1099511627776))
  (Tr.chk (decide (length a9+[32,40,32].length≤1099511627776)) (Tr.chk (decide (length a10+length a11.1≤1099511627776)) (Tr.chk (decide (length a12+[32,41].length≤1099511627776)) (Tr.chk (decide (length a13+length a14.1≤1099511627776)) (Tr.br a11.2 (Tr.br a14.2 (Tr.chk a15 (Tr.re (AV.tup [AV.str (a13++a14.1),AV.agg
  [AV.str x0.1,AV.str x0.2.1,AV.str x0.2.2.1,AV.sl Sh.str x0.2.2.2.1,AV.nils,AV.str [],AV.nils,AV.nils,AV.str (ze.op x0.2.2.2.2.2.2.2.2.1),AV.int .i64 (ze.v x0.2.2.2.2.2.2.2.2.1).1,AV.int .i64 (ze.v x0.2.2.2.2.2.2.2.2.1).2.1,AV.str (ze.v x0.2.2.2.2.2.2.2.2.1).2.2,AV.str (ze.s x0.2.2.2.2.2.2.2.2.1),
  AV.sl Sh.expr (ze.l x0.2.2.2.2.2.2.2.2.1),AV.nils,AV.nils,AV.str [],AV.int .i64 0,AV.int .i64 0,AV.str [],AV.str [],AV.nils,AV.str []],AV.bool a16]) [])) (Tr.re (AV.tup [AV.str (a13++a14.1),AV.agg [AV.str x0.1,AV.str x0.2.1,AV.str x0.2.2.1,AV.sl Sh.str x0.2.2.2.1,AV.nils,AV.str [],AV.nils,AV.nils,AV.str (ze.op x0.2.2.2.2.2.2.2.2.1),
  AV.int .i64 (ze.v x0.2.2.2.2.2.2.2.2.1).1,AV.int .i64 (ze.v x0.2.2.2.2.2.2.2.2.1).2.1,AV.str (ze.v x0.2.2.2.2.2.2.2.2.1).2.2,AV.str (ze.s x0.2.2.2.2.2.2.2.2.1),AV.sl Sh.expr (ze.l x0.2.2.2.2.2.2.2.2.1),AV.nils,AV.nils,AV.str [],AV.int .i64 0,AV.int .i64 0,AV.str [],AV.str [],AV.nils,AV.str []],AV.kb false]) [])) (Tr.re (AV.tup [AV.str (a13++a14.1),AV.agg
  [AV.str x0.1,AV.str x0.2.1,AV.str x0.2.2.1,AV.sl Sh.str x0.2.2.2.1,AV.nils,AV.str [],AV.nils,AV.nils,AV.str (ze.op x0.2.2.2.2.2.2.2.2.1),AV.int .i64 (ze.v x0.2.2.2.2.2.2.2.2.1).1,AV.int .i64 (ze.v x0.2.2.2.2.2.2.2.2.1).2.1,AV.str (ze.v x0.2.2.2.2.2.2.2.2.1).2.2,AV.str (ze.s x0.2.2.2.2.2.2.2.2.1),
  AV.sl Sh.expr (ze.l x0.2.2.2.2.2.2.2.2.1),AV.nils,AV.nils,AV.str [],AV.int .i64 0,AV.int .i64 0,AV.str [],AV.str [],AV.nils,AV.str []],AV.kb false]) [])))))))))) (Tr.br (x0.1==[106,111,105,110]) (Tr.chk (decide ([77,73,71,82,65,84,69,32,74,79,73,78,32].length+length x0.2.1≤1099511627776))
  (Tr.chk (decide (length a17+[32,70,82,79,77,32].length≤1099511627776)) (Tr.chk (decide (length a18+length x0.2.2.1≤1099511627776)) (Tr.chk (decide (length a19+[32,44,32].length≤1099511627776)) (Tr.chk (decide (length a20+length x0.2.2.2.2.2.2.2.2.2.2.2.2≤1099511627776))
  (Tr.chk (decide (length a21+[32,79,78,32].length≤1099511627776)) (Tr.chk (decide (length a22+length x0.2.2.2.2.2.1≤1099511627776)) (Tr.chk (decide (length a23+length a14.1≤1099511627776)) (Tr.br a14.2 (Tr.chk a15 (Tr.br a16 (Tr.chk a24 (Tr.br a25 (Tr.chk (eP x0.2.2.2.2.2.1) (Tr.re (AV.tup [AV.str (a23++a14.1),AV.agg
  [AV.str x0.1,AV.str x0.2.1,AV.str x0.2.2.1,AV.nils,AV.nils,AV.str x0.2.2.2.2.2.1,AV.nils,AV.nils,AV.str (ze.op x0.2.2.2.2.2.2.2.2.1),AV.int .i64 (ze.v x0.2.2.2.2.2.2.2.2.1).1,AV.int .i64 (ze.v x0.2.2.2.2.2.2.2.2.1).2.1,AV.str (ze.v x0.2.2.2.2.2.2.2.2.1).2.2,AV.str (ze.s x0.2.2.2.2.2.2.2.2.1),AV.sl Sh.expr (ze.l x0.2.2.2.2.2.2.2.2.1),AV.nils,AV.nils,AV.str [],
  AV.int .i64 0,AV.int .i64 0,AV.str [],AV.str [],AV.nils,AV.str x0.2.2.2.2.2.2.2.2.2.2.2.2],AV.bool (gO x0.2.2.2.2.2.1)]) [])) (Tr.re (AV.tup [AV.str (a23++a14.1),AV.agg [AV.str x0.1,AV.str x0.2.1,AV.str x0.2.2.1,AV.nils,AV.nils,AV.str x0.2.2.2.2.2.1,AV.nils,AV.nils,AV.str (ze.op x0.2.2.2.2.2.2.2.2.1),AV.int .i64 (ze.v x0.2.2.2.2.2.2.2.2.1).1,
  AV.int .i64 (ze.v x0.2.2.2.2.2.2.2.2.1).2.1,AV.str (ze.v x0.2.2.2.2.2.2.2.2.1).2.2,AV.str (ze.s x0.2.2.2.2.2.2.2.2.1),AV.sl Sh.expr (ze.l x0.2.2.2.2.2.2.2.2.1),AV.nils,AV.nils,AV.str [],AV.int .i64 0,AV.int .i64 0,AV.str [],AV.str [],AV.nils,AV.str x0.2.2.2.2.2.2.2.2.2.2.2.2],AV.kb false]) []))) (Tr.re (AV.tup [AV.str (a23++a14.1),AV.agg
  [AV.str x0.1,AV.str x0.2.1,AV.str x0.2.2.1,AV.nils,AV.nils,AV.str x0.2.2.2.2.2.1,AV.nils,AV.nils,AV.str (ze.op x0.2.2.2.2.2.2.2.2.1),AV.int .i64 (ze.v x0.2.2.2.2.2.2.2.2.1).1,AV.int .i64 (ze.v x0.2.2.2.2.2.2.2.2.1).2.1,AV.str (ze.v x0.2.2.2.2.2.2.2.2.1).2.2,AV.str (ze.s x0.2.2.2.2.2.2.2.2.1),AV.sl Sh.expr (ze.l x0.2.2.2.2.2.2.2.2.1),AV.nils,AV.nils,AV.str [],
  AV.int .i64 0,AV.int .i64 0,AV.str [],AV.str [],AV.nils,AV.str x0.2.2.2.2.2.2.2.2.2.2.2.2],AV.kb false]) []))) (Tr.re (AV.tup [AV.str (a23++a14.1),AV.agg [AV.str x0.1,AV.str x0.2.1,AV.str x0.2.2.1,AV.nils,AV.nils,AV.str x0.2.2.2.2.2.1,AV.nils,AV.nils,AV.str (ze.op x0.2.2.2.2.2.2.2.2.1),AV.int .i64 (ze.v x0.2.2.2.2.2.2.2.2.1).1,
  AV.int .i64 (ze.v x0.2.2.2.2.2.2.2.2.1).2.1,AV.str (ze.v x0.2.2.2.2.2.2.2.2.1).2.2,AV.str (ze.s x0.2.2.2.2.2.2.2.2.1),AV.sl Sh.expr (ze.l x0.2.2.2.2.2.2.2.2.1),AV.nils,AV.nils,AV.str [],AV.int .i64 0,AV.int .i64 0,AV.str [],AV.str [],AV.nils,AV.str x0.2.2.2.2.2.2.2.2.2.2.2.2],AV.kb false]) [])))))))))) (Tr.br (x0.1==[103,114,111,117,112])
  (Tr.br ((↑(length x0.2.2.2.1):Int) != 2) (Tr.re (AV.tup [AV.str [],AV.agg [AV.str x0.1,AV.str x0.2.1,AV.str x0.2.2.1,AV.sl Sh.str x0.2.2.2.1,AV.nils,AV.str [],AV.nils,AV.nils,AV.str (ze.op x0.2.2.2.2.2.2.2.2.1),AV.int .i64 (ze.v x0.2.2.2.2.2.2.2.2.1).1,AV.int .i64 (ze.v x0.2.2.2.2.2.2.2.2.1).2.1,
  AV.str (ze.v x0.2.2.2.2.2.2.2.2.1).2.2,AV.str (ze.s x0.2.2.2.2.2.2.2.2.1),AV.sl Sh.expr (ze.l x0.2.2.2.2.2.2.2.2.1),AV.nils,AV.nils,AV.str [],AV.int .i64 0,AV.int .i64 0,AV.str [],AV.str [],AV.nils,AV.str []],AV.kb false]) []) (Tr.chk (decide ([77,73,71,82,65,84,69,32,71,82,79,85,80,32].length+length x0.2.1≤1099511627776))
  (Tr.chk (decide (length a26+[32,70,82,79,77,32].length≤1099511627776)) (Tr.chk (decide (length a27+length x0.2.2.1≤1099511627776)) (Tr.chk (decide (length a28+[32,66,89,32].length≤1099511627776)) (Tr.chk a29 (Tr.chk (decide (length a30+length a31≤1099511627776))
  (Tr.chk (decide (length a32+[32,83,85,77,32].length≤1099511627776)) (Tr.chk a33 (Tr.chk (decide (length a34+length a35≤1099511627776)) (Tr.chk (decide (length a36+length a14.1≤1099511627776)) (Tr.br a14.2 (Tr.chk a15 (Tr.br a16 (Tr.chk a29 (Tr.chk (eP a31) (Tr.br (gO a31) (Tr.chk a33 (Tr.chk (eP a35) (Tr.re (AV.tup [AV.str (a36++a14.1),
  AV.agg [AV.str x0.1,AV.str x0.2.1,AV.str x0.2.2.1,AV.sl Sh.str x0.2.2.2.1,AV.nils,AV.str [],AV.nils,AV.nils,AV.str (ze.op x0.2.2.2.2.2.2.2.2.1),AV.int .i64 (ze.v x0.2.2.2.2.2.2.2.2.1).1,AV.int .i64 (ze.v x0.2.2.2.2.2.2.2.2.1).2.1,AV.str (ze.v x0.2.2.2.2.2.2.2.2.1).2.2,AV.str (ze.s x0.2.2.2.2.2.2.2.2.1),AV.sl Sh.expr (ze.l x0.2.2.2.2.2.2.2.2.1),AV.nils,AV.nils,
  AV.str [],AV.int .i64 0,AV.int .i64 0,AV.str [],AV.str [],AV.nils,AV.str []],AV.bool (gO a35)]) []))) (Tr.re (AV.tup [AV.str (a36++a14.1),AV.agg [AV.str x0.1,AV.str x0.2.1,AV.str x0.2.2.1,AV.sl Sh.str x0.2.2.2.1,AV.nils,AV.str [],AV.nils,AV.nils,AV.str (ze.op x0.2.2.2.2.2.2.2.2.1),AV.int .i64 (ze.v x0.2.2.2.2.2.2.2.2.1).1,
  AV.int .i64 (ze.v x0.2.2.2.2.2.2.2.2.1).2.1,AV.str (ze.v x0.2.2.2.2.2.2.2.2.1).2.2,AV.str (ze.s x0.2.2.2.2.2.2.2.2.1),AV.sl Sh.expr (ze.l x0.2.2.2.2.2.2.2.2.1),AV.nils,AV.nils,AV.str [],AV.int .i64 0,AV.int .i64 0,AV.str [],AV.str [],AV.nils,AV.str []],AV.kb false]) [])))) (Tr.re (AV.tup [AV.str (a36++a14.1),AV.agg
  [AV.str x0.1,AV.str x0.2.1,AV.str x0.2.2.1,AV.sl Sh.str x0.2.2.2.1,AV.nils,AV.str [],AV.nils,AV.nils,AV.str (ze.op x0.2.2.2.2.2.2.2.2.1),AV.int .i64 (ze.v x0.2.2.2.2.2.2.2.2.1).1,AV.int .i64 (ze.v x0.2.2.2.2.2.2.2.2.1).2.1,AV.str (ze.v x0.2.2.2.2.2.2.2.2.1).2.2,AV.str (ze.s x0.2.2.2.2.2.2.2.2.1),
  AV.sl Sh.expr (ze.l x0.2.2.2.2.2.2.2.2.1),AV.nils,AV.nils,AV.str [],AV.int .i64 0,AV.int .i64 0,AV.str [],AV.str [],AV.nils,AV.str []],AV.kb false]) []))) (Tr.re (AV.tup [AV.str (a36++a14.1),AV.agg [AV.str x0.1,AV.str x0.2.1,AV.str x0.2.2.1,AV.sl Sh.str x0.2.2.2.1,AV.nils,AV.str [],AV.nils,AV.nils,AV.str (ze.op x0.2.2.2.2.2.2.2.2.1),
  AV.int .i64 (ze.v x0.2.2.2.2.2.2.2.2.1).1,AV.int .i64 (ze.v x0.2.2.2.2.2.2.2.2.1).2.1,AV.str (ze.v x0.2.2.2.2.2.2.2.2.1).2.2,AV.str (ze.s x0.2.2.2.2.2.2.2.2.1),AV.sl Sh.expr (ze.l x0.2.2.2.2.2.2.2.2.1),AV.nils,AV.nils,AV.str [],AV.int .i64 0,AV.int .i64 0,AV.str [],AV.str [],AV.nils,AV.str []],AV.kb false]) []))))))))))))) (Tr.br (x0.1==[114,101,97,100])
  (Tr.chk (decide ([71,82,65,78,84,32,82,69,65,68,32,79,78,32].length+length x0.2.1≤1099511627776)) (Tr.chk (decide (length a37+[32,84,79,32].length≤1099511627776)) (Tr.chk (decide (length a38+length x0.2.2.2.2.2.2.2.2.2.2.2.2≤1099511627776)) (Tr.chk a24 (Tr.re (AV.tup [AV.str (a38++x0.2.2.2.2.2.2.2.2.2.2.2.2),AV.agg
  [AV.str x0.1,AV.str x0.2.1,AV.str [],AV.nils,AV.nils,AV.str [],AV.nils,AV.nils,AV.str [],AV.int .i64 0,AV.int .i64 0,AV.str [],AV.str [],AV.nils,AV.nils,AV.nils,AV.str [],AV.int .i64 0,AV.int .i64 0,AV.str [],AV.str [],AV.nils,AV.str x0.2.2.2.2.2.2.2.2.2.2.2.2],AV.bool a25]) []))))) (Tr.br (x0.1==[119,114,105,116,101])
  (Tr.chk (decide ([71,82,65,78,84,32,87,82,73,84,69,32,79,78,32].length+length x0.2.1≤1099511627776)) (Tr.chk (decide (length a39+[32,84,79,32].length≤1099511627776)) (Tr.chk (decide (length a40+length x0.2.2.2.2.2.2.2.2.2.2.2.2≤1099511627776)) (Tr.chk a24 (Tr.re (AV.tup [AV.str (a40++x0.2.2.2.2.2.2.2.2.2.2.2.2),AV.agg
  [AV.str x0.1,AV.str x0.2.1,AV.str [],AV.nils,AV.nils,AV.str [],AV.nils,AV.nils,AV.str [],AV.int .i64 0,AV.int .i64 0,AV.str [],AV.str [],AV.nils,AV.nils,AV.nils,AV.str [],AV.int .i64 0,AV.int .i64 0,AV.str [],AV.str [],AV.nils,AV.str x0.2.2.2.2.2.2.2.2.2.2.2.2],AV.bool a25]) []))))) (Tr.br (x0.1==[117,110,114,101,97,100])
  (Tr.chk (decide ([82,69,86,79,75,69,32,82,69,65,68,32,79,78,32].length+length x0.2.1≤1099511627776)) (Tr.chk (decide (length a41+[32,70,82,79,77,32].length≤1099511627776)) (Tr.chk (decide (length a42+length x0.2.2.2.2.2.2.2.2.2.2.2.2≤1099511627776)) (Tr.chk a24 (Tr.re (AV.tup [AV.str (a42++x0.2.2.2.2.2.2.2.2.2.2.2.2),AV.agg
  [AV.str x0.1,AV.str x0.2.1,AV.str [],AV.nils,AV.nils,AV.str [],AV.nils,AV.nils,AV.str [],AV.int .i64 0,AV.int .i64 0,AV.str [],AV.str [],AV.nils,AV.nils,AV.nils,AV.str [],AV.int .i64 0,AV.int .i64 0,AV.str [],AV.str [],AV.nils,AV.str x0.2.2.2.2.2.2.2.2.2.2.2.2],AV.bool a25]) []))))) (Tr.br (x0.1==[117,110,119,114,105,116,101]) (Tr.chk
  (decide ([82,69,86,79,75,69,32,87,82,73,84,69,32,79,78,32].length+length x0.2.1≤1099511627776)) (Tr.chk (decide (length a43+[32,70,82,79,77,32].length≤1099511627776)) (Tr.chk (decide (length a44+length x0.2.2.2.2.2.2.2.2.2.2.2.2≤1099511627776)) (Tr.chk a24 (Tr.re (AV.tup [AV.str (a44++x0.2.2.2.2.2.2.2.2.2.2.2.2),AV.agg
  [AV.str x0.1,AV.str x0.2.1,AV.str [],AV.nils,AV.nils,AV.str [],AV.nils,AV.nils,AV.str [],AV.int .i64 0,AV.int .i64 0,AV.str [],AV.str [],AV.nils,AV.nils,AV.nils,AV.str [],AV.int .i64 0,AV.int .i64 0,AV.str [],AV.str [],AV.nils,AV.str x0.2.2.2.2.2.2.2.2.2.2.2.2],AV.bool a25]) []))))) (Tr.re (AV.tup [AV.str [],AV.agg
  [AV.str x0.1,AV.str x0.2.1,AV.str [],AV.nils,AV.nils,AV.str [],AV.nils,AV.nils,AV.str [],AV.int .i64 0,AV.int .i64 0,AV.str [],AV.str [],AV.nils,AV.nils,AV.nils,AV.str [],AV.int .i64 0,AV.int .i64 0,AV.str [],AV.str [],AV.nils,AV.str []],AV.kb false]) [])))))))))))))))
def zhY:xt→Tr (xt ⊕ aj)
 | .h15 s12 i13 z0 z1 z2=>
  let a0:=(↑(length z0.1.2.2.2.2.2.2.2.2.2.1):Int)
  let a1:=zI i13 (length z0.1.2.2.2.2.2.2.2.2.2.1)
  let a2:=getD z0.1.2.2.2.2.2.2.2.2.2.1 i13.toNat (zj zf)
  let a3:=nF a2
  let a4:=s12++[32,44,32]
  let a5:=rB a2
  let a6:=IntKind.i64.wrap (i13+1)
  let a7:=[73,78,83,69,82,84,32,73,78,84,79,32]++z0.1.2.1
  let a8:=a7++[32,86,65,76,85,69,83,32,40,32]
  let a9:=a8++s12
  Tr.br (decide (i13 < a0))
  (Tr.chk a1
   (Tr.chk (wo a2) (Tr.br (!DF a2) (Tr.re (AV.tup [AV.str [],AV.agg [AV.str z2.1,AV.str z2.2.1,AV.str z2.2.2.1,AV.nils,AV.nils,AV.str z2.2.2.2.1,AV.nils,AV.nils,AV.str z2.2.2.2.2.1,AV.int .i64 z2.2.2.2.2.2.1,AV.int .i64 z2.2.2.2.2.2.2.1,AV.str z2.2.2.2.2.2.2.2.1,AV.str z2.2.2.2.2.2.2.2.2.1,AV.nils,AV.sl zf z2.2.2.2.2.2.2.2.2.2.1,AV.nils,
   AV.str z2.2.2.2.2.2.2.2.2.2.2.1,AV.int .i64 z2.2.2.2.2.2.2.2.2.2.2.2.1,AV.int .i64 z2.2.2.2.2.2.2.2.2.2.2.2.2.1,AV.str z2.2.2.2.2.2.2.2.2.2.2.2.2.2.1,AV.str z2.2.2.2.2.2.2.2.2.2.2.2.2.2.2.1,AV.nils,AV.str z2.2.2.2.2.2.2.2.2.2.2.2.2.2.2.2.1],AV.kb false]) []) (Tr.br (decide (i13 > 0)) (Tr.chk (decide (s12.length+[32,44,32].length≤1099511627776))
   (Tr.chk a1 (Tr.chk a3 (Tr.chk (decide (length a4+length a5≤1099511627776)) (Tr.to (xt.h15 (a4++a5) a6 z0 z1 z2)))))) (Tr.chk a1 (Tr.chk a3 (Tr.chk (decide (s12.length+length a5≤1099511627776)) (Tr.to (xt.h15 (s12++a5) a6 z0 z1 z2)))))))))
  (Tr.chk (decide ([73,78,83,69,82,84,32,73,78,84,79,32].length+length z0.1.2.1≤1099511627776))
   (Tr.chk (decide (length a7+[32,86,65,76,85,69,83,32,40,32].length≤1099511627776)) (Tr.chk (decide (length a8+s12.length≤1099511627776)) (Tr.chk (decide (length a9+[32,41].length≤1099511627776)) (Tr.br (decide (1≤a0)) (Tr.re (AV.tup [AV.str (a9++[32,41]),AV.agg
   [AV.str z2.1,AV.str z2.2.1,AV.str z2.2.2.1,AV.nils,AV.nils,AV.str z2.2.2.2.1,AV.nils,AV.nils,AV.str z2.2.2.2.2.1,AV.int .i64 z2.2.2.2.2.2.1,AV.int .i64 z2.2.2.2.2.2.2.1,AV.str z2.2.2.2.2.2.2.2.1,AV.str z2.2.2.2.2.2.2.2.2.1,AV.nils,AV.sl zf z2.2.2.2.2.2.2.2.2.2.1,AV.nils,AV.str z2.2.2.2.2.2.2.2.2.2.2.1,AV.int .i64 z2.2.2.2.2.2.2.2.2.2.2.2.1,
   AV.int .i64 z2.2.2.2.2.2.2.2.2.2.2.2.2.1,AV.str z2.2.2.2.2.2.2.2.2.2.2.2.2.2.1,AV.str z2.2.2.2.2.2.2.2.2.2.2.2.2.2.2.1,AV.nils,AV.str z2.2.2.2.2.2.2.2.2.2.2.2.2.2.2.2.1],AV.bool (decide (a0≤12))]) []) (Tr.re (AV.tup [AV.str (a9++[32,41]),AV.agg [AV.str z2.1,AV.str z2.2.1,AV.str z2.2.2.1,AV.nils,AV.nils,AV.str z2.2.2.2.1,AV.nils,AV.nils,
   AV.str z2.2.2.2.2.1,AV.int .i64 z2.2.2.2.2.2.1,AV.int .i64 z2.2.2.2.2.2.2.1,AV.str z2.2.2.2.2.2.2.2.1,AV.str z2.2.2.2.2.2.2.2.2.1,AV.nils,AV.sl zf z2.2.2.2.2.2.2.2.2.2.1,AV.nils,AV.str z2.2.2.2.2.2.2.2.2.2.2.1,AV.int .i64 z2.2.2.2.2.2.2.2.2.2.2.2.1,AV.int .i64 z2.2.2.2.2.2.2.2.2.2.2.2.2.1,AV.str z2.2.2.2.2.2.2.2.2.2.2.2.2.2.1,AV.str z2.2.2.2.2.2.2.2.2.2.2.2.2.2.2.1,
   AV.nils,AV.str z2.2.2.2.2.2.2.2.2.2.2.2.2.2.2.2.1],AV.kb false]) []))))))
 | .h27 s8 b9 s14 i15 z0 z1 z2=>
  let a0:=(↑(length z0.1.2.2.2.2.2.2.2.2.2.2.1):Int)
  let a1:=zI i15 (length z0.1.2.2.2.2.2.2.2.2.2.2.1)
  let a2:=getD z0.1.2.2.2.2.2.2.2.2.2.2.1 i15.toNat (zj aN)
  let a3 := !gO a2.1
  let a4:=zE a2.2
  let a5:=decide (length a2.1+[32,61,32].length≤1099511627776)
  let a6:=tq a4
  let a7:=a2.1++[32,61,32]
  let a8:=rD a4
  let a9:=decide (length a7+length a8≤1099511627776)
  let a10:=s14++[32,44,32]
  let a11:=a7++a8
  let a12:=IntKind.i64.wrap (i15+1)
  let a13:=[85,80,68,65,84,69,32]++z0.1.2.1
  let a14:=a13++[32,83,69,84,32]
  let a15:=a14++s14
  Tr.br (decide (i15 < a0))
  (Tr.chk (a1&&(eP a2.1&&bif a3 then true else a1&&FH a4))
   (Tr.br (bif a3 then true else !Nc a4) (Tr.re (AV.tup [AV.str [],AV.agg [AV.str z2.1,AV.str z2.2.1,AV.str z2.2.2.1,AV.nils,AV.nils,AV.str z2.2.2.2.1,AV.nils,AV.nils,AV.str z2.2.2.2.2.1,AV.int .i64 z2.2.2.2.2.2.1,AV.int .i64 z2.2.2.2.2.2.2.1,AV.str z2.2.2.2.2.2.2.2.1,AV.str z2.2.2.2.2.2.2.2.2.1,AV.nils,AV.nils,
   AV.sl (Sh.str.pr Sh.expr) z2.2.2.2.2.2.2.2.2.2.1,AV.str (ze.op z2.2.2.2.2.2.2.2.2.2.2.1),AV.int .i64 (ze.v z2.2.2.2.2.2.2.2.2.2.2.1).1,AV.int .i64 (ze.v z2.2.2.2.2.2.2.2.2.2.2.1).2.1,AV.str (ze.v z2.2.2.2.2.2.2.2.2.2.2.1).2.2,AV.str (ze.s z2.2.2.2.2.2.2.2.2.2.2.1),AV.sl Sh.expr (ze.l z2.2.2.2.2.2.2.2.2.2.2.1),AV.str z2.2.2.2.2.2.2.2.2.2.2.2.1],AV.kb false]) [])
   (Tr.br (decide (i15 > 0)) (Tr.chk (decide (s14.length+[32,44,32].length≤1099511627776)) (Tr.chk a1 (Tr.chk a5 (Tr.chk a1 (Tr.chk a6 (Tr.chk a9 (Tr.chk (decide (length a10+length a11≤1099511627776)) (Tr.to (xt.h27 s8 b9 (a10++a11) a12 z0 z1 z2))))))))) (Tr.chk a1 (Tr.chk a5 (Tr.chk a1
   (Tr.chk a6 (Tr.chk a9 (Tr.chk (decide (s14.length+length a11≤1099511627776)) (Tr.to (xt.h27 s8 b9 (s14++a11) a12 z0 z1 z2)))))))))))
  (Tr.chk (decide ([85,80,68,65,84,69,32].length+length z0.1.2.1≤1099511627776))
   (Tr.chk (decide (length a13+[32,83,69,84,32].length≤1099511627776)) (Tr.chk (decide (length a14+s14.length≤1099511627776)) (Tr.chk (decide (length a15+length s8≤1099511627776)) (Tr.br b9 (Tr.br (decide (1≤a0)) (Tr.re (AV.tup [AV.str (a15++s8),AV.agg [AV.str z2.1,AV.str z2.2.1,AV.str z2.2.2.1,AV.nils,AV.nils,AV.str z2.2.2.2.1,AV.nils,AV.nils,
   AV.str z2.2.2.2.2.1,AV.int .i64 z2.2.2.2.2.2.1,AV.int .i64 z2.2.2.2.2.2.2.1,AV.str z2.2.2.2.2.2.2.2.1,AV.str z2.2.2.2.2.2.2.2.2.1,AV.nils,AV.nils,AV.sl (Sh.str.pr Sh.expr) z2.2.2.2.2.2.2.2.2.2.1,AV.str (ze.op z2.2.2.2.2.2.2.2.2.2.2.1),AV.int .i64 (ze.v z2.2.2.2.2.2.2.2.2.2.2.1).1,AV.int .i64 (ze.v z2.2.2.2.2.2.2.2.2.2.2.1).2.1,AV.str (ze.v z2.2.2.2.2.2.2.2.2.2.2.1).2.2,
   AV.str (ze.s z2.2.2.2.2.2.2.2.2.2.2.1),AV.sl Sh.expr (ze.l z2.2.2.2.2.2.2.2.2.2.2.1),AV.str z2.2.2.2.2.2.2.2.2.2.2.2.1],AV.bool (decide (a0≤8))]) []) (Tr.re (AV.tup [AV.str (a15++s8),AV.agg [AV.str z2.1,AV.str z2.2.1,AV.str z2.2.2.1,AV.nils,AV.nils,AV.str z2.2.2.2.1,AV.nils,AV.nils,AV.str z2.2.2.2.2.1,AV.int .i64 z2.2.2.2.2.2.1,AV.int .i64 z2.2.2.2.2.2.2.1,
   AV.str z2.2.2.2.2.2.2.2.1,AV.str z2.2.2.2.2.2.2.2.2.1,AV.nils,AV.nils,AV.sl (Sh.str.pr Sh.expr) z2.2.2.2.2.2.2.2.2.2.1,AV.str (ze.op z2.2.2.2.2.2.2.2.2.2.2.1),AV.int .i64 (ze.v z2.2.2.2.2.2.2.2.2.2.2.1).1,AV.int .i64 (ze.v z2.2.2.2.2.2.2.2.2.2.2.1).2.1,AV.str (ze.v z2.2.2.2.2.2.2.2.2.2.2.1).2.2,
   AV.str (ze.s z2.2.2.2.2.2.2.2.2.2.2.1),AV.sl Sh.expr (ze.l z2.2.2.2.2.2.2.2.2.2.2.1),AV.str z2.2.2.2.2.2.2.2.2.2.2.2.1],AV.kb false]) [])) (Tr.re (AV.tup [AV.str (a15++s8),AV.agg [AV.str z2.1,AV.str z2.2.1,AV.str z2.2.2.1,AV.nils,AV.nils,AV.str z2.2.2.2.1,AV.nils,AV.nils,AV.str z2.2.2.2.2.1,AV.int .i64 z2.2.2.2.2.2.1,AV.int .i64 z2.2.2.2.2.2.2.1,
   AV.str z2.2.2.2.2.2.2.2.1,AV.str z2.2.2.2.2.2.2.2.2.1,AV.nils,AV.nils,AV.sl (Sh.str.pr Sh.expr) z2.2.2.2.2.2.2.2.2.2.1,AV.str (ze.op z2.2.2.2.2.2.2.2.2.2.2.1),AV.int .i64 (ze.v z2.2.2.2.2.2.2.2.2.2.2.1).1,AV.int .i64 (ze.v z2.2.2.2.2.2.2.2.2.2.2.1).2.1,AV.str (ze.v z2.2.2.2.2.2.2.2.2.2.2.1).2.2,AV.str (ze.s z2.2.2.2.2.2.2.2.2.2.2.1),
   AV.sl Sh.expr (ze.l z2.2.2.2.2.2.2.2.2.2.2.1),AV.str z2.2.2.2.2.2.2.2.2.2.2.2.1],AV.kb false]) []))))))
def wC (x0:Sem zm):=zW [Sh.str,zm,Sh.bool] zhY 100000000 (zhm x0)
def Nt (x0:Sem zm):=(wC x0).isSome
def Qw (x0:Sem zm):=o3 (wC x0)
def ZJ:=FT [zm] [Sh.str,zm,Sh.bool] fun x=>wC x.1
theorem UQ:FK 183 ZJ:=uT.T1 (f:=Tryz.f183) (keep:=zdG) (e:=zf5)

def Sk:=KN.add 183 ZJ
theorem yF:zl Sk:=uT.add UQ
end

noncomputable def zhg (x0:Sem zm):Tr (Empty ⊕ aj):=
 let a0:=(x0.1,x0.2.1,x0.2.2.1,x0.2.2.2.1,x0.2.2.2.2.1,x0.2.2.2.2.2.1,x0.2.2.2.2.2.2.1,x0.2.2.2.2.2.2.2.1,zE x0.2.2.2.2.2.2.2.2.1,x0.2.2.2.2.2.2.2.2.2.1,x0.2.2.2.2.2.2.2.2.2.2.1,zE x0.2.2.2.2.2.2.2.2.2.2.2.1,x0.2.2.2.2.2.2.2.2.2.2.2.2)
 let a1:=Qw a0
 let a2 := !a1.2.2
 let a3 := !gO x0.2.1
 let a4:=(a1.2.1.1,a1.2.1.2.1,a1.2.1.2.2.1,a1.2.1.2.2.2.1,a1.2.1.2.2.2.2.1,a1.2.1.2.2.2.2.2.1,a1.2.1.2.2.2.2.2.2.1,a1.2.1.2.2.2.2.2.2.2.1,zE a1.2.1.2.2.2.2.2.2.2.2.1,a1.2.1.2.2.2.2.2.2.2.2.2.1,a1.2.1.2.2.2.2.2.2.2.2.2.2.1,zE a1.2.1.2.2.2.2.2.2.2.2.2.2.2.1,a1.2.1.2.2.2.2.2.2.2.2.2.2.2.2)
 let a5:=Ae a1.1
 Tr.chk (Nt a0)
 (Tr.chk (bif a2 then true else eP x0.2.1&&bif a3 then true else Qu a4 a0)
  (Tr.br (bif a2 then true else bif a3 then true else !XP a4 a0) (Tr.re (AV.tup [AV.str [],AV.kb false]) []) (Tr.chk (Nl a1.1) (Tr.br (!a5.2) (Tr.re (AV.tup [AV.str [],AV.kb false]) []) (Tr.re (AV.tup [AV.str a1.1,AV.kb true]) [])))))
noncomputable def BA (x0:Sem zm):=zW [Sh.str,Sh.bool] t0 100000000 (zhg x0)
noncomputable def jY (x0:Sem zm):=(BA x0).isSome
noncomputable def mU (x0:Sem zm):=o2 (BA x0)
noncomputable def Zj:=FT [zm] [Sh.str,Sh.bool] fun x=>BA x.1
theorem Uo:FK 116 Zj:=yF.T1 (f:=Tryz.f116) (keep:=k0) (e:=e0)

noncomputable def C0:=Sk.add 116 Zj
theorem nr:zl C0:=yF.add Uo
noncomputable section

def zc5 (x0:Sem zq.sl) (x1:Sem zg) (x2:Sem Sh.str):Tr (Empty ⊕ aj):=
 let a0:=decide (x1 < (↑(length x0):Int))
 let a1:=getD x0 (toNat x1) (zj zq)
 let a2:=a1.1==1
 let a3:=a1.1==4
 let a4:=a1.2==x2
 Tr.chk
 (bif a0 then zI x1 (length x0)&&bif a2 then zI x1 (length x0) else zI x1 (length x0)&&bif a3 then zI x1 (length x0) else true
 else true)
 (Tr.re (AV.bool (bif a0 then bif a2 then a4 else bif a3 then a4 else false else false)) [])
def No (x0:Sem zq.sl) (x1:Sem zg) (x2:Sem Sh.str):=zW [Sh.bool] t0 100000000 (zc5 x0 x1 x2)
def jX (x0:Sem zq.sl) (x1:Sem zg) (x2:Sem Sh.str):=(No x0 x1 x2).isSome
def qf (x0:Sem zq.sl) (x1:Sem zg) (x2:Sem Sh.str):=o1 (No x0 x1 x2)
def RF:=FT [zq.sl,zg,Sh.str] [Sh.bool] fun x=>No x.1 x.2.1 x.2.2.1
theorem O6:FK 274 RF:=nr.T1 (f:=Tryz.f274) (keep:=k0) (e:=e0)

abbrev WR:=lz [(3,[0,2,4,5]),(10,[0,2,6,7]),(18,[0,2,6,8])]
inductive lO where
 | h3 (s0:Sem Sh.str) (l4:List (Sem zf)) (i5:Int) (z0:zu [CP.d zf])
 | h10 (s0:Sem Sh.str) (i7:Int) (z0:zu [CP.d zf]) (z1:zu [CP.d zf])
 | h18 (s0:Sem Sh.str) (i8:Int) (z0:zu [CP.d zf]) (z1:zu [CP.d zf])
abbrev zb6:lO→Nat×St
 | .h3 s0 l4 i5 z0=>(3,⟨tm 145 [(0,AV.str s0),(2,AV.ptr 0 0),(4,AV.sl zf l4),(5,AV.int .i64 i5)],[AO.box (bJ [] [CP.d zf] z0)]⟩)
 | .h10 s0 i7 z0 z1=>(10,⟨tm 145 [(0,AV.str s0),(2,AV.ptr 0 0),(6,AV.ptr 1 0),(7,AV.int .i64 i7)],[AO.box (bJ [] [CP.d zf] z0),AO.box (bJ [] [CP.d zf] z1)]⟩)
 | .h18 s0 i8 z0 z1=>(18,⟨tm 145 [(0,AV.str s0),(2,AV.ptr 0 0),(6,AV.ptr 1 0),(8,AV.int .i64 i8)],[AO.box (bJ [] [CP.d zf] z0),AO.box (bJ [] [CP.d zf] z1)]⟩)
def zc7 (x0:Sem Sh.str):Tr (lO ⊕ aj):=
 Tr.to (lO.h3 x0 [(0,0,[]),(3,0,[]),(3,1,[])] 0 ((0,0,[]),()))
def zfp:lO→Tr (lO ⊕ aj)
 | .h3 s0 l4 i5 z0=>
  let a0:=l4.getD i5.toNat (zj zf)
  let a1:=decide ((↑(length s0):Int) ≥ 2)
  let a2:=(↑(getD s0 (toNat 0) 0).toNat:Int)==39
  let a3:=IntKind.i64.wrap ((↑(length s0):Int) - 1)
  Tr.br (decide (i5 < (↑l4.length:Int)))
  (Tr.chk (zI i5 l4.length) (Tr.chk (nF a0) (Tr.br (rB a0==s0) (Tr.chk (zI i5 l4.length) (Tr.re (AV.tup [AV.agg [AV.int .i64 a0.1,AV.int .i64 a0.2.1,AV.str a0.2.2],AV.kb true]) [])) (Tr.to (lO.h3 s0 l4 (IntKind.i64.wrap (i5+1)) z0)))))
  (Tr.chk (bif a1 then zI 0 (length s0)&&bif a2 then zI a3 (length s0) else true else true) (Tr.br (bif a1 then bif a2 then (↑(getD s0 a3.toNat 0).toNat:Int)==39 else false else false) (Tr.to (lO.h10 s0 1 z0 ((2,0,[]),()))) (Tr.to (lO.h18 s0 0 z0 ((1,0,[]),())))))
 | .h10 s0 i7 z0 z1=>
  let a0:=IntKind.i64.wrap ((↑(length s0):Int) - 1)
  let a1:=IntKind.i64.wrap (i7+1)
  let a2:=List.take (a1.toNat - i7.toNat) (List.drop i7.toNat s0)
  let a3:=((z1.1.1,z1.1.2.1,z1.1.2.2++a2),())
  Tr.br (decide (i7 < a0))
  (Tr.chk (decide (0≤i7)&&decide (i7≤a1)&&decide (a1≤(↑(length s0):Int))) (Tr.chk (decide (length z1.1.2.2+a2.length≤1099511627776)) (Tr.chk (zI i7 (length s0)) (Tr.br ((↑(getD s0 i7.toNat 0).toNat:Int)==39) (Tr.to (lO.h10 s0 (IntKind.i64.wrap (a1+1)) z0 a3)) (Tr.to (lO.h10 s0 a1 z0 a3))))))
  (Tr.chk (nF z1.1) (Tr.re (AV.tup [AV.agg [AV.int .i64 z1.1.1,AV.int .i64 z1.1.2.1,AV.str z1.1.2.2],AV.bool (rB z1.1==s0)]) []))
 | .h18 s0 i8 z0 z1=>
  let a0:=zI 0 (length s0)
  let a1:=(↑(getD s0 (toNat 0) 0).toNat:Int)
  let a2:=IntKind.i64.wrap (i8+1)
  let a3:=(↑(getD s0 i8.toNat 0).toNat:Int)
  let a4:=decide (a3 < 48)
  let a5:=decide (a3 > 57)
  let a6:=decide (z1.1.2.1 < -922337203685477580)
  let a7:=z1.1.2.1==-922337203685477580
  let a8:=IntKind.i64.wrap (0 - z1.1.2.1)
  let a9:=(z1.1.1,a8,z1.1.2.2)
  Tr.br (decide (i8 < (↑(length s0):Int)))
  (Tr.chk (bif i8==0 then a0 else true) (Tr.br (bif i8==0 then a1==45 else false) (Tr.to (lO.h18 s0 a2 z0 z1)) (Tr.chk (zI i8 (length s0)&&bif a4 then true else zI i8 (length s0)&&bif a5 then true else bif a6 then true else bif a7 then zI i8 (length s0) else true)
  (Tr.br (bif a4 then true else bif a5 then true else bif a6 then true else bif a7 then decide (a3 > 56) else false) (Tr.re (AV.tup [AV.agg [AV.int .i64 0,AV.int .i64 0,AV.str []],AV.kb false]) []) (Tr.chk (zI i8 (length s0)) (Tr.to (lO.h18 s0 a2 z0 ((z1.1.1,IntKind.i64.wrap (IntKind.i64.wrap (IntKind.i64.wrap (10 * z1.1.2.1) - IntKind.i64.wrap a3)+48),z1.1.2.2),()))))))))
  (Tr.chk (bif s0==[] then true else a0) (Tr.br (bif s0==[] then true else a1 != 45) (Tr.br (z1.1.2.1==-9223372036854775808) (Tr.re (AV.tup [AV.agg [AV.int .i64 0,AV.int .i64 0,AV.str []],AV.kb false]) []) (Tr.chk (nF a9) (Tr.re (AV.tup [AV.agg [AV.int .i64 z1.1.1,AV.int .i64 a8,AV.str z1.1.2.2],AV.bool (rB a9==s0)]) []))) (Tr.chk (nF z1.1)
  (Tr.re (AV.tup [AV.agg [AV.int .i64 z1.1.1,AV.int .i64 z1.1.2.1,AV.str z1.1.2.2],AV.bool (rB z1.1==s0)]) []))))
def wq (x0:Sem Sh.str):=zW [zf,Sh.bool] zfp 100000000 (zc7 x0)
def DG (x0:Sem Sh.str):=(wq x0).isSome
def qa (x0:Sem Sh.str):=o2 (wq x0)
def RI:=FT [Sh.str] [zf,Sh.bool] fun x=>wq x.1
theorem O9:FK 292 RI:=nr.T1 (f:=Tryz.f292) (keep:=WR) (e:=zb6)

def Sp:=C0.addL [(274,RF),(292,RI)]
theorem yP:zl Sp:=nr.addL <| fc O6 <| fc O9 <|  jf
end
noncomputable section

abbrev WQ:=lz [(1,[0,1,4])]
inductive xY where
 | h1 (s0:Sem Sh.str) (s1:Sem Sh.str) (z0:zu [CP.d zf])
abbrev zb5:xY→Nat×St
 | .h1 s0 s1 z0=>(1,⟨tm 25 [(0,AV.str s0),(1,AV.str s1),(4,AV.ptr 0 0)],[AO.box (bJ [] [CP.d zf] z0)]⟩)
def zc6 (x0:Sem Sh.str) (x1:Sem Sh.str):Tr (xY ⊕ aj):=
 Tr.to (xY.h1 x0 x1 ((0,0,[]),()))
def zfo:xY→Tr (xY ⊕ aj)
 | .h1 s0 s1 z0=>
  let a0:=decide ((↑(length s1):Int) > 0)
  Tr.chk (bif a0 then zI 0 (length s1) else true)
  (Tr.br (bif a0 then (↑(getD s1 (toNat 0) 0).toNat:Int)==48 else false) (Tr.chk (decide (0≤1)&&decide (1≤(↑(length s1):Int))&&decide ((↑(length s1):Int)≤(↑(length s1):Int))) (Tr.to (xY.h1 s0 (List.take ((↑(length s1):Int).toNat - toNat 1) (List.drop (toNat 1) s1)) z0)))
  (Tr.br (s1==[]) (Tr.re (AV.tup [AV.agg [AV.int .i64 1,AV.int .i64 0,AV.str []],AV.kb true]) []) (Tr.chk (decide (length s0+length s1≤1099511627776)) (Tr.chk (DG (s0++s1)) (Tr.re (AV.tup [AV.agg [AV.int .i64 (qa (s0++s1)).1.1,AV.int .i64 (qa (s0++s1)).1.2.1,AV.str (qa (s0++s1)).1.2.2],AV.bool (qa (s0++s1)).2]) [])))))
def FV (x0:Sem Sh.str) (x1:Sem Sh.str):=zW [zf,Sh.bool] zfo 100000000 (zc6 x0 x1)
def Np (x0:Sem Sh.str) (x1:Sem Sh.str):=(FV x0 x1).isSome
def S9 (x0:Sem Sh.str) (x1:Sem Sh.str):=o2 (FV x0 x1)
def RH:=FT [Sh.str,Sh.str] [zf,Sh.bool] fun x=>FV x.1 x.2.1
theorem O8:FK 291 RH:=yP.T1 (f:=Tryz.f291) (keep:=WQ) (e:=zb5)

def Sq:=Sp.add 291 RH
theorem yQ:zl Sq:=yP.add O8
end

noncomputable def zc4 (x0:Sem zq.sl) (x1:Sem zg):Tr (Empty ⊕ aj):=
 let a0:=IntKind.i64.wrap (x1+1)
 let a1:=decide (a0 ≥ (↑(length x0):Int))
 let a2:=zI a0 (length x0)
 let a3:=getD x0 a0.toNat (zj zq)
 let a4:=S9 [45] a3.2
 let a5:=getD x0 (toNat x1) (zj zq)
 let a6:=S9 [] a5.2
 let a7:=qf x0 x1 [84,82,85,69]
 let a8:=qf x0 x1 [70,65,76,83,69]
 let a9:=qa a5.2
 Tr.br (decide (x1 ≥ (↑(length x0):Int)))
 (Tr.re (AV.tup [AV.agg [AV.str [],AV.int .i64 0,AV.int .i64 0,AV.str [],AV.str [],AV.nils],AV.int .i64 (-1)]) [])
 (Tr.chk (zI x1 (length x0))
  (Tr.chk (jX x0 x1 [45]) (Tr.br (qf x0 x1 [45]) (Tr.chk (bif a1 then true else a2) (Tr.br (bif a1 then true else a3.1 != 2) (Tr.re (AV.tup [AV.agg [AV.str [],AV.int .i64 0,AV.int .i64 0,AV.str [],AV.str [],AV.nils],AV.int .i64 (-1)]) []) (Tr.chk a2 (Tr.chk (Np [45] a3.2) (Tr.br (!a4.2)
  (Tr.re (AV.tup [AV.agg [AV.str [],AV.int .i64 0,AV.int .i64 0,AV.str [],AV.str [],AV.nils],AV.int .i64 (-1)]) []) (Tr.re (AV.tup [AV.agg [AV.str [108,105,116],AV.int .i64 a4.1.1,AV.int .i64 a4.1.2.1,AV.str a4.1.2.2,AV.str [],AV.nils],AV.int .i64 (IntKind.i64.wrap (x1+2))]) [])))))) (Tr.br (a5.1==2) (Tr.chk (Np [] a5.2) (Tr.br (!a6.2)
  (Tr.re (AV.tup [AV.agg [AV.str [],AV.int .i64 0,AV.int .i64 0,AV.str [],AV.str [],AV.nils],AV.int .i64 (-1)]) []) (Tr.re (AV.tup [AV.agg [AV.str [108,105,116],AV.int .i64 a6.1.1,AV.int .i64 a6.1.2.1,AV.str a6.1.2.2,AV.str [],AV.nils],AV.int .i64 a0]) []))) (Tr.br (a5.1==3) (Tr.re
  (AV.tup [AV.agg [AV.str [108,105,116],AV.int .i64 2,AV.int .i64 0,AV.str a5.2,AV.str [],AV.nils],AV.int .i64 a0]) []) (Tr.chk (jX x0 x1 [40]) (Tr.br (qf x0 x1 [40]) Tr.err (Tr.chk (jX x0 x1 [84,82,85,69]&&bif a7 then true else jX x0 x1 [70,65,76,83,69]&&bif a8 then true else jX x0 x1 [78,85,76,76])
  (Tr.br (bif a7 then true else bif a8 then true else qf x0 x1 [78,85,76,76]) (Tr.chk (DG a5.2) (Tr.re (AV.tup [AV.agg [AV.str [108,105,116],AV.int .i64 a9.1.1,AV.int .i64 a9.1.2.1,AV.str a9.1.2.2,AV.str [],AV.nils],AV.int .i64 a0]) [])) (Tr.br (a5.1==1) (Tr.re (AV.tup [AV.agg [AV.str [99,111,108],AV.int .i64 0,AV.int .i64 0,AV.str [],AV.str a5.2,AV.nils],
  AV.int .i64 a0]) []) (Tr.re (AV.tup [AV.agg [AV.str [],AV.int .i64 0,AV.int .i64 0,AV.str [],AV.str [],AV.nils],AV.int .i64 (-1)]) [])))))))))))
noncomputable def Bw (x0:Sem zq.sl) (x1:Sem zg):=zW [Sh.expr,zg] t0 100000000 (zc4 x0 x1)
noncomputable def Qt (x0:Sem zq.sl) (x1:Sem zg):=(Bw x0 x1).isSome
noncomputable def o9 (x0:Sem zq.sl) (x1:Sem zg):=o2 (Bw x0 x1)
noncomputable def RE:=FT [zq.sl,zg] [Sh.expr,zg] fun x=>Bw x.1 x.2.1
theorem O5:FK 273 RE:=yQ.T1 (f:=Tryz.f273) (keep:=k0) (e:=e0)

noncomputable def GV:=Sq.add 273 RE
theorem yR:zl GV:=yQ.add O5
noncomputable section

def uK (g:Sem zq.sl→Sem zg→Sem zg→Sem Sh.expr×Sem zg) (c:Sem zq.sl→Sem zg→Sem zg→Bool):bt:=GV.add 238 (zG [zq.sl,zg,zg] [Sh.expr,zg] (fun x=>c x.1 x.2.1 x.2.2.1) fun x=>((g x.1 x.2.1 x.2.2.1).1,(g x.1 x.2.1 x.2.2.1).2,()))
theorem ER {g:Sem zq.sl→Sem zg→Sem zg→Sem Sh.expr×Sem zg} {c:Sem zq.sl→Sem zg→Sem zg→Bool} (hg:FK 238 (zG [zq.sl,zg,zg] [Sh.expr,zg] (fun x=>c x.1 x.2.1 x.2.2.1) fun x=>((g x.1 x.2.1 x.2.2.1).1,(g x.1 x.2.1 x.2.2.1).2,()))):zl (uK g c):=yR.add hg
abbrev Fs:=lz [(22,[0,2,6,15,16])]
inductive kj where
 | h22 (l0:List (Sem zq)) (i2:Sem zg) (i16:Sem zg) (z1:zu [CP.d Sh.expr]) (ja0:List UInt8) (ja1:Int) (ja2:Int) (ja3:List UInt8) (ja4:List UInt8)
abbrev CK:kj→Nat×St
 | .h22 l0 i2 i16 z1 ja0 ja1 ja2 ja3 ja4=>(22,⟨tm 157 [(0,AV.sl zq l0),(2,AV.int .i64 i2),(6,AV.ptr 0 0),(15,AV.ptr 1 0),(16,AV.int .i64 i16)],[AO.box [AV.str ja0,AV.int .i64 ja1,AV.int .i64 ja2,AV.str ja3,AV.str ja4,AV.nils],AO.box (bJ [] [CP.d Sh.expr] z1)]⟩)
theorem Xi (g:Sem zq.sl→Sem zg→Sem zg→Sem Sh.expr×Sem zg) (c:Sem zq.sl→Sem zg→Sem zg→Bool):zA (uK g c).P 238 Tryz.f238 3:=aQ (by kernel_rfl)
def LJ (g:Sem zq.sl→Sem zg→Sem zg→Sem Sh.expr×Sem zg) (c:Sem zq.sl→Sem zg→Sem zg→Bool) (x0:Sem zq.sl) (x1:Sem zg) (x2:Sem zg):Tr (kj ⊕ aj):=
 let a0:=IntKind.i64.wrap (x1+1)
 let a1:=g x0 a0 2
 let a2:=g x0 x1 3
 let a3:=qf x0 a2.2 [61]
 let a4:=IntKind.i64.wrap (a2.2+1)
 let a5:=getD x0 (toNat a2.2) (zj zq)
 let a6:=zE a2.1
 let a7:=g x0 a4 3
 let a8:=IntKind.i64.wrap (x2+1)
 let a9:=g x0 x1 a8
 Tr.br (decide (x1 < 0))
 (Tr.re (AV.tup [AV.agg [AV.str [],AV.int .i64 0,AV.int .i64 0,AV.str [],AV.str [],AV.nils],AV.int .i64 (-1)]) [])
 (Tr.br (x2==4)
  (Tr.chk (Qt x0 x1) (Tr.re (AV.tup [AV.agg [AV.str (ze.op (o9 x0 x1).1),AV.int .i64 (ze.v (o9 x0 x1).1).1,AV.int .i64 (ze.v (o9 x0 x1).1).2.1,AV.str (ze.v (o9 x0 x1).1).2.2,AV.str (ze.s (o9 x0 x1).1),AV.sl Sh.expr (ze.l (o9 x0 x1).1)],AV.int .i64 (o9 x0 x1).2]) []))
  (Tr.br (x2==2) (Tr.chk (jX x0 x1 [78,79,84]) (Tr.br (qf x0 x1 [78,79,84]) (Tr.chk (c x0 a0 2) (Tr.re (AV.tup [AV.agg [AV.str [110,111,116],AV.int .i64 0,AV.int .i64 0,AV.str [],AV.str [],AV.sl Sh.expr [zE a1.1]],AV.int .i64 a1.2]) [])) (Tr.chk (c x0 x1 3) (Tr.br (decide (a2.2 < 0))
  (Tr.re (AV.tup [AV.agg [AV.str [],AV.int .i64 0,AV.int .i64 0,AV.str [],AV.str [],AV.nils],AV.int .i64 (-1)]) []) (Tr.chk (jX x0 a2.2 [61]&&bif a3 then true else jX x0 a2.2 [60]) (Tr.br (bif a3 then true else qf x0 a2.2 [60]) (Tr.chk (zI a2.2 (length x0)) (Tr.chk (c x0 a4 3) (Tr.re (AV.tup
  [AV.agg [AV.str a5.2,AV.int .i64 0,AV.int .i64 0,AV.str [],AV.str [],AV.sl Sh.expr [a6,zE a7.1]],AV.int .i64 a7.2]) []))) (Tr.chk (jX x0 a2.2 [73,83]) (Tr.br (qf x0 a2.2 [73,83]) (Tr.chk (jX x0 a4 [78,85,76,76]) (Tr.br (!qf x0 a4 [78,85,76,76]) (Tr.re (AV.tup [AV.agg [AV.str [],AV.int .i64 0,AV.int .i64 0,AV.str [],AV.str [],AV.nils],AV.int .i64 (-1)]) [])
  (Tr.re (AV.tup [AV.agg [AV.str [110,117,108,108],AV.int .i64 0,AV.int .i64 0,AV.str [],AV.str [],AV.sl Sh.expr [a6]],AV.int .i64 (IntKind.i64.wrap (a2.2+2))]) []))) (Tr.re (AV.tup [AV.agg [AV.str (ze.op a2.1),AV.int .i64 (ze.v a2.1).1,AV.int .i64 (ze.v a2.1).2.1,AV.str (ze.v a2.1).2.2,AV.str (ze.s a2.1),AV.sl Sh.expr (ze.l a2.1)],AV.int .i64 a2.2])
  []))))))))) (Tr.chk (c x0 x1 a8) (Tr.to (kj.h22 x0 x2 a9.2 (a9.1,()) [] 0 0 [] [])))))
theorem V2 (g:Sem zq.sl→Sem zg→Sem zg→Sem Sh.expr×Sem zg) (c:Sem zq.sl→Sem zg→Sem zg→Bool) (x0:Sem zq.sl) (x1:Sem zg) (x2:Sem zg):rn (uK g c) 0 Fs Tryz.f238 [zz zq.sl x0,zz zg x1,zz zg x2] []=(LJ g c x0 x1 x2).map (lf Tryz.f238 CK):=by kernel_rfl
def NY (g:Sem zq.sl→Sem zg→Sem zg→Sem Sh.expr×Sem zg) (c:Sem zq.sl→Sem zg→Sem zg→Bool):kj→Tr (kj ⊕ aj)
 | .h22 l0 i2 i16 z1 ja0 ja1 ja2 ja3 ja4=>
  let a0:=bif i2==1 then jX l0 i16 [65,78,68] else true
  let a1:=bif i2==1 then qf l0 i16 [65,78,68] else false
  let a2:=qf l0 i16 [43]
  let a3:=bif i2==3 then jX l0 i16 [43]&&bif a2 then true else jX l0 i16 [45] else true
  let a4:=bif i2==3 then bif a2 then true else qf l0 i16 [45] else false
  let a5:=l0.getD (toNat i16) (zj zq)
  let a6:=IntKind.i64.wrap (i16+1)
  let a7:=IntKind.i64.wrap (i2+1)
  let a8:=c l0 a6 a7
  let a9:=g l0 a6 a7
  let a10:=[zE z1.1,zE a9.1]
  Tr.br (decide (i16 ≥ 0))
  (Tr.chk (bif i2==0 then jX l0 i16 [79,82] else true) (Tr.br (bif i2==0 then qf l0 i16 [79,82] else false) (Tr.chk a0 (Tr.br a1 (Tr.chk a3 (Tr.br a4 (Tr.chk (zI i16 l0.length) (Tr.br (a5.2==[]) (Tr.re (AV.tup [AV.agg [AV.str (ze.op z1.1),AV.int .i64 (ze.v z1.1).1,AV.int .i64 (ze.v z1.1).2.1,
  AV.str (ze.v z1.1).2.2,AV.str (ze.s z1.1),AV.sl Sh.expr (ze.l z1.1)],AV.int .i64 i16]) []) (Tr.chk a8 (Tr.to (kj.h22 l0 i2 a9.2 (ze.mk a5.2 (0,0,[]) [] a10,()) ja0 ja1 ja2 ja3 ja4))))) (Tr.br false (Tr.re (AV.tup [AV.agg [AV.str (ze.op z1.1),AV.int .i64 (ze.v z1.1).1,AV.int .i64 (ze.v z1.1).2.1,
  AV.str (ze.v z1.1).2.2,AV.str (ze.s z1.1),AV.sl Sh.expr (ze.l z1.1)],AV.int .i64 i16]) []) (Tr.chk a8 (Tr.to (kj.h22 l0 i2 a9.2 (ze.mk [97,110,100] (0,0,[]) [] a10,()) ja0 ja1 ja2 ja3 ja4)))))) (Tr.chk a3 (Tr.br a4 (Tr.chk (zI i16 l0.length) (Tr.br (a5.2==[]) (Tr.re (AV.tup [AV.agg
  [AV.str (ze.op z1.1),AV.int .i64 (ze.v z1.1).1,AV.int .i64 (ze.v z1.1).2.1,AV.str (ze.v z1.1).2.2,AV.str (ze.s z1.1),AV.sl Sh.expr (ze.l z1.1)],AV.int .i64 i16]) []) (Tr.chk a8 (Tr.to (kj.h22 l0 i2 a9.2 (ze.mk a5.2 (0,0,[]) [] a10,()) ja0 ja1 ja2 ja3 ja4))))) (Tr.br false (Tr.re (AV.tup [AV.agg
  [AV.str (ze.op z1.1),AV.int .i64 (ze.v z1.1).1,AV.int .i64 (ze.v z1.1).2.1,AV.str (ze.v z1.1).2.2,AV.str (ze.s z1.1),AV.sl Sh.expr (ze.l z1.1)],AV.int .i64 i16]) []) (Tr.chk a8 (Tr.to (kj.h22 l0 i2 a9.2 (ze.mk [111,114] (0,0,[]) [] a10,()) ja0 ja1 ja2 ja3 ja4)))))))) (Tr.chk a0 (Tr.br a1 (Tr.chk a3 (Tr.br a4 (Tr.chk (zI i16 l0.length)
  (Tr.br (a5.2==[]) (Tr.re (AV.tup [AV.agg [AV.str (ze.op z1.1),AV.int .i64 (ze.v z1.1).1,AV.int .i64 (ze.v z1.1).2.1,AV.str (ze.v z1.1).2.2,AV.str (ze.s z1.1),AV.sl Sh.expr (ze.l z1.1)],AV.int .i64 i16]) []) (Tr.chk a8 (Tr.to (kj.h22 l0 i2 a9.2 (ze.mk a5.2 (0,0,[]) [] a10,()) ja0 ja1 ja2 ja3 ja4))))) (Tr.br false (Tr.re (AV.tup [AV.agg
  [AV.str (ze.op z1.1),AV.int .i64 (ze.v z1.1).1,AV.int .i64 (ze.v z1.1).2.1,AV.str (ze.v z1.1).2.2,AV.str (ze.s z1.1),AV.sl Sh.expr (ze.l z1.1)],AV.int .i64 i16]) []) (Tr.chk a8 (Tr.to (kj.h22 l0 i2 a9.2 (ze.mk [97,110,100] (0,0,[]) [] a10,()) ja0 ja1 ja2 ja3 ja4)))))) (Tr.chk a3 (Tr.br a4 (Tr.chk (zI i16 l0.length) (Tr.br (a5.2==[]) (Tr.re
  (AV.tup [AV.agg [AV.str (ze.op z1.1),AV.int .i64 (ze.v z1.1).1,AV.int .i64 (ze.v z1.1).2.1,AV.str (ze.v z1.1).2.2,AV.str (ze.s z1.1),AV.sl Sh.expr (ze.l z1.1)],AV.int .i64 i16]) []) (Tr.chk a8 (Tr.to (kj.h22 l0 i2 a9.2 (ze.mk a5.2 (0,0,[]) [] a10,()) ja0 ja1 ja2 ja3 ja4))))) (Tr.br true (Tr.re (AV.tup [AV.agg
  [AV.str (ze.op z1.1),AV.int .i64 (ze.v z1.1).1,AV.int .i64 (ze.v z1.1).2.1,AV.str (ze.v z1.1).2.2,AV.str (ze.s z1.1),AV.sl Sh.expr (ze.l z1.1)],AV.int .i64 i16]) []) (Tr.chk a8 (Tr.to (kj.h22 l0 i2 a9.2 (ze.mk [] (0,0,[]) [] a10,()) ja0 ja1 ja2 ja3 ja4))))))))))
  (Tr.re (AV.tup [AV.agg [AV.str (ze.op z1.1),AV.int .i64 (ze.v z1.1).1,AV.int .i64 (ze.v z1.1).2.1,AV.str (ze.v z1.1).2.2,AV.str (ze.s z1.1),AV.sl Sh.expr (ze.l z1.1)],AV.int .i64 i16]) [])
theorem Xs (g:Sem zq.sl→Sem zg→Sem zg→Sem Sh.expr×Sem zg) (c:Sem zq.sl→Sem zg→Sem zg→Bool):∀ s,run (uK g c) 0 Fs (Func.results Tryz.f238).toList 400 (zy Tryz.f238 (CK s).1) (CK s).2=(NY g c s).map (lf Tryz.f238 CK):=by intro s; cases s <;> kernel_rfl
def jw (o:Option (zw (List.map some [Sh.expr,zg]))):Sem Sh.expr×Sem zg:=(fun r:zw (List.map some [Sh.expr,zg])=>(r.1,r.2.1)) (o.getD (ck [Sh.expr,zg]))
def Nq (g:Sem zq.sl→Sem zg→Sem zg→Sem Sh.expr×Sem zg) (c:Sem zq.sl→Sem zg→Sem zg→Bool) (x0:Sem zq.sl) (x1:Sem zg) (x2:Sem zg):Option (zw (List.map some [Sh.expr,zg])):=zW [Sh.expr,zg] (NY g c) 100000000 (LJ g c x0 x1 x2)
def dY:Nat→Sem zq.sl→Sem zg→Sem zg→Option (zw (List.map some [Sh.expr,zg]))
 | 0=>fun _ _ _=>none
 | n+1=>Nq (fun x0 x1 x2=>jw (dY n x0 x1 x2)) fun x0 x1 x2=>(dY n x0 x1 x2).isSome
theorem L3:zA GV.P 238 Tryz.f238 3:=aQ (by kernel_rfl)
theorem Ch:∀ n,FK 238 (zG [zq.sl,zg,zg] [Sh.expr,zg] (fun x=>(dY n x.1 x.2.1 x.2.2.1).isSome) fun x=>((jw (dY n x.1 x.2.1 x.2.2.1)).1,(jw (dY n x.1 x.2.1 x.2.2.1)).2,()))
 | 0=>dv ⟨Tryz.f238,L3.1,L3.2.1,L3.2.2.1⟩ (fun _=>rfl)
 | n+1=>ji (E:=uK (fun x0 x1 x2=>jw (dY n x0 x1 x2)) (fun x0 x1 x2=>(dY n x0 x1 x2).isSome)) (ks:=[zq.sl,zg,zg]) (outs:=[Sh.expr,zg]) (keep:=Fs) (gas:=400) (n:=100000000) (e:=CK) (t:=NY (fun x0 x1 x2=>jw (dY n x0 x1 x2)) (fun x0 x1 x2=>(dY n x0 x1 x2).isSome)) (i:=fun x=>LJ (fun x0 x1 x2=>jw (dY n x0 x1 x2)) (fun x0 x1 x2=>(dY n x0 x1 x2).isSome) x.1 x.2.1 x.2.2.1) (ER (Ch n)) (Xi _ _) (fun x=>V2 _ _ x.1 x.2.1 x.2.2.1) (Xs _ _) (fun _=>by kernel_rfl) (fun _=>by kernel_rfl)
def DM (x0:Sem zq.sl) (x1:Sem zg) (x2:Sem zg):Option (zw (List.map some [Sh.expr,zg])):=dY 16 x0 x1 x2
def DL (x0:Sem zq.sl) (x1:Sem zg) (x2:Sem zg):Bool:=(DM x0 x1 x2).isSome
def Bx (x0:Sem zq.sl) (x1:Sem zg) (x2:Sem zg):Sem Sh.expr×Sem zg:=jw (DM x0 x1 x2)
def RB:zF:=zG [zq.sl,zg,zg] [Sh.expr,zg] (fun x=>DL x.1 x.2.1 x.2.2.1) fun x=>((Bx x.1 x.2.1 x.2.2.1).1,(Bx x.1 x.2.1 x.2.2.1).2,())
theorem O2:FK 238 RB:=Ch 16

def Sr:=GV.add 238 RB
theorem yS:zl Sr:=yR.add O2
end

noncomputable def zc1 (x0:Sem zq.sl):Tr (Empty ⊕ aj):=
 let a0:=Bx x0 0 0
 let a1:=decide (a0.2 < 0)
 let a2:=zE a0.1
 Tr.chk (DL x0 0 0)
 (Tr.chk (bif a1 then true else FH a2)
  (Tr.br (bif a1 then true else !Nc a2) (Tr.re (AV.tup [AV.agg [AV.str [],AV.int .i64 0,AV.int .i64 0,AV.str [],AV.str [],AV.nils],AV.int .i64 0,AV.kb false]) []) (Tr.re (AV.tup [AV.agg [AV.str (ze.op a0.1),AV.int .i64 (ze.v a0.1).1,AV.int .i64 (ze.v a0.1).2.1,AV.str (ze.v a0.1).2.2,AV.str (ze.s a0.1),AV.sl Sh.expr (ze.l a0.1)],AV.int .i64 a0.2,AV.kb true])
  [])))
noncomputable def wz (x0:Sem zq.sl):=zW [Sh.expr,zg,Sh.bool] t0 100000000 (zc1 x0)
noncomputable def DK (x0:Sem zq.sl):=(wz x0).isSome
noncomputable def HL (x0:Sem zq.sl):=o3 (wz x0)
noncomputable def Rt:=FT [zq.sl] [Sh.expr,zg,Sh.bool] fun x=>wz x.1
theorem OV:FK 182 Rt:=yS.T1 (f:=Tryz.f182) (keep:=k0) (e:=e0)

noncomputable def GW:=Sr.add 182 Rt
theorem yT:zl GW:=yS.add OV
open Go

theorem gY.cells {C:cH} {w:World} {U:Nat→Prop} {ρ:Nat→Option Value} {hp:Nat→AO} {k:Nat} {cs cs':List AV} (hH:gY C w U ρ hp) (hk:hp k=.box cs)
  (hr:∀ vals,cK w U ρ cs vals→cK w U ρ cs' vals):gY C w U ρ (fun j=>if j=k then .box cs' else hp j):=by
 have hown:∀ id b,zO ρ id (if id=k then .box cs' else hp id) b→zO ρ id (hp id) b:=by
  intro id b ho
  by_cases hid:id=k
  ·subst hid
   rw [if_pos rfl] at ho
   rw [hk]
   obtain ⟨_,v,hv,hb⟩:=ho
   exact ⟨rfl,v,hv,hb⟩
  ·rw [if_neg hid] at ho; exact ho
 refine ⟨fun id=>?_,fun id1 id2 b o1 o2=>hH.inj id1 id2 b (hown _ _ o1) (hown _ _ o2),fun id b o=>hH.blk id b (hown _ _ o)⟩
 by_cases hid:id=k
 ·subst hid
  have h0:=hH.ob id
  rw [hk] at h0
  obtain ⟨b,T,vals,h1,h2,h3,h4,h5⟩:=h0
  simp only [if_true]
  exact ⟨b,T,vals,h1,h2,h3,hr _ h4,h5⟩
 ·simp only [if_neg hid]
  exact hH.ob id

def aX (ps qs:List CP) (y:zu ps) (z:zu qs):List AO:=.box (fO 2 ps y)::.box (fO (2+aE ps) qs z)::(fP ps y++fP qs z)

theorem mu (ps qs:List CP) (y:zu ps) (z:zu qs):(aX ps qs y z).length=aE ps+aE qs+2:=by
 simp [aX,bD]

theorem gY.box2 {C:cH} {w:World} {U:Nat→Prop} {ρ:Nat→Option Value} {cs ds:List AV} {os:List AO} {ps qs:List CP} {y:zu ps} {z:zu qs} (hH:gY C w U ρ (fun j=>((AO.box cs::AO.box ds::os).getD j .dead))) (hl:os.length=aE ps+aE qs)
  (hm:cw (iL (.box cs::.box ds::os)) 2 ps cs=some y) (hm2:cw (iL (.box cs::.box ds::os)) (2+aE ps) qs ds=some z):gY C w U ρ (fun j=>(aX ps qs y z).getD j .dead):=by
 have h1:=hH.cells (k:=0) (cs:=cs) (cs':=fO 2 ps y) rfl (fun vals h=>(eB ps 2 cs y vals hm h).1)
 have h2:=h1.cells (k:=1) (cs:=ds) (cs':=fO (2+aE ps) qs z) rfl (fun vals h=>(eB qs _ ds z vals hm2 h).1)
 obtain ⟨b0,T0,v0,_,_,_,r0,_⟩:=hH.ob 0
 obtain ⟨b1,T1,v1,_,_,_,r1,_⟩:=hH.ob 1
 have k1:=(eB ps 2 cs y v0.toList hm r0).2
 have k2:=(eB qs _ ds z v1.toList hm2 r1).2
 have e:(fun j=>(aX ps qs y z).getD j .dead)=fun j=>if j=1 then .box (fO (2+aE ps) qs z) else if j=0 then .box (fO 2 ps y) else (AO.box cs::AO.box ds::os).getD j .dead:=by
  funext j
  match j with
  | 0=>rfl
  | 1=>rfl
  | j+2=>
   rw [if_neg (by omega),if_neg (by omega)]
   simp only [aX,x6]
   by_cases hj:j < aE ps
   ·have hj':j < (fP ps y).length:=by rw [bD]; exact hj
    have:=k1 j _ (zJ hj')
    simp only [iL,po 2 j,x6] at this
    rw [this,aJ,j6 hj',zJ hj']
    rfl
   ·by_cases hj2:j < aE ps+aE qs
    ·have hj':j - aE ps < (fP qs z).length:=by rw [bD]; omega
     have:=k2 (j - aE ps) _ (zJ hj')
     rw [show 2+aE ps+(j - aE ps)=j+2 by omega] at this
     simp only [iL,x6] at this
     rw [this,aJ,lc (by rw [bD]; omega),bD,zJ hj']
     rfl
    ·rw [aJ,aJ,dd (by simp [bD]; omega),dd (by omega)]
 rw [e]
 exact h2

def ta (ps qs:List CP) (outs:List Sh) (r:AV) (h:List AO):Option (zw (outs.map some)×zu ps×zu qs):=match h with
 | .box cs::.box ds::os=>if os.length=aE ps+aE qs then match ap [] outs r,cw (iL (.box cs::.box ds::os)) 2 ps cs,cw (iL (.box cs::.box ds::os)) (2+aE ps) qs ds with
   | some a,some y,some z=>some (a,y,z)
   | _,_,_=>none
  else none
 | _=>none

def R7 (ps qs:List CP) (ks outs:List Sh) (ps' qs':List CP) (c:zu ps→zu qs→zw (ks.map some)→Bool) (g:zu ps→zu qs→zw (ks.map some)→zw (outs.map some)×zu ps'×zu qs'):cF (none::none::ks.map some):=fun x h=>match x.1,x.2.1,h with
 | .ptr 0 0,.ptr 1 0,.box cs::.box ds::os=>if os.length=aE ps+aE qs then match cw (iL (.box cs::.box ds::os)) 2 ps cs,cw (iL (.box cs::.box ds::os)) (2+aE ps) qs ds with
   | some y,some z=>.chk (c y z x.2.2) (.ok (sB outs (g y z x.2.2).1,aX ps' qs' (g y z x.2.2).2.1 (g y z x.2.2).2.2))
   | _,_=>.err
  else .err
 | _,_,_=>.err

def GJ (ps qs:List CP) (ks outs:List Sh) (ps' qs':List CP) (c:zu ps→zu qs→zw (ks.map some)→Bool) (g:zu ps→zu qs→zw (ks.map some)→zw (outs.map some)×zu ps'×zu qs'):zF:=zU (none::none::ks.map some) (R7 ps qs ks outs ps' qs' c g)

theorem J2 {P:Program} {gl:Nat→AV} {E:bt} {k:FuncId} {f:Func} {ps qs:List CP} {ks outs:List Sh} {ps' qs':List CP} {c:zu ps→zu qs→zw (ks.map some)→Bool} {g:zu ps→zu qs→zw (ks.map some)→zw (outs.map some)×zu ps'×zu qs'} (hf:zA E.P k f (ks.length+2))
  (h:∀ y z x,c y z x=true→∀ C:cH,(∀ id,aE ps+aE qs+2≤id→C.ρ0 id=none)→Reach E C k (aB f) (aq f.ntmps (.ptr 0 0::.ptr 1 0::gz (ks.map some) x) (aX ps qs y z)) (fun r h=>ta ps' qs' outs r h=some (g y z x))) (qp:E.P=P:=by rfl) (qg:E.gl=gl:=by rfl):
  mf P gl k (GJ ps qs ks outs ps' qs' c g):=by
 subst qp qg
 refine bA (by simpa using hf) fun x h0 res hx C hC=>?_
 obtain ⟨x0,x1,x⟩:=x
 unfold R7 at hx
 simp only at hx
 split at hx
 ·rename_i cs ds os
  split at hx
  ·rename_i hos
   split at hx
   ·rename_i y z hy hz
    simp only [Tr.val] at hx
    split at hx
    ·rename_i hc
     simp only [ao] at hx
     subst hx
     have hR:=h y z x hc C (fun id hid=>hC id (by simpa [hos] using hid))
     intro b cs' a w U ρ h1 h2 hcn hW
     have hH:gY C w U ρ (fun j=>((AO.box cs::AO.box ds::os).getD j .dead)):=hcn.hp
     have hcn':Cn C (aq f.ntmps (.ptr 0 0::.ptr 1 0::gz (ks.map some) x) (aX ps qs y z)) a w U ρ:=
      ⟨hcn.tm,hH.box2 hos hy hz,fun id hid=>hcn.new id (by have hid:(aX ps qs y z).length≤id:=hid; rw [mu] at hid; simpa [aq,hos] using hid),hcn.df,hcn.r0⟩
     obtain ⟨e,w',fr,⟨v,r,h',U',ρ',he,hq,hrv,hH',hnew,hr0,hWd⟩,hcm,hf',hl⟩:=hR b cs' a w U ρ h1 h2 hcn' hW
     unfold ta at hq
     split at hq
     ·rename_i cs2 ds2 os2
      split at hq
      ·rename_i hos2
       split at hq
       ·rename_i a' y' z' ha' hy' hz'
        simp only [ao] at hq
        refine ⟨e,w',fr,⟨v,_,_,U',ρ',he,by rw [← hq],Aj ha' hrv,hH'.box2 hos2 hy' hz',fun id hid=>hnew id (by rw [mu] at hid; simpa [hos2] using hid),hr0,hWd⟩,hcm,hf',hl⟩
       ·cases hq
      ·cases hq
     ·cases hq
    ·simp at hx
   ·simp at hx
  ·simp at hx
 ·simp at hx

def DC {σ:Type} (outs:List Sh) (ps' qs':List CP) (t:σ→Tr (σ ⊕ aj)) (n:Nat) (i:Tr (σ ⊕ aj)):Option (zw (outs.map some)×zu ps'×zu qs'):=(bh t n i).bind fun r=>ta ps' qs' outs r.1 r.2

theorem J1 {P:Program} {gl:Nat→AV} {σ:Type} {E:bt} {k:FuncId} {f:Func} {ps qs:List CP} {ks outs:List Sh} {ps' qs':List CP} {keep:Nat→ah} {gas n:Nat} {e:σ→Nat×St} {t:σ→Tr (σ ⊕ aj)} {i:zu ps→zu qs→zw (ks.map some)→Tr (σ ⊕ aj)} {c:zu ps→zu qs→zw (ks.map some)→Bool} {g:zu ps→zu qs→zw (ks.map some)→zw (outs.map some)×zu ps'×zu qs'}
  (hE:zl E) (hf:zA E.P k f (ks.length+2)) (hgo:∀ y z x,run E (aE ps+aE qs+2) keep f.results.toList gas (aB f) (aq f.ntmps (.ptr 0 0::.ptr 1 0::gz (ks.map some) x) (aX ps qs y z))=(i y z x).map (lf f e))
  (hon:∀ s,run E (aE ps+aE qs+2) keep f.results.toList gas (zy f (e s).1) (e s).2=(t s).map (lf f e))
  (hc:∀ y z x,c y z x=(DC outs ps' qs' t n (i y z x)).isSome) (hg:∀ y z x,g y z x=(DC outs ps' qs' t n (i y z x)).getD (ck outs,fR ps',fR qs')) (qp:E.P=P:=by rfl) (qg:E.gl=gl:=by rfl):mf P gl k (GJ ps qs ks outs ps' qs' c g):=by
 subst qp qg
 refine J2 hf fun y z x hcx C hC=>?_
 rw [hc,Option.isSome_iff_exists] at hcx
 obtain ⟨u,hu⟩:=hcx
 rw [hg,hu]
 unfold DC at hu
 rw [eS] at hu
 obtain ⟨r,h1,h2⟩:=hu
 exact kH (Q:=fun r h=>ta ps' qs' outs r h=some u) hE hf hC (n+1) _ _ r (by rw [js hon (hgo y z x)]; exact h1) h2


abbrev L9:=lz []
theorem W6:zA GW.P 110 Tryz.f110 1:=aQ (by kernel_rfl)
noncomputable def Lu (y:zu zK):Tr (Empty ⊕ aj):=
 let a0:=(y.1,y.2.1,y.2.2.1,())
 let a1:=mW a0 [45]
 let a2:=IntKind.i64.wrap (a1.2.2.1+2)
 let a3:=(↑(length a1.2.1):Int)
 let a4:=decide (0≤a1.2.2.1)
 let a5:=List.drop (toNat a1.2.2.1) a1.2.1
 let a6:=List.take (a2.toNat - toNat a1.2.2.1) a5
 let a7:=HL a6
 let a8:=IntKind.i64.wrap (a1.2.2.1+1)
 let a9:=List.take (a8.toNat - toNat a1.2.2.1) a5
 let a10:=HL a9
 Tr.chk (ka a0 [45])
 (Tr.br a1.1
  (Tr.br (decide (a2 > a3)) (Tr.re (AV.agg [AV.int .i64 0,AV.int .i64 0,AV.str []]) [AO.box [AV.sl zq a1.2.1,AV.int .i64 a1.2.2.1,AV.kb false]]) (Tr.chk (a4&&decide (a1.2.2.1≤a2)&&decide (a2≤a3)) (Tr.chk (DK a6) (Tr.br (bif !a7.2.2 then true else bif a7.2.1 != 2 then true else !ze.op a7.1==[108,105,116])
  (Tr.re (AV.agg [AV.int .i64 (ze.v a7.1).1,AV.int .i64 (ze.v a7.1).2.1,AV.str (ze.v a7.1).2.2]) [AO.box [AV.sl zq a1.2.1,AV.int .i64 a2,AV.kb false]]) (Tr.re (AV.agg [AV.int .i64 (ze.v a7.1).1,AV.int .i64 (ze.v a7.1).2.1,AV.str (ze.v a7.1).2.2]) (cg zK (a1.2.1,a2,a1.2.2.2)))))))
  (Tr.br (decide (a8 > a3)) (Tr.re (AV.agg [AV.int .i64 0,AV.int .i64 0,AV.str []]) [AO.box [AV.sl zq a1.2.1,AV.int .i64 a1.2.2.1,AV.kb false]]) (Tr.chk (a4&&decide (a1.2.2.1≤a8)&&decide (a8≤a3)) (Tr.chk (DK a9) (Tr.br (bif !a10.2.2 then true else bif a10.2.1 != 1 then true else !ze.op a10.1==[108,105,116])
  (Tr.re (AV.agg [AV.int .i64 (ze.v a10.1).1,AV.int .i64 (ze.v a10.1).2.1,AV.str (ze.v a10.1).2.2]) [AO.box [AV.sl zq a1.2.1,AV.int .i64 a8,AV.kb false]]) (Tr.re (AV.agg [AV.int .i64 (ze.v a10.1).1,AV.int .i64 (ze.v a10.1).2.1,AV.str (ze.v a10.1).2.2]) (cg zK (a1.2.1,a8,a1.2.2.2))))))))
theorem VM (y:zu zK):rn GW 1 L9 Tryz.f110 [AV.ptr 0 0] (cg zK y)=(Lu y).map (lf Tryz.f110 e0):=by kernel_rfl
noncomputable def Nz (y:zu zK):Option (zw (List.map some [zf])×zu zK):=xN [zf] zK t0 100000000 (Lu y)
noncomputable def F0 (y:zu zK):Bool:=(Nz y).isSome
noncomputable def HQ (y:zu zK):(Sem zf)×zu zK:=(fun r:zw (List.map some [zf])×zu zK=>(r.1.1,r.2)) ((Nz y).getD (ck [zf],fR zK))
noncomputable def QW:zF:=xx zK [] [zf] zK (fun y _=>F0 y) fun y _=>(((HQ y).1,()),(HQ y).2)
theorem Ol:FK 110 QW:=qI (ps:=zK) (ks:=[]) (outs:=[zf]) (keep:=L9) (gas:=400) (n:=100000000) (e:=e0) (t:=t0) (i:=fun y x=>Lu y) yT W6 (fun y x=>VM y) (JN _ _ _ _ _) (fun _ _=>by kernel_rfl) (fun _ _=>by kernel_rfl)

noncomputable def Da:=GW.add 110 QW
theorem yU:zl Da:=yT.add Ol
noncomputable section
abbrev PD:List CP:=[.d .str,.d .str,.d .str,.nil,.vec zi,.d .str,.nil,.nil,.d .str,.d zg,.d zg,.d .str,.d .str,.nil,.nil,.nil,.d .str,.d zg,.d zg,.d .str,.d .str,.nil,.d .str]
abbrev n5:List CP:=[.d .str,.d .str,.d .str,.nil,.vec zi,.d .str,.vec .str,.vec bI,.d .str,.d zg,.d zg,.d .str,.d .str,.nil,.nil,.nil,.d .str,.d zg,.d zg,.d .str,.d .str,.nil,.d .str]
abbrev gp:List CP:=[.d .str,.d .str,.d .str,.nil,.vec zi,.d .str,.vec .str,.vec bI,.d .expr,.nil,.nil,.d .str,.d zg,.d zg,.d .str,.d .str,.nil,.d .str]

abbrev Fp:Nat→ah:=fun j=>if j=4 then { slots:=[0,1],prom:=[(1,some 4,zi)] } else if j=23 then { slots:=[0,1,5],prom:=[(1,some 6,.str),(1,some 7,bI)] } else if j=500013 then { slots:=[0,1,4,47],cut:=true } else if j=500025 then { slots:=[0,1,5,85],cut:=true } else if j=500029 then { slots:=[0,1,5,107],cut:=true } else if j=500035 then { slots:=[0,1,5,133],cut:=true } else if j=1000000 then { prom:=[(1,some 4,zi),(1,some 6,.str),(1,some 7,bI),(1,some 13,.expr)],sett:=[(1,13)] } else { }
inductive bB where
 | h4 (z0:zu zK) (z1:zu PD)
 | h500013 (b47:Sem Sh.bool) (z0:zu zK) (z1:zu PD) (jc0:Sem Sh.str) (jc1:Int)
 | h23 (i5:Int) (z1:zu n5) (ja0:List (Sem zq)) (ja1:Sem zg) (bh_0_2:Sem Sh.bool)
 | h500025 (i5:Int) (b85:Sem Sh.bool) (z0:zu zK) (z1:zu n5)
 | h500025b (i5:Int) (z0:zu zK) (z1:zu n5)
 | h500029 (i5:Int) (b107:Sem Sh.bool) (z0:zu zK) (z1:zu n5)
 | h500029b (i5:Int) (z0:zu zK) (z1:zu n5)
 | h500035 (i5:Int) (b133:Sem Sh.bool) (z0:zu zK) (z1:zu n5)
 | h500035b (i5:Int) (z0:zu zK) (z1:zu n5)
 | h23b (i5:Int) (z1:zu gp) (ja0:List (Sem zq)) (ja1:Sem zg) (bh_0_2:Sem Sh.bool)
 | h23bb (i5:Int) (z1:zu n5) (ja0:List (Sem zq)) (ja1:Sem zg)
 | h500025bb (i5:Int) (b85:Sem Sh.bool) (z0:zu zK) (z1:zu gp)
 | h500025bbb (i5:Int) (z0:zu zK) (z1:zu gp)
 | h500029bb (i5:Int) (b107:Sem Sh.bool) (z0:zu zK) (z1:zu gp)
 | h500029bbb (i5:Int) (z0:zu zK) (z1:zu gp)
 | h500035bb (i5:Int) (b133:Sem Sh.bool) (z0:zu zK) (z1:zu gp)
 | h500035bbb (i5:Int) (z0:zu zK) (z1:zu gp)
 | h23bbb (i5:Int) (z1:zu gp) (ja0:List (Sem zq)) (ja1:Sem zg)
abbrev CG:bB→Nat×St
 | .h4 z0 z1=>(4,⟨tm 147 [(0,AV.ptr 0 0),(1,AV.ptr 1 0)],[AO.box (bJ [] zK z0),AO.box (bJ [2] PD z1),AO.vec zi z1.2.2.2.1]⟩)
 | .h500013 b47 z0 z1 jc0 jc1=>(500013,⟨tm 147 [(0,AV.ptr 0 0),(1,AV.ptr 1 0),(4,AV.ptr 2 0),(47,AV.bool b47)],[AO.box (bJ [] zK z0),AO.box (bJ [3] PD z1),AO.box [AV.str jc0,AV.int .i64 jc1,AV.kb false],AO.vec zi z1.2.2.2.1]⟩)
 | .h23 i5 z1 ja0 ja1 bh_0_2=>(23,⟨tm 147 [(0,AV.ptr 0 0),(1,AV.ptr 1 0),(5,AV.int .i64 i5)],[AO.box [AV.sl zq ja0,AV.int .i64 ja1,AV.bool bh_0_2],AO.box (bJ [2,3,4] n5 z1),AO.vec zi z1.2.2.2.1,AO.vec Sh.str z1.2.2.2.2.2.1,AO.vec (Sh.str.pr Sh.str) z1.2.2.2.2.2.2.1]⟩)
 | .h500025 i5 b85 z0 z1=>(500025,⟨tm 147 [(0,AV.ptr 0 0),(1,AV.ptr 1 0),(5,AV.int .i64 i5),(85,AV.bool b85)],[AO.box (bJ [] zK z0),AO.box (bJ [2,3,4] n5 z1),AO.vec zi z1.2.2.2.1,AO.vec Sh.str z1.2.2.2.2.2.1,AO.vec (Sh.str.pr Sh.str) z1.2.2.2.2.2.2.1]⟩)
 | .h500025b i5 z0 z1=>(500025,⟨tm 147 [(0,AV.ptr 0 0),(1,AV.ptr 1 0),(5,AV.int .i64 i5),(85,AV.kb false)],[AO.box (bJ [] zK z0),AO.box (bJ [2,3,4] n5 z1),AO.vec zi z1.2.2.2.1,AO.vec Sh.str z1.2.2.2.2.2.1,AO.vec (Sh.str.pr Sh.str) z1.2.2.2.2.2.2.1]⟩)
 | .h500029 i5 b107 z0 z1=>(500029,⟨tm 147 [(0,AV.ptr 0 0),(1,AV.ptr 1 0),(5,AV.int .i64 i5),(107,AV.bool b107)],[AO.box (bJ [] zK z0),AO.box (bJ [2,3,4] n5 z1),AO.vec zi z1.2.2.2.1,AO.vec Sh.str z1.2.2.2.2.2.1,AO.vec (Sh.str.pr Sh.str) z1.2.2.2.2.2.2.1]⟩)
 | .h500029b i5 z0 z1=>(500029,⟨tm 147 [(0,AV.ptr 0 0),(1,AV.ptr 1 0),(5,AV.int .i64 i5),(107,AV.kb false)],[AO.box (bJ [] zK z0),AO.box (bJ [2,3,4] n5 z1),AO.vec zi z1.2.2.2.1,AO.vec Sh.str z1.2.2.2.2.2.1,AO.vec (Sh.str.pr Sh.str) z1.2.2.2.2.2.2.1]⟩)
 | .h500035 i5 b133 z0 z1=>(500035,⟨tm 147 [(0,AV.ptr 0 0),(1,AV.ptr 1 0),(5,AV.int .i64 i5),(133,AV.bool b133)],[AO.box (bJ [] zK z0),AO.box (bJ [2,3,4] n5 z1),AO.vec zi z1.2.2.2.1,AO.vec Sh.str z1.2.2.2.2.2.1,AO.vec (Sh.str.pr Sh.str) z1.2.2.2.2.2.2.1]⟩)
 | .h500035b i5 z0 z1=>(500035,⟨tm 147 [(0,AV.ptr 0 0),(1,AV.ptr 1 0),(5,AV.int .i64 i5),(133,AV.kb false)],[AO.box (bJ [] zK z0),AO.box (bJ [2,3,4] n5 z1),AO.vec zi z1.2.2.2.1,AO.vec Sh.str z1.2.2.2.2.2.1,AO.vec (Sh.str.pr Sh.str) z1.2.2.2.2.2.2.1]⟩)
 | .h23b i5 z1 ja0 ja1 bh_0_2=>(23,⟨tm 147 [(0,AV.ptr 0 0),(1,AV.ptr 1 0),(5,AV.int .i64 i5)],[AO.box [AV.sl zq ja0,AV.int .i64 ja1,AV.bool bh_0_2],AO.box (bJ [2,3,4] gp z1),AO.vec zi z1.2.2.2.1,AO.vec Sh.str z1.2.2.2.2.2.1,AO.vec (Sh.str.pr Sh.str) z1.2.2.2.2.2.2.1]⟩)
 | .h23bb i5 z1 ja0 ja1=>(23,⟨tm 147 [(0,AV.ptr 0 0),(1,AV.ptr 1 0),(5,AV.int .i64 i5)],[AO.box [AV.sl zq ja0,AV.int .i64 ja1,AV.kb false],AO.box (bJ [2,3,4] n5 z1),AO.vec zi z1.2.2.2.1,AO.vec Sh.str z1.2.2.2.2.2.1,AO.vec (Sh.str.pr Sh.str) z1.2.2.2.2.2.2.1]⟩)
 | .h500025bb i5 b85 z0 z1=>(500025,⟨tm 147 [(0,AV.ptr 0 0),(1,AV.ptr 1 0),(5,AV.int .i64 i5),(85,AV.bool b85)],[AO.box (bJ [] zK z0),AO.box (bJ [2,3,4] gp z1),AO.vec zi z1.2.2.2.1,AO.vec Sh.str z1.2.2.2.2.2.1,AO.vec (Sh.str.pr Sh.str) z1.2.2.2.2.2.2.1]⟩)
 | .h500025bbb i5 z0 z1=>(500025,⟨tm 147 [(0,AV.ptr 0 0),(1,AV.ptr 1 0),(5,AV.int .i64 i5),(85,AV.kb false)],[AO.box (bJ [] zK z0),AO.box (bJ [2,3,4] gp z1),AO.vec zi z1.2.2.2.1,AO.vec Sh.str z1.2.2.2.2.2.1,AO.vec (Sh.str.pr Sh.str) z1.2.2.2.2.2.2.1]⟩)
 | .h500029bb i5 b107 z0 z1=>(500029,⟨tm 147 [(0,AV.ptr 0 0),(1,AV.ptr 1 0),(5,AV.int .i64 i5),(107,AV.bool b107)],[AO.box (bJ [] zK z0),AO.box (bJ [2,3,4] gp z1),AO.vec zi z1.2.2.2.1,AO.vec Sh.str z1.2.2.2.2.2.1,AO.vec (Sh.str.pr Sh.str) z1.2.2.2.2.2.2.1]⟩)
 | .h500029bbb i5 z0 z1=>(500029,⟨tm 147 [(0,AV.ptr 0 0),(1,AV.ptr 1 0),(5,AV.int .i64 i5),(107,AV.kb false)],[AO.box (bJ [] zK z0),AO.box (bJ [2,3,4] gp z1),AO.vec zi z1.2.2.2.1,AO.vec Sh.str z1.2.2.2.2.2.1,AO.vec (Sh.str.pr Sh.str) z1.2.2.2.2.2.2.1]⟩)
 | .h500035bb i5 b133 z0 z1=>(500035,⟨tm 147 [(0,AV.ptr 0 0),(1,AV.ptr 1 0),(5,AV.int .i64 i5),(133,AV.bool b133)],[AO.box (bJ [] zK z0),AO.box (bJ [2,3,4] gp z1),AO.vec zi z1.2.2.2.1,AO.vec Sh.str z1.2.2.2.2.2.1,AO.vec (Sh.str.pr Sh.str) z1.2.2.2.2.2.2.1]⟩)
 | .h500035bbb i5 z0 z1=>(500035,⟨tm 147 [(0,AV.ptr 0 0),(1,AV.ptr 1 0),(5,AV.int .i64 i5),(133,AV.kb false)],[AO.box (bJ [] zK z0),AO.box (bJ [2,3,4] gp z1),AO.vec zi z1.2.2.2.1,AO.vec Sh.str z1.2.2.2.2.2.1,AO.vec (Sh.str.pr Sh.str) z1.2.2.2.2.2.2.1]⟩)
 | .h23bbb i5 z1 ja0 ja1=>(23,⟨tm 147 [(0,AV.ptr 0 0),(1,AV.ptr 1 0),(5,AV.int .i64 i5)],[AO.box [AV.sl zq ja0,AV.int .i64 ja1,AV.kb false],AO.box (bJ [2,3,4] gp z1),AO.vec zi z1.2.2.2.1,AO.vec Sh.str z1.2.2.2.2.2.1,AO.vec (Sh.str.pr Sh.str) z1.2.2.2.2.2.2.1]⟩)
theorem W4:zA Da.P 107 Tryz.f107 2:=aQ (by kernel_rfl)
def Ls (y:zu zK) (z:zu eK):Tr (bB ⊕ aj):=
 let a0:=(y.1,y.2.1,y.2.2.1,())
 let a1:=zZ a0 [84,65,66,76,69]
 let a2:=(a1.1,a1.2.1,a1.2.2.1,())
 let a3:=aO a2
 let a4:=(a3.2.1,a3.2.2.1,a3.2.2.2.1,())
 Tr.chk (zP a0 [84,65,66,76,69])
 (Tr.chk (ar a2) (Tr.chk (zP a4 [40]) (Tr.to (bB.h4 (zZ a4 [40]) ([99,114,101,97,116,101],a3.1,z.2.2.1,[],z.2.2.2)))))
theorem VK (y:zu zK) (z:zu eK):rn Da 2 Fp Tryz.f107 [AV.ptr 0 0,AV.ptr 1 0] (aX zK eK y z)=(Ls y z).map (lf Tryz.f107 CG):=by kernel_rfl
def NU:bB→Tr (bB ⊕ aj)
 | .h4 z0 z1=>
  let a0:=(z0.1,z0.2.1,z0.2.2.1,())
  let a1:=mW a0 [75,69,89]
  let a2:=(a1.2.1,a1.2.2.1,a1.2.2.2.1,())
  let a3:=aO a2
  let a4:=(a3.2.1,a3.2.2.1,a3.2.2.2.1,())
  let a5:=bj a4 [73,78,84]
  let a6:=(a5.2.1,a5.2.2.1,a5.2.2.2.1,())
  let a7:=bj a6 [78,79,84]
  let a8:=bj a6 [84,69,88,84]
  let a9:=(a8.2.1,a8.2.2.1,a8.2.2.2.1,())
  let a10:=bj a9 [78,79,84]
  let a11:=bj a9 [66,79,79,76]
  let a12:=(a11.2.1,a11.2.2.1,a11.2.2.2.1,())
  let a13:=bj a12 [78,79,84]
  let a14:=(a11.2.1,a11.2.2.1,false,())
  let a15:=bj a14 [78,79,84]
  let a16:=zZ a2 [75,69,89]
  let a17:=(a16.1,a16.2.1,a16.2.2.1,())
  let a18:=zZ a17 [40]
  let a19:=(a18.1,a18.2.1,a18.2.2.1,())
  let a20:=aO a19
  let a21:=(a20.2.1,a20.2.2.1,a20.2.2.2.1,())
  let a22:=([],[],z1.2.2.2.2.2)
  let a23:=zZ a21 [41]
  let a24:=zZ a0 [75,69,89]
  let a25:=(a24.1,a24.2.1,a24.2.2.1,())
  let a26:=zZ a25 [40]
  let a27:=(a26.1,a26.2.1,a26.2.2.1,())
  let a28:=aO a27
  let a29:=(a28.2.1,a28.2.2.1,a28.2.2.2.1,())
  let a30:=zZ a29 [41]
  Tr.br z0.2.2.1
  (Tr.chk (ka a0 [75,69,89]) (Tr.br (!a1.1) (Tr.chk (ar a2) (Tr.chk (aS a4 [73,78,84]) (Tr.br a5.1 (Tr.chk (aS a6 [78,79,84]) (Tr.to (bB.h500013 a7.1 a7.2 z1 a3.1 1))) (Tr.chk (aS a6 [84,69,88,84]) (Tr.br a8.1 (Tr.chk (aS a9 [78,79,84]) (Tr.to (bB.h500013 a10.1 a10.2 z1 a3.1 2))) (Tr.chk (aS a9 [66,79,79,76])
  (Tr.br a11.1 (Tr.chk (aS a12 [78,79,84]) (Tr.to (bB.h500013 a13.1 a13.2 z1 a3.1 3))) (Tr.chk (aS a14 [78,79,84]) (Tr.to (bB.h500013 a15.1 a15.2 z1 a3.1 0)))))))))) (Tr.chk (zP a2 [75,69,89]) (Tr.chk (zP a17 [40]) (Tr.chk (ar a19) (Tr.chk (zP a21 [41]) (Tr.to (bB.h23 0 (z1.1,z1.2.1,z1.2.2.1,z1.2.2.2.1,a20.1,a22) a23.1 a23.2.1 a23.2.2.1))))))))
  (Tr.chk (zP a0 [75,69,89]) (Tr.chk (zP a25 [40]) (Tr.chk (ar a27) (Tr.chk (zP a29 [41]) (Tr.to (bB.h23 0 (z1.1,z1.2.1,z1.2.2.1,z1.2.2.2.1,a28.1,a22) a30.1 a30.2.1 a30.2.2.1))))))
 | .h500013 b47 z0 z1 jc0 jc1=>
  let a0:=(z0.1,z0.2.1,z0.2.2.1,())
  let a1:=[(jc0,jc1,true)]
  let a2:=zZ a0 [78,85,76,76]
  let a3:=(a2.1,a2.2.1,a2.2.2.1,())
  let a4:=[(jc0,jc1,false)]
  Tr.br b47
  (Tr.chk (zP a0 [78,85,76,76]) (Tr.chk (decide (z1.2.2.2.1.length+a1.length≤1073741824)) (Tr.chk (zP a3 [44]) (Tr.to (bB.h4 (zZ a3 [44]) (z1.1,z1.2.1,z1.2.2.1,z1.2.2.2.1++a1,z1.2.2.2.2))))))
  (Tr.chk (decide (z1.2.2.2.1.length+a4.length≤1073741824)) (Tr.chk (zP a0 [44]) (Tr.to (bB.h4 (zZ a0 [44]) (z1.1,z1.2.1,z1.2.2.1,z1.2.2.2.1++a4,z1.2.2.2.2)))))
 | .h23 i5 z1 ja0 ja1 bh_0_2=>
  let a0:=(ja0,ja1,bh_0_2,())
  let a1:=bj a0 [44]
  let a2:=(a1.2.1,a1.2.2.1,a1.2.2.2.1,())
  let a3:=bj a2 [85,78,73,81,85,69]
  let a4:=(z1.1,z1.2.1,z1.2.2.1,z1.2.2.2.1,z1.2.2.2.2.1,z1.2.2.2.2.2.1,z1.2.2.2.2.2.2.1,ze.mk z1.2.2.2.2.2.2.2.1 (z1.2.2.2.2.2.2.2.2.1,z1.2.2.2.2.2.2.2.2.2.1,z1.2.2.2.2.2.2.2.2.2.2.1) z1.2.2.2.2.2.2.2.2.2.2.2.1 [],z1.2.2.2.2.2.2.2.2.2.2.2.2)
  Tr.br bh_0_2
  (Tr.chk (aS a0 [44]) (Tr.br a1.1 (Tr.br (i5==0) (Tr.chk (aS a2 [85,78,73,81,85,69]) (Tr.to (bB.h500025 i5 a3.1 a3.2 z1))) (Tr.to (bB.h500025b i5 a1.2 z1))) (Tr.chk (zP a2 [41]) (Tr.re (AV.tup []) (aX zK gp (zZ a2 [41]) a4)))))
  (Tr.chk (zP a0 [41]) (Tr.re (AV.tup []) (aX zK gp (zZ a0 [41]) a4)))
 | .h500025 i5 b85 z0 z1=>
  let a0:=(z0.1,z0.2.1,z0.2.2.1,())
  let a1:=zZ a0 [40]
  let a2:=(a1.1,a1.2.1,a1.2.2.1,())
  let a3:=aO a2
  let a4:=[a3.1]
  let a5:=(a3.2.1,a3.2.2.1,a3.2.2.2.1,())
  let a6:=zZ a5 [41]
  let a7:=bj a0 [82,69,70,69,82,69,78,67,69,83]
  Tr.br b85
  (Tr.chk (zP a0 [40]) (Tr.chk (ar a2) (Tr.chk (decide (z1.2.2.2.2.2.1.length+a4.length≤1073741824)) (Tr.chk (zP a5 [41]) (Tr.to (bB.h23 i5 (z1.1,z1.2.1,z1.2.2.1,z1.2.2.2.1,z1.2.2.2.2.1,z1.2.2.2.2.2.1++a4,z1.2.2.2.2.2.2) a6.1 a6.2.1 a6.2.2.1))))))
  (Tr.br (decide (i5≤1)) (Tr.chk (aS a0 [82,69,70,69,82,69,78,67,69,83]) (Tr.to (bB.h500029 i5 a7.1 a7.2 z1))) (Tr.to (bB.h500029b i5 z0 z1)))
 | .h500025b i5 z0 z1=>
  let a0:=(z0.1,z0.2.1,z0.2.2.1,())
  let a1:=bj a0 [82,69,70,69,82,69,78,67,69,83]
  Tr.br (decide (i5≤1)) (Tr.chk (aS a0 [82,69,70,69,82,69,78,67,69,83]) (Tr.to (bB.h500029 i5 a1.1 a1.2 z1)))
  (Tr.to (bB.h500029b i5 z0 z1))
 | .h500029 i5 b107 z0 z1=>
  let a0:=(z0.1,z0.2.1,z0.2.2.1,())
  let a1:=zZ a0 [40]
  let a2:=(a1.1,a1.2.1,a1.2.2.1,())
  let a3:=aO a2
  let a4:=(a3.2.1,a3.2.2.1,a3.2.2.2.1,())
  let a5:=zZ a4 [41]
  let a6:=(a5.1,a5.2.1,a5.2.2.1,())
  let a7:=aO a6
  let a8:=[(a3.1,a7.1)]
  let a9:=mW a0 [67,72,69,67,75]
  Tr.br b107
  (Tr.chk (zP a0 [40]) (Tr.chk (ar a2) (Tr.chk (zP a4 [41]) (Tr.chk (ar a6) (Tr.chk (decide (z1.2.2.2.2.2.2.1.length+a8.length≤1073741824)) (Tr.to (bB.h23 1 (z1.1,z1.2.1,z1.2.2.1,z1.2.2.2.1,z1.2.2.2.2.1,z1.2.2.2.2.2.1,z1.2.2.2.2.2.2.1++a8,z1.2.2.2.2.2.2.2) a7.2.1 a7.2.2.1 a7.2.2.2.1)))))))
  (Tr.br (decide (i5≤2)) (Tr.chk (ka a0 [67,72,69,67,75]) (Tr.to (bB.h500035 i5 a9.1 a9.2 z1))) (Tr.to (bB.h500035b i5 z0 z1)))
 | .h500029b i5 z0 z1=>
  let a0:=(z0.1,z0.2.1,z0.2.2.1,())
  let a1:=mW a0 [67,72,69,67,75]
  Tr.br (decide (i5≤2)) (Tr.chk (ka a0 [67,72,69,67,75]) (Tr.to (bB.h500035 i5 a1.1 a1.2 z1))) (Tr.to (bB.h500035b i5 z0 z1))
 | .h500035 i5 b133 z0 z1=>
  let a0:=(z0.1,z0.2.1,z0.2.2.1,())
  let a1:=dq a0 [67,72,69,67,75]
  Tr.br b133
  (Tr.chk (cA a0 [67,72,69,67,75]) (Tr.to (bB.h23b 3 (z1.1,z1.2.1,z1.2.2.1,z1.2.2.2.1,z1.2.2.2.2.1,z1.2.2.2.2.2.1,z1.2.2.2.2.2.2.1,a1.1,z1.2.2.2.2.2.2.2.2.2.2.2.2) a1.2.1 a1.2.2.1 a1.2.2.2.1)))
  (Tr.to (bB.h23bb i5 z1 z0.1 z0.2.1))
 | .h500035b i5 z0 z1=>
  Tr.to (bB.h23bb i5 z1 z0.1 z0.2.1)
 | .h23b i5 z1 ja0 ja1 bh_0_2=>
  let a0:=(ja0,ja1,bh_0_2,())
  let a1:=bj a0 [44]
  let a2:=(a1.2.1,a1.2.2.1,a1.2.2.2.1,())
  let a3:=bj a2 [85,78,73,81,85,69]
  Tr.br bh_0_2
  (Tr.chk (aS a0 [44]) (Tr.br a1.1 (Tr.br (i5==0) (Tr.chk (aS a2 [85,78,73,81,85,69]) (Tr.to (bB.h500025bb i5 a3.1 a3.2 z1))) (Tr.to (bB.h500025bbb i5 a1.2 z1))) (Tr.chk (zP a2 [41]) (Tr.re (AV.tup []) (aX zK gp (zZ a2 [41]) z1)))))
  (Tr.chk (zP a0 [41]) (Tr.re (AV.tup []) (aX zK gp (zZ a0 [41]) z1)))
 | .h23bb _ z1 ja0 ja1=>
  let a0:=(ja0,ja1,false,())
  Tr.chk (zP a0 [41])
  (Tr.re (AV.tup []) (aX zK gp (zZ a0 [41]) (z1.1,z1.2.1,z1.2.2.1,z1.2.2.2.1,z1.2.2.2.2.1,z1.2.2.2.2.2.1,z1.2.2.2.2.2.2.1,ze.mk z1.2.2.2.2.2.2.2.1 (z1.2.2.2.2.2.2.2.2.1,z1.2.2.2.2.2.2.2.2.2.1,z1.2.2.2.2.2.2.2.2.2.2.1) z1.2.2.2.2.2.2.2.2.2.2.2.1 [],z1.2.2.2.2.2.2.2.2.2.2.2.2)))
 | .h500025bb i5 b85 z0 z1=>
  let a0:=(z0.1,z0.2.1,z0.2.2.1,())
  let a1:=zZ a0 [40]
  let a2:=(a1.1,a1.2.1,a1.2.2.1,())
  let a3:=aO a2
  let a4:=[a3.1]
  let a5:=(a3.2.1,a3.2.2.1,a3.2.2.2.1,())
  let a6:=zZ a5 [41]
  let a7:=bj a0 [82,69,70,69,82,69,78,67,69,83]
  Tr.br b85
  (Tr.chk (zP a0 [40]) (Tr.chk (ar a2) (Tr.chk (decide (z1.2.2.2.2.2.1.length+a4.length≤1073741824)) (Tr.chk (zP a5 [41]) (Tr.to (bB.h23b i5 (z1.1,z1.2.1,z1.2.2.1,z1.2.2.2.1,z1.2.2.2.2.1,z1.2.2.2.2.2.1++a4,z1.2.2.2.2.2.2) a6.1 a6.2.1 a6.2.2.1))))))
  (Tr.br (decide (i5≤1)) (Tr.chk (aS a0 [82,69,70,69,82,69,78,67,69,83]) (Tr.to (bB.h500029bb i5 a7.1 a7.2 z1))) (Tr.to (bB.h500029bbb i5 z0 z1)))
 | .h500025bbb i5 z0 z1=>
  let a0:=(z0.1,z0.2.1,z0.2.2.1,())
  let a1:=bj a0 [82,69,70,69,82,69,78,67,69,83]
  Tr.br (decide (i5≤1)) (Tr.chk (aS a0 [82,69,70,69,82,69,78,67,69,83]) (Tr.to (bB.h500029bb i5 a1.1 a1.2 z1)))
  (Tr.to (bB.h500029bbb i5 z0 z1))
 | .h500029bb i5 b107 z0 z1=>
  let a0:=(z0.1,z0.2.1,z0.2.2.1,())
  let a1:=zZ a0 [40]
  let a2:=(a1.1,a1.2.1,a1.2.2.1,())
  let a3:=aO a2
  let a4:=(a3.2.1,a3.2.2.1,a3.2.2.2.1,())
  let a5:=zZ a4 [41]
  let a6:=(a5.1,a5.2.1,a5.2.2.1,())
  let a7:=aO a6
  let a8:=[(a3.1,a7.1)]
  let a9:=mW a0 [67,72,69,67,75]
  Tr.br b107
  (Tr.chk (zP a0 [40]) (Tr.chk (ar a2) (Tr.chk (zP a4 [41]) (Tr.chk (ar a6) (Tr.chk (decide (z1.2.2.2.2.2.2.1.length+a8.length≤1073741824)) (Tr.to (bB.h23b 1 (z1.1,z1.2.1,z1.2.2.1,z1.2.2.2.1,z1.2.2.2.2.1,z1.2.2.2.2.2.1,z1.2.2.2.2.2.2.1++a8,z1.2.2.2.2.2.2.2) a7.2.1 a7.2.2.1 a7.2.2.2.1)))))))
  (Tr.br (decide (i5≤2)) (Tr.chk (ka a0 [67,72,69,67,75]) (Tr.to (bB.h500035bb i5 a9.1 a9.2 z1))) (Tr.to (bB.h500035bbb i5 z0 z1)))
 | .h500029bbb i5 z0 z1=>
  let a0:=(z0.1,z0.2.1,z0.2.2.1,())
  let a1:=mW a0 [67,72,69,67,75]
  Tr.br (decide (i5≤2)) (Tr.chk (ka a0 [67,72,69,67,75]) (Tr.to (bB.h500035bb i5 a1.1 a1.2 z1))) (Tr.to (bB.h500035bbb i5 z0 z1))
 | .h500035bb i5 b133 z0 z1=>
  let a0:=(z0.1,z0.2.1,z0.2.2.1,())
  let a1:=dq a0 [67,72,69,67,75]
  Tr.br b133
  (Tr.chk (cA a0 [67,72,69,67,75]) (Tr.to (bB.h23b 3 (z1.1,z1.2.1,z1.2.2.1,z1.2.2.2.1,z1.2.2.2.2.1,z1.2.2.2.2.2.1,z1.2.2.2.2.2.2.1,a1.1,z1.2.2.2.2.2.2.2.2) a1.2.1 a1.2.2.1 a1.2.2.2.1)))
  (Tr.to (bB.h23bbb i5 z1 z0.1 z0.2.1))
 | .h500035bbb i5 z0 z1=>
  Tr.to (bB.h23bbb i5 z1 z0.1 z0.2.1)
 | .h23bbb _ z1 ja0 ja1=>
  let a0:=(ja0,ja1,false,())
  Tr.chk (zP a0 [41]) (Tr.re (AV.tup []) (aX zK gp (zZ a0 [41]) z1))
theorem Xo:∀ s,run Da 2 Fp (Func.results Tryz.f107).toList 400 (zy Tryz.f107 (CG s).1) (CG s).2=(NU s).map (lf Tryz.f107 CG):=by intro s; cases s <;> kernel_rfl
def Ah (y:zu zK) (z:zu eK):Option (zw (List.map some [])×zu zK×zu gp):=DC [] zK gp NU 100000000 (Ls y z)
def Ag (y:zu zK) (z:zu eK):Bool:=(Ah y z).isSome
def DP (y:zu zK) (z:zu eK):zu zK×zu gp:=(fun r:zw (List.map some [])×zu zK×zu gp=>r.2) ((Ah y z).getD (ck [],fR zK,fR gp))
def QU:zF:=GJ zK eK [] [] zK gp (fun y z _=>Ag y z) fun y z _=>((),DP y z)
theorem Oj:FK 107 QU:=J1 (ps:=zK) (qs:=eK) (ks:=[]) (outs:=[]) (keep:=Fp) (gas:=400) (n:=100000000) (e:=CG) (t:=NU) (i:=fun y z x=>Ls y z) yU W4 (fun y z x=>VK y z) Xo (fun _ _ _=>by kernel_rfl) (fun _ _ _=>by kernel_rfl)

def Ss:=Da.add 107 QU
theorem IN:zl Ss:=yU.add Oj
end
noncomputable section
abbrev ko:List CP:=[.d .str,.d .str,.d .str,.vec .str,.nil,.d .str,.nil,.nil,.d .expr,.nil,.nil,.d .str,.d zg,.d zg,.d .str,.d .str,.nil,.d .str]
abbrev PE:List CP:=[.d .str,.d .str,.d .str,.vec .str,.nil,.d .str,.nil,.nil,.d .str,.d zg,.d zg,.d .str,.d .str,.nil,.nil,.nil,.d .str,.d zg,.d zg,.d .str,.d .str,.nil,.d .str]

abbrev Fq:Nat→ah:=fun j=>if j=14 then { slots:=[0,1,4],prom:=[(1,some 3,.str)] } else if j=1000000 then { prom:=[(1,some 3,.str)] } else { }
inductive n9 where
 | h14 (z0:zu zK) (z1:zu PE)
 | h14b (b4:Sem Sh.bool) (z0:zu zK) (z1:zu PE)
abbrev CH:n9→Nat×St
 | .h14 z0 z1=>(14,⟨tm 117 [(0,AV.ptr 0 0),(1,AV.ptr 1 0),(4,AV.kb true)],[AO.box (bJ [] zK z0),AO.box (bJ [2] PE z1),AO.vec Sh.str z1.2.2.2.1]⟩)
 | .h14b b4 z0 z1=>(14,⟨tm 117 [(0,AV.ptr 0 0),(1,AV.ptr 1 0),(4,AV.bool b4)],[AO.box (bJ [] zK z0),AO.box (bJ [2] PE z1),AO.vec Sh.str z1.2.2.2.1]⟩)
theorem W9:zA C0.P 115 Tryz.f115 2:=aQ (by kernel_rfl)
def Ly (y:zu zK) (z:zu eK):Tr (n9 ⊕ aj):=
 let a0:=(y.1,y.2.1,y.2.2.1,())
 let a1:=bj a0 [67,79,80,89]
 let a2:=(a1.2.1,a1.2.2.1,a1.2.2.2.1,())
 let a3:=aO a2
 let a4:=(a3.2.1,a3.2.2.1,a3.2.2.2.1,())
 let a5:=zZ a4 [70,82,79,77]
 let a6:=(a5.1,a5.2.1,a5.2.2.1,())
 let a7:=aO a6
 let a8:=(a7.2.1,a7.2.2.1,a7.2.2.2.1,())
 let a9:=([],z.2.2.2)
 let a10:=zZ a8 [44]
 let a11:=(a10.1,a10.2.1,a10.2.2.1,())
 let a12:=aO a11
 let a13:=(a12.2.1,a12.2.2.1,a12.2.2.2.1,())
 let a14:=zZ a13 [79,78]
 let a15:=(a14.1,a14.2.1,a14.2.2.1,())
 let a16:=aO a15
 let a17:=(a16.2.1,a16.2.2.1,a16.2.2.2.1,())
 let a18:=dq a17 [67,72,69,67,75]
 let a19:=zZ a8 [66,89]
 let a20:=(a19.1,a19.2.1,a19.2.2.1,())
 let a21:=aO a20
 let a22:=[a21.1]
 let a23:=(a21.2.1,a21.2.2.1,a21.2.2.2.1,())
 let a24:=zZ a23 [83,85,77]
 let a25:=(a24.1,a24.2.1,a24.2.2.1,())
 let a26:=aO a25
 let a27:=[a26.1]
 let a28:=(a26.2.1,a26.2.2.1,a26.2.2.2.1,())
 let a29:=dq a28 [67,72,69,67,75]
 let a30:=dq a8 [67,72,69,67,75]
 let a31:=bj a2 [74,79,73,78]
 let a32:=(a31.2.1,a31.2.2.1,a31.2.2.2.1,())
 let a33:=aO a32
 let a34:=(a33.2.1,a33.2.2.1,a33.2.2.2.1,())
 let a35:=zZ a34 [70,82,79,77]
 let a36:=(a35.1,a35.2.1,a35.2.2.1,())
 let a37:=aO a36
 let a38:=(a37.2.1,a37.2.2.1,a37.2.2.2.1,())
 let a39:=zZ a38 [44]
 let a40:=(a39.1,a39.2.1,a39.2.2.1,())
 let a41:=aO a40
 let a42:=(a41.2.1,a41.2.2.1,a41.2.2.2.1,())
 let a43:=zZ a42 [79,78]
 let a44:=(a43.1,a43.2.1,a43.2.2.1,())
 let a45:=aO a44
 let a46:=(a45.2.1,a45.2.2.1,a45.2.2.2.1,())
 let a47:=dq a46 [67,72,69,67,75]
 let a48:=zZ a38 [66,89]
 let a49:=(a48.1,a48.2.1,a48.2.2.1,())
 let a50:=aO a49
 let a51:=[a50.1]
 let a52:=(a50.2.1,a50.2.2.1,a50.2.2.2.1,())
 let a53:=zZ a52 [83,85,77]
 let a54:=(a53.1,a53.2.1,a53.2.2.1,())
 let a55:=aO a54
 let a56:=[a55.1]
 let a57:=(a55.2.1,a55.2.2.1,a55.2.2.2.1,())
 let a58:=dq a57 [67,72,69,67,75]
 let a59:=dq a38 [67,72,69,67,75]
 let a60:=bj a32 [71,82,79,85,80]
 let a61:=(a60.2.1,a60.2.2.1,a60.2.2.2.1,())
 let a62:=aO a61
 let a63:=(a62.2.1,a62.2.2.1,a62.2.2.2.1,())
 let a64:=zZ a63 [70,82,79,77]
 let a65:=(a64.1,a64.2.1,a64.2.2.1,())
 let a66:=aO a65
 let a67:=(a66.2.1,a66.2.2.1,a66.2.2.2.1,())
 let a68:=zZ a67 [44]
 let a69:=(a68.1,a68.2.1,a68.2.2.1,())
 let a70:=aO a69
 let a71:=(a70.2.1,a70.2.2.1,a70.2.2.2.1,())
 let a72:=zZ a71 [79,78]
 let a73:=(a72.1,a72.2.1,a72.2.2.1,())
 let a74:=aO a73
 let a75:=(a74.2.1,a74.2.2.1,a74.2.2.2.1,())
 let a76:=dq a75 [67,72,69,67,75]
 let a77:=zZ a67 [66,89]
 let a78:=(a77.1,a77.2.1,a77.2.2.1,())
 let a79:=aO a78
 let a80:=[a79.1]
 let a81:=(a79.2.1,a79.2.2.1,a79.2.2.2.1,())
 let a82:=zZ a81 [83,85,77]
 let a83:=(a82.1,a82.2.1,a82.2.2.1,())
 let a84:=aO a83
 let a85:=[a84.1]
 let a86:=(a84.2.1,a84.2.2.1,a84.2.2.2.1,())
 let a87:=dq a86 [67,72,69,67,75]
 let a88:=dq a67 [67,72,69,67,75]
 let a89:=(a60.2.1,a60.2.2.1,false,())
 let a90:=aO a89
 let a91:=(a90.2.1,a90.2.2.1,a90.2.2.2.1,())
 let a92:=zZ a91 [70,82,79,77]
 let a93:=(a92.1,a92.2.1,a92.2.2.1,())
 let a94:=aO a93
 let a95:=(a94.2.1,a94.2.2.1,a94.2.2.2.1,())
 let a96:=zZ a95 [44]
 let a97:=(a96.1,a96.2.1,a96.2.2.1,())
 let a98:=aO a97
 let a99:=(a98.2.1,a98.2.2.1,a98.2.2.2.1,())
 let a100:=zZ a99 [79,78]
 let a101:=(a100.1,a100.2.1,a100.2.2.1,())
 let a102:=aO a101
 let a103:=(a102.2.1,a102.2.2.1,a102.2.2.2.1,())
 let a104:=dq a103 [67,72,69,67,75]
 let a105:=zZ a95 [66,89]
 let a106:=(a105.1,a105.2.1,a105.2.2.1,())
 let a107:=aO a106
 let a108:=[a107.1]
 let a109:=(a107.2.1,a107.2.2.1,a107.2.2.2.1,())
 let a110:=zZ a109 [83,85,77]
 let a111:=(a110.1,a110.2.1,a110.2.2.1,())
 let a112:=aO a111
 let a113:=[a112.1]
 let a114:=(a112.2.1,a112.2.2.1,a112.2.2.2.1,())
 let a115:=dq a114 [67,72,69,67,75]
 let a116:=dq a95 [67,72,69,67,75]
 Tr.chk (aS a0 [67,79,80,89])
 (Tr.br a1.1
  (Tr.chk (ar a2) (Tr.chk (zP a4 [70,82,79,77]) (Tr.chk (ar a6) (Tr.br true (Tr.chk (zP a8 [40]) (Tr.to (n9.h14 (zZ a8 [40]) ([99,111,112,121],a3.1,a7.1,a9)))) (Tr.br false (Tr.chk (zP a8 [44]) (Tr.chk (ar a11) (Tr.chk (zP a13 [79,78]) (Tr.chk (ar a15) (Tr.chk (cA a17 [67,72,69,67,75]) (Tr.re (AV.tup []) (aX zK ko a18.2
  ([99,111,112,121],a3.1,a7.1,[],a16.1,a18.1,z.2.2.2.2.2.2.2.2.2.1,z.2.2.2.2.2.2.2.2.2.2.1,z.2.2.2.2.2.2.2.2.2.2.2.1,z.2.2.2.2.2.2.2.2.2.2.2.2.1,z.2.2.2.2.2.2.2.2.2.2.2.2.2.1,a12.1,())))))))) (Tr.br false (Tr.chk (zP a8 [66,89]) (Tr.chk (ar a20) (Tr.chk (decide (a22.length≤1073741824)) (Tr.chk (zP a23 [83,85,77]) (Tr.chk (ar a25)
  (Tr.chk (decide (a22.length+a27.length≤1073741824)) (Tr.chk (cA a28 [67,72,69,67,75]) (Tr.re (AV.tup []) (aX zK ko a29.2 ([99,111,112,121],a3.1,a7.1,a22++a27,z.2.2.2.1,a29.1,z.2.2.2.2.2.2.2.2.2)))))))))) (Tr.chk (cA a8 [67,72,69,67,75]) (Tr.re (AV.tup []) (aX zK ko a30.2
  ([99,111,112,121],a3.1,a7.1,[],z.2.2.2.1,a30.1,z.2.2.2.2.2.2.2.2.2))))))))))
  (Tr.chk (aS a2 [74,79,73,78]) (Tr.br a31.1 (Tr.chk (ar a32) (Tr.chk (zP a34 [70,82,79,77]) (Tr.chk (ar a36) (Tr.br false (Tr.chk (zP a38 [40]) (Tr.to (n9.h14 (zZ a38 [40]) ([106,111,105,110],a33.1,a37.1,a9)))) (Tr.br true (Tr.chk (zP a38 [44]) (Tr.chk (ar a40) (Tr.chk (zP a42 [79,78]) (Tr.chk (ar a44)
  (Tr.chk (cA a46 [67,72,69,67,75]) (Tr.re (AV.tup []) (aX zK ko a47.2 ([106,111,105,110],a33.1,a37.1,[],a45.1,a47.1,z.2.2.2.2.2.2.2.2.2.1,z.2.2.2.2.2.2.2.2.2.2.1,z.2.2.2.2.2.2.2.2.2.2.2.1,z.2.2.2.2.2.2.2.2.2.2.2.2.1,z.2.2.2.2.2.2.2.2.2.2.2.2.2.1,a41.1,())))))))) (Tr.br false (Tr.chk (zP a38 [66,89]) (Tr.chk (ar a49)
  (Tr.chk (decide (a51.length≤1073741824)) (Tr.chk (zP a52 [83,85,77]) (Tr.chk (ar a54) (Tr.chk (decide (a51.length+a56.length≤1073741824)) (Tr.chk (cA a57 [67,72,69,67,75]) (Tr.re (AV.tup []) (aX zK ko a58.2 ([106,111,105,110],a33.1,a37.1,a51++a56,z.2.2.2.1,a58.1,z.2.2.2.2.2.2.2.2.2)))))))))) (Tr.chk (cA a38 [67,72,69,67,75])
  (Tr.re (AV.tup []) (aX zK ko a59.2 ([106,111,105,110],a33.1,a37.1,[],z.2.2.2.1,a59.1,z.2.2.2.2.2.2.2.2.2)))))))))) (Tr.chk (aS a32 [71,82,79,85,80]) (Tr.br a60.1 (Tr.chk (ar a61) (Tr.chk (zP a63 [70,82,79,77]) (Tr.chk (ar a65) (Tr.br false (Tr.chk (zP a67 [40]) (Tr.to (n9.h14 (zZ a67 [40]) ([103,114,111,117,112],a62.1,a66.1,a9))))
  (Tr.br false (Tr.chk (zP a67 [44]) (Tr.chk (ar a69) (Tr.chk (zP a71 [79,78]) (Tr.chk (ar a73) (Tr.chk (cA a75 [67,72,69,67,75]) (Tr.re (AV.tup []) (aX zK ko a76.2 ([103,114,111,117,112],a62.1,a66.1,[],a74.1,a76.1,z.2.2.2.2.2.2.2.2.2.1,z.2.2.2.2.2.2.2.2.2.2.1,z.2.2.2.2.2.2.2.2.2.2.2.1,
  z.2.2.2.2.2.2.2.2.2.2.2.2.1,z.2.2.2.2.2.2.2.2.2.2.2.2.2.1,a70.1,())))))))) (Tr.br true (Tr.chk (zP a67 [66,89]) (Tr.chk (ar a78) (Tr.chk (decide (a80.length≤1073741824)) (Tr.chk (zP a81 [83,85,77]) (Tr.chk (ar a83) (Tr.chk (decide (a80.length+a85.length≤1073741824)) (Tr.chk (cA a86 [67,72,69,67,75]) (Tr.re (AV.tup []) (aX zK ko a87.2
  ([103,114,111,117,112],a62.1,a66.1,a80++a85,z.2.2.2.1,a87.1,z.2.2.2.2.2.2.2.2.2)))))))))) (Tr.chk (cA a67 [67,72,69,67,75]) (Tr.re (AV.tup []) (aX zK ko a88.2 ([103,114,111,117,112],a62.1,a66.1,[],z.2.2.2.1,a88.1,z.2.2.2.2.2.2.2.2.2)))))))))) (Tr.chk (ar a89) (Tr.chk (zP a91 [70,82,79,77]) (Tr.chk (ar a93)
  (Tr.br (z.1==[99,111,112,121]) (Tr.chk (zP a95 [40]) (Tr.to (n9.h14 (zZ a95 [40]) (z.1,a90.1,a94.1,a9)))) (Tr.br (z.1==[106,111,105,110]) (Tr.chk (zP a95 [44]) (Tr.chk (ar a97) (Tr.chk (zP a99 [79,78]) (Tr.chk (ar a101) (Tr.chk (cA a103 [67,72,69,67,75]) (Tr.re (AV.tup []) (aX zK ko a104.2
  (z.1,a90.1,a94.1,[],a102.1,a104.1,z.2.2.2.2.2.2.2.2.2.1,z.2.2.2.2.2.2.2.2.2.2.1,z.2.2.2.2.2.2.2.2.2.2.2.1,z.2.2.2.2.2.2.2.2.2.2.2.2.1,z.2.2.2.2.2.2.2.2.2.2.2.2.2.1,a98.1,())))))))) (Tr.br (z.1==[103,114,111,117,112]) (Tr.chk (zP a95 [66,89]) (Tr.chk (ar a106) (Tr.chk (decide (a108.length≤1073741824)) (Tr.chk (zP a109 [83,85,77]) (Tr.chk (ar a111)
  (Tr.chk (decide (a108.length+a113.length≤1073741824)) (Tr.chk (cA a114 [67,72,69,67,75]) (Tr.re (AV.tup []) (aX zK ko a115.2 (z.1,a90.1,a94.1,a108++a113,z.2.2.2.1,a115.1,z.2.2.2.2.2.2.2.2.2)))))))))) (Tr.chk (cA a95 [67,72,69,67,75]) (Tr.re (AV.tup []) (aX zK ko a116.2 (z.1,a90.1,a94.1,[],z.2.2.2.1,a116.1,z.2.2.2.2.2.2.2.2.2)))))))))))))))
theorem VP (y:zu zK) (z:zu eK):rn C0 2 Fq Tryz.f115 [AV.ptr 0 0,AV.ptr 1 0] (aX zK eK y z)=(Ly y z).map (lf Tryz.f115 CH):=by kernel_rfl
def NV:n9→Tr (n9 ⊕ aj)
 | .h14 z0 z1=>
  let a0:=(z0.1,z0.2.1,z0.2.2.1,())
  let a1:=aO a0
  let a2:=[a1.1]
  let a3:=(a1.2.1,a1.2.2.1,a1.2.2.2.1,())
  let a4:=bj a3 [44]
  let a5:=zZ a0 [41]
  let a6:=(a5.1,a5.2.1,a5.2.2.1,())
  let a7:=dq a6 [67,72,69,67,75]
  Tr.br z0.2.2.1
  (Tr.chk (ar a0)
   (Tr.chk (decide (z1.2.2.2.1.length+a2.length≤1073741824)) (Tr.chk (aS a3 [44]) (Tr.to (n9.h14b a4.1 a4.2 (z1.1,z1.2.1,z1.2.2.1,z1.2.2.2.1++a2,z1.2.2.2.2))))))
  (Tr.chk (zP a0 [41])
   (Tr.chk (cA a6 [67,72,69,67,75]) (Tr.re (AV.tup []) (aX zK ko a7.2 (z1.1,z1.2.1,z1.2.2.1,z1.2.2.2.1,z1.2.2.2.2.1,a7.1,z1.2.2.2.2.2.2.2.2.2.2)))))
 | .h14b b4 z0 z1=>
  let a0:=(z0.1,z0.2.1,z0.2.2.1,())
  let a1:=aO a0
  let a2:=[a1.1]
  let a3:=(a1.2.1,a1.2.2.1,a1.2.2.2.1,())
  let a4:=bj a3 [44]
  let a5:=zZ a0 [41]
  let a6:=(a5.1,a5.2.1,a5.2.2.1,())
  let a7:=dq a6 [67,72,69,67,75]
  Tr.br (bif b4 then z0.2.2.1 else false)
  (Tr.chk (ar a0)
   (Tr.chk (decide (z1.2.2.2.1.length+a2.length≤1073741824)) (Tr.chk (aS a3 [44]) (Tr.to (n9.h14b a4.1 a4.2 (z1.1,z1.2.1,z1.2.2.1,z1.2.2.2.1++a2,z1.2.2.2.2))))))
  (Tr.chk (zP a0 [41])
   (Tr.chk (cA a6 [67,72,69,67,75]) (Tr.re (AV.tup []) (aX zK ko a7.2 (z1.1,z1.2.1,z1.2.2.1,z1.2.2.2.1,z1.2.2.2.2.1,a7.1,z1.2.2.2.2.2.2.2.2.2.2)))))
theorem Xp:∀ s,run C0 2 Fq (Func.results Tryz.f115).toList 400 (zy Tryz.f115 (CH s).1) (CH s).2=(NV s).map (lf Tryz.f115 CH)
 | .h14 z0 z1=>by kernel_rfl
 | .h14b b4 z0 z1=>by kernel_rfl
def Nx (y:zu zK) (z:zu eK):Option (zw (List.map some [])×zu zK×zu ko):=DC [] zK ko NV 100000000 (Ly y z)
def Nw (y:zu zK) (z:zu eK):Bool:=(Nx y z).isSome
def Ta (y:zu zK) (z:zu eK):zu zK×zu ko:=(fun r:zw (List.map some [])×zu zK×zu ko=>r.2) ((Nx y z).getD (ck [],fR zK,fR ko))
def QZ:zF:=GJ zK eK [] [] zK ko (fun y z _=>Nw y z) fun y z _=>((),Ta y z)
theorem Oo:FK 115 QZ:=J1 (ps:=zK) (qs:=eK) (ks:=[]) (outs:=[]) (keep:=Fq) (gas:=400) (n:=100000000) (e:=CH) (t:=NV) (i:=fun y z x=>Ly y z) nr W9 (fun y z x=>VP y z) Xp (fun _ _ _=>by kernel_rfl) (fun _ _ _=>by kernel_rfl)

end
end Cad
