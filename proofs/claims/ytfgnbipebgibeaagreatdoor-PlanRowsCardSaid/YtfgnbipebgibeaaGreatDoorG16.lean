/- The document's parser. Statements of texts. The chapter's examples. The document's values; names' places; expressions, counted, held against one another. The document's values that are known; expressions' forms and types; the same tables. The document's order, logic; expressions that may be; the same plans. The document's comparisons and sums; checks. A text of plain signs. The document's values are the program's. The document's comparisons and sums are the program's. -/
import Derived.Test.YtfgnbipebgibeaaGreatDoorG15
import Derived.Shelf.GgClosure.StringsIndexFunc
import Derived.Lib.DecodeN
import Derived.Test.YtfgnbipebgibeaaGreatDoorG06
import Derived.Test.YtfgnbipebgibeaaGreatDoorG14
namespace Cad
open Go Go.Proofs
noncomputable section
set_option maxHeartbeats 4000000

abbrev zGo:Nat→zQ:=fun j=>if j=17 then { slots:=[2,4,6,7,8] } else if j=25 then { slots:=[2,4,6,7,9] } else { }
inductive zp7 where
 | h17 (l4:LF) (z0:zj zce) (z1:zj zL) (z2:zj zce)
 | h25 (l4:LF) (z0:zj zce) (z1:zj zL) (z2:zj zce)
abbrev zFC:zp7→Nat×St
 | .h17 l4 z0 z1 z2=>(17,⟨tm 172 [(2,AV.ptr 0 0),(4,AV.sl zt l4),(6,AV.ptr 1 0),(7,AV.ptr 2 0),(8,AV.kb true)],[AO.box (cpN [] zce z0),AO.box (cpN [] zL z1),AO.box (cpN [] zce z2)]⟩)
 | .h25 l4 z0 z1 z2=>(25,⟨tm 172 [(2,AV.ptr 0 0),(4,AV.sl zt l4),(6,AV.ptr 1 0),(7,AV.ptr 2 0),(9,AV.kb true)],[AO.box (cpN [] zce z0),AO.box (cpN [] zL z1),AO.box (cpN [] zce z2)]⟩)
theorem zST:zF zl8.P 65 Tryz.f65 1:=by refine ⟨?_,?_,?_,?_⟩ <;> kernel_rfl
def zTH (x0:TS) (a0:Sem zt.sl×zj [CP.d zg,CP.d Sh.bool]) (a1:Sem Sh.bool×zj zL) (a2:Sem zt.sl×zj [CP.d zg,CP.d Sh.bool]) (a3:Sem Sh.bool×zj zL) (a4:Sem zt.sl×zj [CP.d zg,CP.d Sh.bool]) (_:zj zL) (a6:Sem zt.sl×zj [CP.d zg,CP.d Sh.bool]) (a7:Sem Sh.str×zj zL) (a8:Int) (a9:Sem Sh.str×Sem (Sh.str.pr (Sh.str.pr (Sh.str.sl.pr (zh.sl.pr (Sh.str.pr (Sh.str.sl.pr (zaT.sl.pr (Sh.expr.pr (zf.sl.pr (zan.sl.pr (Sh.expr.pr Sh.str)))))))))))) (a10:Sem Sh.str×Sem Sh.bool) (a11:Sem Sh.bool×zj zL) (a12:Sem zt.sl×zj [CP.d zg,CP.d Sh.bool]) (_:zj zL) (a14:Sem zt.sl×zj [CP.d zg,CP.d Sh.bool]) (a15:Sem Sh.str×zj zL) (a16:Sem zt.sl×zj [CP.d zg,CP.d Sh.bool]) (_:zj zL) (a18:Sem zt.sl×zj [CP.d zg,CP.d Sh.bool]) (a19:Sem Sh.bool×zj zL) (a20:Sem zt.sl×zj [CP.d zg,CP.d Sh.bool]) (a21:Sem Sh.str×zj zL) (a22:Sem zt.sl×zj [CP.d zg,CP.d Sh.bool]) (a23:Sem Sh.bool×zj zL) (a24:Sem zt.sl×zj [CP.d zg,CP.d Sh.bool]) (_:zj zL) (a26:Sem zt.sl×zj [CP.d zg,CP.d Sh.bool]) (a27:Sem Sh.str×zj zL) (a28:Sem zt.sl×zj [CP.d zg,CP.d Sh.bool]) (a29:Sem Sh.expr×zj zL) (a30:Sem Sh.str×Sem (Sh.str.pr (Sh.str.pr (Sh.str.sl.pr (zh.sl.pr (Sh.str.pr (Sh.str.sl.pr (zaT.sl.pr (Sh.expr.pr (zf.sl.pr (zan.sl.pr (Sh.expr.pr Sh.str)))))))))))) (a31:Sem Sh.str×Sem Sh.bool) (a32:Sem Sh.bool×zj zL) (a33:Sem zt.sl×zj [CP.d zg,CP.d Sh.bool]) (_:zj zL) (a35:Sem zt.sl×zj [CP.d zg,CP.d Sh.bool]) (_:zj zL) (a37:Sem zt.sl×zj [CP.d zg,CP.d Sh.bool]) (a38:Sem Sh.str×zj zL) (a39:Sem zt.sl×zj [CP.d zg,CP.d Sh.bool]) (a40:Sem Sh.expr×zj zL) (a41:Sem Sh.str×Sem (Sh.str.pr (Sh.str.pr (Sh.str.sl.pr (zh.sl.pr (Sh.str.pr (Sh.str.sl.pr (zaT.sl.pr (Sh.expr.pr (zf.sl.pr (zan.sl.pr (Sh.expr.pr Sh.str)))))))))))) (a42:Sem Sh.str×Sem Sh.bool) (a43:Sem Sh.bool×zj zL) (a44:Sem zt.sl×zj [CP.d zg,CP.d Sh.bool]) (a45:Sem Sh.bool×zj zL) (a46:Sem Sh.bool×zj zL) (a47:Sem zt.sl×zj [CP.d zg,CP.d Sh.bool]) (a48:Sem Sh.bool×zj zL) (a49:Sem Sh.bool×zj zL) (a50:Sem zt.sl×zj [CP.d zg,CP.d Sh.bool]) (a51:zj zL×zj zgU) (a52:Sem Sh.str×Sem (Sh.str.pr (Sh.str.pr (Sh.str.sl.pr (zh.sl.pr (Sh.str.pr (Sh.str.sl.pr (zaT.sl.pr (Sh.expr.pr (zf.sl.pr (zan.sl.pr (Sh.expr.pr Sh.str)))))))))))) (a53:Sem Sh.str×Sem Sh.bool):Tr (zp7 ⊕ Raw):=
 Tr.chk (zyv x0)
 (Tr.br (!(znD x0).2)
  (Tr.re (AV.tup [AV.agg [AV.str [],AV.str [],AV.str [],AV.nils,AV.nils,AV.str [],AV.nils,AV.nils,AV.str [],AV.int .i64 0,AV.int .i64 0,AV.str [],AV.str [],AV.nils,AV.nils,AV.nils,AV.str [],AV.int .i64 0,AV.int .i64 0,AV.str [],AV.str [],AV.nils,AV.str []],AV.kb false]) [])
  (Tr.chk (zb7 a0 [67,82,69,65,84,69]) (Tr.br a1.1 Tr.err (Tr.chk (zb7 a2 [68,82,79,80]) (Tr.br a3.1 (Tr.chk (zau a4 [84,65,66,76,69]) (Tr.chk (zaF a6) (Tr.br (bif !a7.2.2.2.1 then true else a7.2.2.1 != a8) (Tr.re (AV.tup [AV.agg [AV.str [],AV.str [],AV.str [],AV.nils,AV.nils,AV.str [],AV.nils,AV.nils,AV.str [],AV.int .i64 0,
  AV.int .i64 0,AV.str [],AV.str [],AV.nils,AV.nils,AV.nils,AV.str [],AV.int .i64 0,AV.int .i64 0,AV.str [],AV.str [],AV.nils,AV.str []],AV.kb false]) []) (Tr.chk (zh9 a9) (Tr.br (!a10.2) (Tr.re (AV.tup [AV.agg [AV.str [],AV.str [],AV.str [],AV.nils,AV.nils,AV.str [],AV.nils,AV.nils,AV.str [],AV.int .i64 0,
  AV.int .i64 0,AV.str [],AV.str [],AV.nils,AV.nils,AV.nils,AV.str [],AV.int .i64 0,AV.int .i64 0,AV.str [],AV.str [],AV.nils,AV.str []],AV.kb false]) []) (Tr.re (AV.tup [AV.agg [AV.str [100,114,111,112],AV.str a7.1,AV.str [],AV.nils,AV.nils,AV.str [],AV.nils,AV.nils,AV.str [],
  AV.int .i64 0,AV.int .i64 0,AV.str [],AV.str [],AV.nils,AV.nils,AV.nils,AV.str [],AV.int .i64 0,AV.int .i64 0,AV.str [],AV.str [],AV.nils,AV.str []],AV.kb true]) [])))))) (Tr.chk (zb7 a4 [73,78,83,69,82,84]) (Tr.br a11.1 (Tr.chk (zau a12 [73,78,84,79]) (Tr.chk (zaF a14) (Tr.chk (zau a16 [86,65,76,85,69,83]) (Tr.chk (zau a18 [40]) (Tr.to
  (zp7.h17 (znD x0).1 ([],[],[],[],[],0,0,[],[],[],0,0,[],[],[],()) (zaQ a18 [40]) ([105,110,115,101,114,116],a15.1,[],[],[],0,0,[],[],[],0,0,[],[],[],()))))))) (Tr.chk (zb7 a12 [85,80,68,65,84,69]) (Tr.br a19.1 (Tr.chk (zaF a20) (Tr.chk (zau a22 [83,69,84]) (Tr.to
  (zp7.h25 (znD x0).1 ([],[],[],[],[],0,0,[],[],[],0,0,[],[],[],()) (zaQ a22 [83,69,84]) ([117,112,100,97,116,101],a21.1,[],[],[],0,0,[],[],[],0,0,[],[],[],()))))) (Tr.chk (zb7 a20 [68,69,76,69,84,69]) (Tr.br a23.1 (Tr.chk (zau a24 [70,82,79,77]) (Tr.chk (zaF a26) (Tr.chk (zbY a28 [87,72,69,82,69])
  (Tr.br (bif !a29.2.2.2.1 then true else a29.2.2.1 != a8) (Tr.re (AV.tup [AV.agg [AV.str [],AV.str [],AV.str [],AV.nils,AV.nils,AV.str [],AV.nils,AV.nils,AV.str [],AV.int .i64 0,AV.int .i64 0,AV.str [],AV.str [],AV.nils,AV.nils,AV.nils,AV.str [],AV.int .i64 0,AV.int .i64 0,AV.str [],AV.str [],AV.nils,AV.str []],AV.kb false]) []) (Tr.chk (zh9 a30) (Tr.br (!a31.2)
  (Tr.re (AV.tup [AV.agg [AV.str [],AV.str [],AV.str [],AV.nils,AV.nils,AV.str [],AV.nils,AV.nils,AV.str [],AV.int .i64 0,AV.int .i64 0,AV.str [],AV.str [],AV.nils,AV.nils,AV.nils,AV.str [],AV.int .i64 0,AV.int .i64 0,AV.str [],AV.str [],AV.nils,AV.str []],AV.kb false]) []) (Tr.re (AV.tup [AV.agg
  [AV.str [100,101,108,101,116,101],AV.str a27.1,AV.str [],AV.nils,AV.nils,AV.str [],AV.nils,AV.nils,AV.str [],AV.int .i64 0,AV.int .i64 0,AV.str [],AV.str [],AV.nils,AV.nils,AV.nils,AV.str (ze.op a29.1),AV.int .i64 (ze.v a29.1).1,AV.int .i64 (ze.v a29.1).2.1,AV.str (ze.v a29.1).2.2,AV.str (ze.s a29.1),AV.sl Sh.expr (ze.l a29.1),AV.str []],
  AV.kb true]) []))))))) (Tr.chk (zb7 a24 [83,69,76,69,67,84]) (Tr.br a32.1 (Tr.chk (zau a33 [42]) (Tr.chk (zau a35 [70,82,79,77]) (Tr.chk (zaF a37) (Tr.chk (zbY a39 [87,72,69,82,69]) (Tr.br (bif !a40.2.2.2.1 then true else a40.2.2.1 != a8) (Tr.re (AV.tup [AV.agg
  [AV.str [],AV.str [],AV.str [],AV.nils,AV.nils,AV.str [],AV.nils,AV.nils,AV.str [],AV.int .i64 0,AV.int .i64 0,AV.str [],AV.str [],AV.nils,AV.nils,AV.nils,AV.str [],AV.int .i64 0,AV.int .i64 0,AV.str [],AV.str [],AV.nils,AV.str []],AV.kb false]) []) (Tr.chk (zh9 a41) (Tr.br (!a42.2) (Tr.re (AV.tup [AV.agg
  [AV.str [],AV.str [],AV.str [],AV.nils,AV.nils,AV.str [],AV.nils,AV.nils,AV.str [],AV.int .i64 0,AV.int .i64 0,AV.str [],AV.str [],AV.nils,AV.nils,AV.nils,AV.str [],AV.int .i64 0,AV.int .i64 0,AV.str [],AV.str [],AV.nils,AV.str []],AV.kb false]) []) (Tr.re (AV.tup [AV.agg
  [AV.str [115,101,108,101,99,116],AV.str a38.1,AV.str [],AV.nils,AV.nils,AV.str [],AV.nils,AV.nils,AV.str [],AV.int .i64 0,AV.int .i64 0,AV.str [],AV.str [],AV.nils,AV.nils,AV.nils,AV.str (ze.op a40.1),AV.int .i64 (ze.v a40.1).1,AV.int .i64 (ze.v a40.1).2.1,AV.str (ze.v a40.1).2.2,AV.str (ze.s a40.1),AV.sl Sh.expr (ze.l a40.1),AV.str []],
  AV.kb true]) [])))))))) (Tr.chk (zb7 a33 [71,82,65,78,84]) (Tr.br a43.1 (Tr.chk (zui a44 [82,69,65,68]) (Tr.br a45.1 Tr.err Tr.err)) (Tr.chk (zb7 a44 [82,69,86,79,75,69]) (Tr.br a46.1 (Tr.chk (zui a47 [82,69,65,68]) (Tr.br a48.1 Tr.err Tr.err)) (Tr.chk (zb7 a47 [77,73,71,82,65,84,69]) (Tr.br a49.1
  (Tr.chk (zFd a50 ([],[],[],[],[],0,0,[],[],[],0,0,[],[],[],())) (Tr.br (bif !a51.1.2.2.1 then true else a51.1.2.1 != a8) (Tr.re (AV.tup [AV.agg [AV.str [],AV.str [],AV.str [],AV.nils,AV.nils,AV.str [],AV.nils,AV.nils,AV.str [],AV.int .i64 0,AV.int .i64 0,AV.str [],AV.str [],AV.nils,AV.nils,AV.nils,AV.str [],
  AV.int .i64 0,AV.int .i64 0,AV.str [],AV.str [],AV.nils,AV.str []],AV.kb false]) []) (Tr.chk (zh9 a52) (Tr.br (!a53.2) (Tr.re (AV.tup [AV.agg [AV.str [],AV.str [],AV.str [],AV.nils,AV.nils,AV.str [],AV.nils,AV.nils,AV.str [],AV.int .i64 0,AV.int .i64 0,AV.str [],AV.str [],AV.nils,AV.nils,AV.nils,
  AV.str [],AV.int .i64 0,AV.int .i64 0,AV.str [],AV.str [],AV.nils,AV.str []],AV.kb false]) []) (Tr.re (AV.tup [AV.agg [AV.str a51.2.1,AV.str a51.2.2.1,AV.str a51.2.2.2.1,AV.vec 0,AV.nils,AV.str a51.2.2.2.2.2.1,AV.nils,AV.nils,AV.str (ze.op a51.2.2.2.2.2.2.1),AV.int .i64 (ze.v a51.2.2.2.2.2.2.1).1,AV.int .i64 (ze.v a51.2.2.2.2.2.2.1).2.1,
  AV.str (ze.v a51.2.2.2.2.2.2.1).2.2,AV.str (ze.s a51.2.2.2.2.2.2.1),AV.sl Sh.expr (ze.l a51.2.2.2.2.2.2.1),AV.nils,AV.nils,AV.str a51.2.2.2.2.2.2.2.1,AV.int .i64 a51.2.2.2.2.2.2.2.2.1,AV.int .i64 a51.2.2.2.2.2.2.2.2.2.1,AV.str a51.2.2.2.2.2.2.2.2.2.2.1,AV.str a51.2.2.2.2.2.2.2.2.2.2.2.1,AV.nils,AV.str a51.2.2.2.2.2.2.2.2.2.2.2.2.1],AV.kb true])
  [AO.vec Sh.str a51.2.2.2.2.1]))))) (Tr.br (bif !a49.2.2.2.1 then true else a49.2.2.1 != a8) (Tr.re (AV.tup [AV.agg [AV.str [],AV.str [],AV.str [],AV.nils,AV.nils,AV.str [],AV.nils,AV.nils,AV.str [],AV.int .i64 0,AV.int .i64 0,AV.str [],AV.str [],AV.nils,AV.nils,AV.nils,AV.str [],AV.int .i64 0,AV.int .i64 0,AV.str [],AV.str [],AV.nils,AV.str []],AV.kb false]) [])
  (Tr.chk true (Tr.br true (Tr.re (AV.tup [AV.agg [AV.str [],AV.str [],AV.str [],AV.nils,AV.nils,AV.str [],AV.nils,AV.nils,AV.str [],AV.int .i64 0,AV.int .i64 0,AV.str [],AV.str [],AV.nils,AV.nils,AV.nils,AV.str [],AV.int .i64 0,AV.int .i64 0,AV.str [],AV.str [],AV.nils,AV.str []],AV.kb false]) []) (Tr.re (AV.tup [AV.agg
  [AV.str [],AV.str [],AV.str [],AV.nils,AV.nils,AV.str [],AV.nils,AV.nils,AV.str [],AV.int .i64 0,AV.int .i64 0,AV.str [],AV.str [],AV.nils,AV.nils,AV.nils,AV.str [],AV.int .i64 0,AV.int .i64 0,AV.str [],AV.str [],AV.nils,AV.str []],AV.kb true]) [])))))))))))))))))))))))
def zMe (x0:TS):Tr (zp7 ⊕ Raw):=
 let a0:=((znD x0).1,0,true,())
 let a1:=zcU a0 [67,82,69,65,84,69]
 let a2:=(a1.2.1,a1.2.2.1,a1.2.2.2.1,())
 let a3:=zcU a2 [68,82,79,80]
 let a4:=(a3.2.1,a3.2.2.1,a3.2.2.2.1,())
 let a5:=zaQ a4 [84,65,66,76,69]
 let a6:=(a5.1,a5.2.1,a5.2.2.1,())
 let a7:=zaU a6
 let a8:=(↑(List.length (znD x0).1):Int)
 let a9:=([100,114,111,112],a7.1,[],[],[],[],[],[],ze.mk [] (0,0,[]) [] [],[],[],ze.mk [] (0,0,[]) [] [],[])
 let a10:=ziA a9
 let a11:=zcU a4 [73,78,83,69,82,84]
 let a12:=(a11.2.1,a11.2.2.1,a11.2.2.2.1,())
 let a13:=zaQ a12 [73,78,84,79]
 let a14:=(a13.1,a13.2.1,a13.2.2.1,())
 let a15:=zaU a14
 let a16:=(a15.2.1,a15.2.2.1,a15.2.2.2.1,())
 let a17:=zaQ a16 [86,65,76,85,69,83]
 let a18:=(a17.1,a17.2.1,a17.2.2.1,())
 let a19:=zcU a12 [85,80,68,65,84,69]
 let a20:=(a19.2.1,a19.2.2.1,a19.2.2.2.1,())
 let a21:=zaU a20
 let a22:=(a21.2.1,a21.2.2.1,a21.2.2.2.1,())
 let a23:=zcU a20 [68,69,76,69,84,69]
 let a24:=(a23.2.1,a23.2.2.1,a23.2.2.2.1,())
 let a25:=zaQ a24 [70,82,79,77]
 let a26:=(a25.1,a25.2.1,a25.2.2.1,())
 let a27:=zaU a26
 let a28:=(a27.2.1,a27.2.2.1,a27.2.2.2.1,())
 let a29:=zcG a28 [87,72,69,82,69]
 let a30:=([100,101,108,101,116,101],a27.1,[],[],[],[],[],[],ze.mk [] (0,0,[]) [] [],[],[],zz a29.1,[])
 let a31:=ziA a30
 let a32:=zcU a24 [83,69,76,69,67,84]
 let a33:=(a32.2.1,a32.2.2.1,a32.2.2.2.1,())
 let a34:=zaQ a33 [42]
 let a35:=(a34.1,a34.2.1,a34.2.2.1,())
 let a36:=zaQ a35 [70,82,79,77]
 let a37:=(a36.1,a36.2.1,a36.2.2.1,())
 let a38:=zaU a37
 let a39:=(a38.2.1,a38.2.2.1,a38.2.2.2.1,())
 let a40:=zcG a39 [87,72,69,82,69]
 let a41:=([115,101,108,101,99,116],a38.1,[],[],[],[],[],[],ze.mk [] (0,0,[]) [] [],[],[],zz a40.1,[])
 let a42:=ziA a41
 let a43:=zcU a33 [71,82,65,78,84]
 let a44:=(a43.2.1,a43.2.2.1,a43.2.2.2.1,())
 let a45:=zw1 a44 [82,69,65,68]
 let a46:=zcU a44 [82,69,86,79,75,69]
 let a47:=(a46.2.1,a46.2.2.1,a46.2.2.2.1,())
 let a48:=zw1 a47 [82,69,65,68]
 let a49:=zcU a47 [77,73,71,82,65,84,69]
 let a50:=(a49.2.1,a49.2.2.1,a49.2.2.2.1,())
 let a51:=zLg a50 ([],[],[],[],[],0,0,[],[],[],0,0,[],[],[],())
 let a52:=(a51.2.1,a51.2.2.1,a51.2.2.2.1,a51.2.2.2.2.1,[],a51.2.2.2.2.2.1,[],[],zz a51.2.2.2.2.2.2.1,[],[],ze.mk a51.2.2.2.2.2.2.2.1 (a51.2.2.2.2.2.2.2.2.1,a51.2.2.2.2.2.2.2.2.2.1,a51.2.2.2.2.2.2.2.2.2.2.1) a51.2.2.2.2.2.2.2.2.2.2.2.1 [],a51.2.2.2.2.2.2.2.2.2.2.2.2.1)
 let a53:=ziA a52
 zTH x0 a0 a1 a2 a3 a4 a5 a6 a7 a8 a9 a10 a11 a12 a13 a14 a15 a16 a17 a18 a19 a20 a21 a22 a23 a24 a25 a26 a27 a28 a29 a30 a31 a32 a33 a34 a35 a36 a37 a38 a39 a40 a41 a42 a43 a44 a45 a46 a47 a48 a49 a50 a51 a52 a53
def zDf (l4:LF) (_:zj zce) (z1:zj zL) (z2:zj zce) (a0:Sem zt.sl×zj [CP.d zg,CP.d Sh.bool]) (a1:zj zL) (a2:Sem Sh.str×Sem (Sh.str.pr (Sh.str.pr (Sh.str.sl.pr (zh.sl.pr (Sh.str.pr (Sh.str.sl.pr (zaT.sl.pr (Sh.expr.pr (zf.sl.pr (zan.sl.pr (Sh.expr.pr Sh.str)))))))))))) (a3:Sem Sh.str×Sem Sh.bool):Tr (zp7 ⊕ Raw):=
 Tr.br z1.2.2.1 Tr.err
 (Tr.chk (zau a0 [41])
  (Tr.br (bif !a1.2.2.1 then true else a1.2.1 != (↑l4.length:Int)) (Tr.re (AV.tup [AV.agg [AV.str [],AV.str [],AV.str [],AV.nils,AV.nils,AV.str [],AV.nils,AV.nils,AV.str [],AV.int .i64 0,AV.int .i64 0,AV.str [],AV.str [],AV.nils,AV.nils,AV.nils,AV.str [],AV.int .i64 0,AV.int .i64 0,AV.str [],AV.str [],AV.nils,AV.str []],AV.kb false]) []) (Tr.chk (zh9 a2)
  (Tr.br (!a3.2) (Tr.re (AV.tup [AV.agg [AV.str [],AV.str [],AV.str [],AV.nils,AV.nils,AV.str [],AV.nils,AV.nils,AV.str [],AV.int .i64 0,AV.int .i64 0,AV.str [],AV.str [],AV.nils,AV.nils,AV.nils,AV.str [],AV.int .i64 0,AV.int .i64 0,AV.str [],AV.str [],AV.nils,AV.str []],AV.kb false]) []) (Tr.re (AV.tup [AV.agg
  [AV.str z2.1,AV.str z2.2.1,AV.str z2.2.2.1,AV.nils,AV.nils,AV.str z2.2.2.2.1,AV.nils,AV.nils,AV.str z2.2.2.2.2.1,AV.int .i64 z2.2.2.2.2.2.1,AV.int .i64 z2.2.2.2.2.2.2.1,AV.str z2.2.2.2.2.2.2.2.1,AV.str z2.2.2.2.2.2.2.2.2.1,AV.nils,AV.nils,AV.nils,AV.str z2.2.2.2.2.2.2.2.2.2.1,AV.int .i64 z2.2.2.2.2.2.2.2.2.2.2.1,
  AV.int .i64 z2.2.2.2.2.2.2.2.2.2.2.2.1,AV.str z2.2.2.2.2.2.2.2.2.2.2.2.2.1,AV.str z2.2.2.2.2.2.2.2.2.2.2.2.2.2.1,AV.nils,AV.str z2.2.2.2.2.2.2.2.2.2.2.2.2.2.2.1],AV.kb true]) [])))))
def zHw (l4:LF) (z0:zj zce) (z1:zj zL) (z2:zj zce):Tr (zp7 ⊕ Raw):=
 let a0:=(z1.1,z1.2.1,z1.2.2.1,())
 let a1:=zaQ a0 [41]
 let a2:=(z2.1,z2.2.1,z2.2.2.1,[],[],z2.2.2.2.1,[],[],ze.mk z2.2.2.2.2.1 (z2.2.2.2.2.2.1,z2.2.2.2.2.2.2.1,z2.2.2.2.2.2.2.2.1) z2.2.2.2.2.2.2.2.2.1 [],[],[],ze.mk z2.2.2.2.2.2.2.2.2.2.1 (z2.2.2.2.2.2.2.2.2.2.2.1,z2.2.2.2.2.2.2.2.2.2.2.2.1,z2.2.2.2.2.2.2.2.2.2.2.2.2.1) z2.2.2.2.2.2.2.2.2.2.2.2.2.2.1 [],z2.2.2.2.2.2.2.2.2.2.2.2.2.2.2.1)
 let a3:=ziA a2
 zDf l4 z0 z1 z2 a0 a1 a2 a3
def zDs (l4:LF) (_:zj zce) (z1:zj zL) (z2:zj zce) (a0:Sem zt.sl×zj [CP.d zg,CP.d Sh.bool]) (a1:Sem Sh.str×zj zL) (a2:Sem Sh.expr×zj zL) (a3:Sem Sh.str×Sem (Sh.str.pr (Sh.str.pr (Sh.str.sl.pr (zh.sl.pr (Sh.str.pr (Sh.str.sl.pr (zaT.sl.pr (Sh.expr.pr (zf.sl.pr (zan.sl.pr (Sh.expr.pr Sh.str)))))))))))) (a4:Sem Sh.str×Sem Sh.bool):Tr (zp7 ⊕ Raw):=
 Tr.br z1.2.2.1 (Tr.chk (zaF a0) (Tr.chk (zau (a1.2.1,a1.2.2.1,a1.2.2.2.1,()) [61]) Tr.err))
 (Tr.chk (zbY a0 [87,72,69,82,69])
  (Tr.br (bif !a2.2.2.2.1 then true else a2.2.2.1 != (↑l4.length:Int)) (Tr.re (AV.tup [AV.agg [AV.str [],AV.str [],AV.str [],AV.nils,AV.nils,AV.str [],AV.nils,AV.nils,AV.str [],AV.int .i64 0,AV.int .i64 0,AV.str [],AV.str [],AV.nils,AV.nils,AV.nils,AV.str [],AV.int .i64 0,AV.int .i64 0,AV.str [],AV.str [],AV.nils,AV.str []],AV.kb false]) []) (Tr.chk (zh9 a3)
  (Tr.br (!a4.2) (Tr.re (AV.tup [AV.agg [AV.str [],AV.str [],AV.str [],AV.nils,AV.nils,AV.str [],AV.nils,AV.nils,AV.str [],AV.int .i64 0,AV.int .i64 0,AV.str [],AV.str [],AV.nils,AV.nils,AV.nils,AV.str [],AV.int .i64 0,AV.int .i64 0,AV.str [],AV.str [],AV.nils,AV.str []],AV.kb false]) []) (Tr.re (AV.tup [AV.agg
  [AV.str z2.1,AV.str z2.2.1,AV.str z2.2.2.1,AV.nils,AV.nils,AV.str z2.2.2.2.1,AV.nils,AV.nils,AV.str z2.2.2.2.2.1,AV.int .i64 z2.2.2.2.2.2.1,AV.int .i64 z2.2.2.2.2.2.2.1,AV.str z2.2.2.2.2.2.2.2.1,AV.str z2.2.2.2.2.2.2.2.2.1,AV.nils,AV.nils,AV.nils,AV.str (ze.op a2.1),AV.int .i64 (ze.v a2.1).1,AV.int .i64 (ze.v a2.1).2.1,
  AV.str (ze.v a2.1).2.2,AV.str (ze.s a2.1),AV.sl Sh.expr (ze.l a2.1),AV.str z2.2.2.2.2.2.2.2.2.2.2.2.2.2.2.1],AV.kb true]) [])))))
def zJi (l4:LF) (z0:zj zce) (z1:zj zL) (z2:zj zce):Tr (zp7 ⊕ Raw):=
 let a0:=(z1.1,z1.2.1,z1.2.2.1,())
 let a1:=zaU a0
 let a2:=zcG a0 [87,72,69,82,69]
 let a3:=(z2.1,z2.2.1,z2.2.2.1,[],[],z2.2.2.2.1,[],[],ze.mk z2.2.2.2.2.1 (z2.2.2.2.2.2.1,z2.2.2.2.2.2.2.1,z2.2.2.2.2.2.2.2.1) z2.2.2.2.2.2.2.2.2.1 [],[],[],zz a2.1,z2.2.2.2.2.2.2.2.2.2.2.2.2.2.2.1)
 let a4:=ziA a3
 zDs l4 z0 z1 z2 a0 a1 a2 a3 a4
theorem zS7 (x0:TS):run zl8 0 zGo (Func.results Tryz.f65).toList 400 (zq Tryz.f65) (zp (Func.ntmps Tryz.f65) [zx Sh.str x0] [])=(zMe x0).map (lf Tryz.f65 zFC):=by kernel_rfl
def zMf:zp7→Tr (zp7 ⊕ Raw)
 | .h17 l4 z0 z1 z2=>zHw l4 z0 z1 z2
 | .h25 l4 z0 z1 z2=>zJi l4 z0 z1 z2
theorem zR9:∀ s,run zl8 0 zGo (Func.results Tryz.f65).toList 400 (zA Tryz.f65 (zFC s).1) (zFC s).2=(zMf s).map (lf Tryz.f65 zFC)
 | .h17 l4 z0 z1 z2=>by kernel_rfl
 | .h25 l4 z0 z1 z2=>by kernel_rfl
def zwi (x0:TS):Option (zo (List.map some [zu,Sh.bool])):=zaj [zu,Sh.bool] zMf 100000000 (zMe x0)
def zw0 (x0:TS):Bool:=(zwi x0).isSome
def za2 (x0:TS):Sem zu×Sem Sh.bool:=(fun r:zo (List.map some [zu,Sh.bool])=>(r.1,r.2.1)) ((zwi x0).getD (zad [zu,Sh.bool]))
def zQa:zJ:=zG [Sh.str] [zu,Sh.bool] (fun x=>zw0 x.1) fun x=>((za2 x.1).1,(za2 x.1).2,())
theorem zOT:FOk zl8.P zl8.gl 65 zQa:=zae (ks:=[Sh.str]) (outs:=[zu,Sh.bool]) (keep:=zGo) (gas:=400) (n:=100000000) (e:=zFC) (t:=zMf) (i:=fun x=>zMe x.1) zsQ zs5 zST (fun x=>zS7 x.1) zR9 (fun _=>by kernel_rfl) (fun _=>by kernel_rfl)

def zoc:Env:=(zl8.add 65 zQa)
theorem zsE:zi zoc:=(zi.addS zsQ (zB.refl zl8) zOT)
theorem zsR:zoc.P.follows .mixedOrders=true:=(zm zs5 _ _)
end
open Go Go.Proofs
set_option maxHeartbeats 4000000

abbrev zKg:Nat→zQ:=fun _=>{ }
theorem zVS:zF zoc.P 29 Tryz.f29 1:=by refine ⟨?_,?_,?_,?_⟩ <;> kernel_rfl
noncomputable def zOH (x0:TS):Tr (Empty ⊕ Raw):=
 Tr.chk (zw0 x0)
 (Tr.re
  (AV.agg [AV.str (za2 x0).1.1,AV.str (za2 x0).1.2.1,AV.str (za2 x0).1.2.2.1,AV.sl Sh.str (za2 x0).1.2.2.2.1,AV.sl zh (za2 x0).1.2.2.2.2.1,AV.str (za2 x0).1.2.2.2.2.2.1,AV.sl Sh.str (za2 x0).1.2.2.2.2.2.2.1,AV.sl (Sh.str.pr Sh.str) (za2 x0).1.2.2.2.2.2.2.2.1,AV.str (ze.op (za2 x0).1.2.2.2.2.2.2.2.2.1),
  AV.int .i64 (ze.v (za2 x0).1.2.2.2.2.2.2.2.2.1).1,AV.int .i64 (ze.v (za2 x0).1.2.2.2.2.2.2.2.2.1).2.1,AV.str (ze.v (za2 x0).1.2.2.2.2.2.2.2.2.1).2.2,AV.str (ze.s (za2 x0).1.2.2.2.2.2.2.2.2.1),AV.sl Sh.expr (ze.l (za2 x0).1.2.2.2.2.2.2.2.2.1),AV.sl zf (za2 x0).1.2.2.2.2.2.2.2.2.2.1,AV.sl (Sh.str.pr Sh.expr) (za2 x0).1.2.2.2.2.2.2.2.2.2.2.1,
  AV.str (ze.op (za2 x0).1.2.2.2.2.2.2.2.2.2.2.2.1),AV.int .i64 (ze.v (za2 x0).1.2.2.2.2.2.2.2.2.2.2.2.1).1,AV.int .i64 (ze.v (za2 x0).1.2.2.2.2.2.2.2.2.2.2.2.1).2.1,AV.str (ze.v (za2 x0).1.2.2.2.2.2.2.2.2.2.2.2.1).2.2,AV.str (ze.s (za2 x0).1.2.2.2.2.2.2.2.2.2.2.2.1),AV.sl Sh.expr (ze.l (za2 x0).1.2.2.2.2.2.2.2.2.2.2.2.1),
  AV.str (za2 x0).1.2.2.2.2.2.2.2.2.2.2.2.2])
  [])
theorem zWj (x0:TS):run zoc 0 zKg (Func.results Tryz.f29).toList 400 (zq Tryz.f29) (zp (Func.ntmps Tryz.f29) [zx Sh.str x0] [])=(zOH x0).map (lf Tryz.f29 e0):=by kernel_rfl
noncomputable def zJR (x0:TS):Option (zo (List.map some [zu])):=zaj [zu] t0 100000000 (zOH x0)
noncomputable def zUQ (x0:TS):Bool:=(zJR x0).isSome
noncomputable def zWH (x0:TS):Sem zu:=(fun r:zo (List.map some [zu])=>r.1) ((zJR x0).getD (zad [zu]))
noncomputable def zQD:zJ:=zG [Sh.str] [zu] (fun x=>zUQ x.1) fun x=>(zWH x.1,())
theorem zNI:FOk zoc.P zoc.gl 29 zQD:=zae (ks:=[Sh.str]) (outs:=[zu]) (keep:=zKg) (gas:=400) (n:=100000000) (e:=e0) (t:=t0) (i:=fun x=>zOH x.1) zsE zsR zVS (fun x=>zWj x.1) (on0 _ _ _ _ _) (fun _=>by kernel_rfl) (fun _=>by kernel_rfl)

noncomputable def zoe:Env:=(zoc.add 29 zQD)
theorem ztz:zi zoe:=(zi.addS zsE (zB.refl zoc) zNI)
theorem ztr:zoe.P.follows .mixedOrders=true:=(zm zsR _ _)
open Go Go.Proofs
set_option maxHeartbeats 4000000

abbrev zKm:Nat→zQ:=fun _=>{ }
theorem zUx:zF zoe.P 10 Tryz.f10 0:=by refine ⟨?_,?_,?_,?_⟩ <;> kernel_rfl
noncomputable def zO2:Tr (Empty ⊕ Raw):=
 Tr.chk true (Tr.chk true (Tr.chk true (Tr.chk true (Tr.chk true (Tr.chk true (Tr.chk true (Tr.re (AV.bool true) [])))))))
theorem zUE:run zoe 0 zKm (Func.results Tryz.f10).toList 400 (zq Tryz.f10) (zp (Func.ntmps Tryz.f10) [] [])=(zO2).map (lf Tryz.f10 e0):=by kernel_rfl
noncomputable def zzO:Option (zo (List.map some [Sh.bool])):=zaj [Sh.bool] t0 100000000 (zO2)
noncomputable def ztQ:Bool:=(zzO).isSome
noncomputable def zxM:Sem Sh.bool:=(fun r:zo (List.map some [Sh.bool])=>r.1) ((zzO).getD (zad [Sh.bool]))
noncomputable def zSq:zJ:=zG [] [Sh.bool] (fun _=>ztQ) fun _=>(zxM,())
theorem zOG:FOk zoe.P zoe.gl 10 zSq:=zae (ks:=[]) (outs:=[Sh.bool]) (keep:=zKm) (gas:=400) (n:=100000000) (e:=e0) (t:=t0) (i:=fun x=>zO2) ztz ztr zUx (fun x=>zUE) (on0 _ _ _ _ _) (fun _=>by kernel_rfl) (fun _=>by kernel_rfl)

noncomputable def zaS:Env:=(zoe.add 10 zSq)
theorem zeN:zi zaS:=(zi.addS ztz (zB.refl zoe) zOG)
theorem zeG:zaS.P.follows .mixedOrders=true:=(zm ztr _ _)
open Go Go.Proofs
noncomputable section
set_option maxHeartbeats 4000000

theorem zg7 {E E0:Env} {k:FuncId} {F:zJ} (s:zB E E0) (h:FOk E.P E.gl k F):FOk E0.P E0.gl k F:=by
 rwa [s.p,s.g] at h

abbrev zzH:Nat→zQ:=fun j=>if j=2 then { slots:=[1,3] } else { }
inductive zlx where
 | h2 (i3:Int) (z0:zj [CP.d zf])
abbrev zxk:zlx→Nat×St
 | .h2 i3 z0=>(2,⟨tm 66 [(1,AV.ptr 0 0),(3,AV.int .i64 i3)],[AO.box (cpN [] [CP.d zf] z0)]⟩)
theorem zNP:zF zaS.P 101 Tryz.f101 1:=by refine ⟨?_,?_,?_,?_⟩ <;> kernel_rfl
def zBr (x0:Sem zf):Tr (zlx ⊕ Raw):=
 Tr.to (zlx.h2 0 (x0,()))
def zpo (i3:Int) (z0:zj [CP.d zf]) (a0:Int) (a1:Bool) (a2:Int) (a3:Bool) (a4:Bool) (a5:Bool):Tr (zlx ⊕ Raw):=
 Tr.br (decide (i3 < a0))
 (Tr.chk (a1&&bif a3 then true else a1)
  (Tr.br (bif a3 then true else decide (a2 > 126)) (Tr.re (AV.kb false) []) (Tr.to (zlx.h2 (IntKind.i64.wrap (i3+1)) z0))))
 (Tr.br (z0.1.1==0) (Tr.re (AV.bool (bif a4 then a5 else false)) [])
  (Tr.br (z0.1.1==1) (Tr.re (AV.bool a5) []) (Tr.br (z0.1.1==2) (Tr.re (AV.bool (bif a4 then decide (a0≤40) else false)) []) (Tr.br (z0.1.1==3) (Tr.re (AV.bool (bif a4 then a5 else bif z0.1.2.1==1 then a5 else false)) []) (Tr.re (AV.kb false) [])))))
def zk4 (i3:Int) (z0:zj [CP.d zf]):Tr (zlx ⊕ Raw):=
 let a0:=(↑(List.length z0.1.2.2):Int)
 let a1:=inB i3 (List.length z0.1.2.2)
 let a2:=(↑(List.getD z0.1.2.2 i3.toNat 0).toNat:Int)
 let a3:=decide (a2 < 32)
 let a4:=z0.1.2.1==0
 let a5:=z0.1.2.2==[]
 zpo i3 z0 a0 a1 a2 a3 a4 a5
theorem zOk (x0:Sem zf):run zaS 0 zzH (Func.results Tryz.f101).toList 400 (zq Tryz.f101) (zp (Func.ntmps Tryz.f101) [zx zf x0] [])=(zBr x0).map (lf Tryz.f101 zxk):=by kernel_rfl
def ztq:zlx→Tr (zlx ⊕ Raw)
 | .h2 i3 z0=>zk4 i3 z0
theorem zPj:∀ s,run zaS 0 zzH (Func.results Tryz.f101).toList 400 (zA Tryz.f101 (zxk s).1) (zxk s).2=(ztq s).map (lf Tryz.f101 zxk)
 | .h2 i3 z0=>by kernel_rfl
def zzN (x0:Sem zf):Option (zo (List.map some [Sh.bool])):=zaj [Sh.bool] ztq 100000000 (zBr x0)
def ziJ (x0:Sem zf):Bool:=(zzN x0).isSome
def zn1 (x0:Sem zf):Sem Sh.bool:=(fun r:zo (List.map some [Sh.bool])=>r.1) ((zzN x0).getD (zad [Sh.bool]))
def zKF:zJ:=zG [zf] [Sh.bool] (fun x=>ziJ x.1) fun x=>(zn1 x.1,())
theorem zIq:FOk zaS.P zaS.gl 101 zKF:=zae (ks:=[zf]) (outs:=[Sh.bool]) (keep:=zzH) (gas:=400) (n:=100000000) (e:=zxk) (t:=ztq) (i:=fun x=>zBr x.1) zeN zeG zNP (fun x=>zOk x.1) zPj (fun _=>by kernel_rfl) (fun _=>by kernel_rfl)

abbrev zEY:Nat→zQ:=fun _=>{ }
theorem zNn:zF zaS.P 142 Tryz.f142 1:=by refine ⟨?_,?_,?_,?_⟩ <;> kernel_rfl
def zDp (x0:Sem Sh.bool):Tr (Empty ⊕ Raw):=
 Tr.br x0 (Tr.re (AV.agg [AV.int .i64 3,AV.int .i64 1,AV.str []]) []) (Tr.re (AV.agg [AV.int .i64 3,AV.int .i64 0,AV.str []]) [])
theorem zPt (x0:Sem Sh.bool):run zaS 0 zEY (Func.results Tryz.f142).toList 400 (zq Tryz.f142) (zp (Func.ntmps Tryz.f142) [zx Sh.bool x0] [])=(zDp x0).map (lf Tryz.f142 e0):=by kernel_rfl
def zpE (x0:Sem Sh.bool):Option (zo (List.map some [zf])):=zaj [zf] t0 100000000 (zDp x0)
def zfo (x0:Sem Sh.bool):Bool:=(zpE x0).isSome
def zap (x0:Sem Sh.bool):Sem zf:=(fun r:zo (List.map some [zf])=>r.1) ((zpE x0).getD (zad [zf]))
def zKG:zJ:=zG [Sh.bool] [zf] (fun x=>zfo x.1) fun x=>(zap x.1,())
theorem zHT:FOk zaS.P zaS.gl 142 zKG:=zae (ks:=[Sh.bool]) (outs:=[zf]) (keep:=zEY) (gas:=400) (n:=100000000) (e:=e0) (t:=t0) (i:=fun x=>zDp x.1) zeN zeG zNn (fun x=>zPt x.1) (on0 _ _ _ _ _) (fun _=>by kernel_rfl) (fun _=>by kernel_rfl)

abbrev zDc:Nat→zQ:=fun _=>{ }
theorem zNF:zF zaS.P 185 Tryz.f185 1:=by refine ⟨?_,?_,?_,?_⟩ <;> kernel_rfl
def zFB (x0:TS):Tr (Empty ⊕ Raw):=
 Tr.re
 (AV.bool
  (bif x0==[97,110,100] then true
  else bif x0==[111,114] then true else bif x0==[61] then true else bif x0==[60] then true else bif x0==[43] then true else x0==[45]))
 []
theorem zPc (x0:TS):run zaS 0 zDc (Func.results Tryz.f185).toList 400 (zq Tryz.f185) (zp (Func.ntmps Tryz.f185) [zx Sh.str x0] [])=(zFB x0).map (lf Tryz.f185 e0):=by kernel_rfl
def zyt (x0:TS):Option (zo (List.map some [Sh.bool])):=zaj [Sh.bool] t0 100000000 (zFB x0)
def ztY (x0:TS):Bool:=(zyt x0).isSome
def zz7 (x0:TS):Sem Sh.bool:=(fun r:zo (List.map some [Sh.bool])=>r.1) ((zyt x0).getD (zad [Sh.bool]))
def zJ9:zJ:=zG [Sh.str] [Sh.bool] (fun x=>ztY x.1) fun x=>(zz7 x.1,())
theorem zIN:FOk zaS.P zaS.gl 185 zJ9:=zae (ks:=[Sh.str]) (outs:=[Sh.bool]) (keep:=zDc) (gas:=400) (n:=100000000) (e:=e0) (t:=t0) (i:=fun x=>zFB x.1) zeN zeG zNF (fun x=>zPc x.1) (on0 _ _ _ _ _) (fun _=>by kernel_rfl) (fun _=>by kernel_rfl)

abbrev zEB:Nat→zQ:=fun j=>if j=2 then { slots:=[0,1,5] } else { }
inductive zxK where
 | h2 (l0:LC) (s1:TS) (i5:Int)
abbrev zE4:zxK→Nat×St
 | .h2 l0 s1 i5=>(2,⟨tm 20 [(0,AV.sl zh l0),(1,AV.str s1),(5,AV.int .i64 i5)],[]⟩)
theorem zTU:zF zaS.P 42 Tryz.f42 2:=by refine ⟨?_,?_,?_,?_⟩ <;> kernel_rfl
def zJc (x0:Sem zh.sl) (x1:TS):Tr (zxK ⊕ Raw):=
 Tr.to (zxK.h2 x0 x1 0)
def ztZ (l0:LC) (s1:TS) (i5:Int) (a0:Sem zh):Tr (zxK ⊕ Raw):=
 Tr.br (decide (i5 < (↑l0.length:Int)))
 (Tr.chk (inB i5 l0.length) (Tr.br (a0.1==s1) (Tr.re (AV.int .i64 i5) []) (Tr.to (zxK.h2 l0 s1 (IntKind.i64.wrap (i5+1))))))
 (Tr.re (AV.int .i64 (-1)) [])
def zyU (l0:LC) (s1:TS) (i5:Int):Tr (zxK ⊕ Raw):=
 let a0:=l0.getD i5.toNat (zl zh)
 ztZ l0 s1 i5 a0
theorem zS8 (x0:Sem zh.sl) (x1:TS):run zaS 0 zEB (Func.results Tryz.f42).toList 400 (zq Tryz.f42) (zp (Func.ntmps Tryz.f42) [zx zh.sl x0,zx Sh.str x1] [])=(zJc x0 x1).map (lf Tryz.f42 zE4):=by kernel_rfl
def zy9:zxK→Tr (zxK ⊕ Raw)
 | .h2 l0 s1 i5=>zyU l0 s1 i5
theorem zQW:∀ s,run zaS 0 zEB (Func.results Tryz.f42).toList 400 (zA Tryz.f42 (zE4 s).1) (zE4 s).2=(zy9 s).map (lf Tryz.f42 zE4)
 | .h2 l0 s1 i5=>by kernel_rfl
def zp1 (x0:Sem zh.sl) (x1:TS):Option (zo (List.map some [zg])):=zaj [zg] zy9 100000000 (zJc x0 x1)
def zmt (x0:Sem zh.sl) (x1:TS):Bool:=(zp1 x0 x1).isSome
def zoR (x0:Sem zh.sl) (x1:TS):Sem zg:=(fun r:zo (List.map some [zg])=>r.1) ((zp1 x0 x1).getD (zad [zg]))
def zSz:zJ:=zG [zh.sl,Sh.str] [zg] (fun x=>zmt x.1 x.2.1) fun x=>(zoR x.1 x.2.1,())
theorem zM8:FOk zaS.P zaS.gl 42 zSz:=zae (ks:=[zh.sl,Sh.str]) (outs:=[zg]) (keep:=zEB) (gas:=400) (n:=100000000) (e:=zE4) (t:=zy9) (i:=fun x=>zJc x.1 x.2.1) zeN zeG zTU (fun x=>zS8 x.1 x.2.1) zQW (fun _=>by kernel_rfl) (fun _=>by kernel_rfl)

def zpM (g:Sem Sh.expr→Sem Sh.expr→Sem Sh.bool) (c:Sem Sh.expr→Sem Sh.expr→Bool):Env:=zaS.add 77 (zG [Sh.expr,Sh.expr] [Sh.bool] (fun x=>c x.1 x.2.1) fun x=>(g x.1 x.2.1,()))
theorem zB3 {g:Sem Sh.expr→Sem Sh.expr→Sem Sh.bool} {c:Sem Sh.expr→Sem Sh.expr→Bool} (hg:FOk zaS.P zaS.gl 77 (zG [Sh.expr,Sh.expr] [Sh.bool] (fun x=>c x.1 x.2.1) fun x=>(g x.1 x.2.1,()))):zi (zpM g c):=zeN.add hg
theorem zCQ {g:Sem Sh.expr→Sem Sh.expr→Sem Sh.bool} {c:Sem Sh.expr→Sem Sh.expr→Bool}:(zpM g c).P.follows .mixedOrders=true:=zm zeG _ _
abbrev zDI:Nat→zQ:=fun j=>if j=4 then { slots:=[2,3,5] } else { }
inductive zv8 where
 | h4 (i5:Int) (z0:zj [CP.d Sh.expr]) (z1:zj [CP.d Sh.expr])
abbrev zDk:zv8→Nat×St
 | .h4 i5 z0 z1=>(4,⟨tm 53 [(2,AV.ptr 0 0),(3,AV.ptr 1 0),(5,AV.int .i64 i5)],[AO.box (cpN [] [CP.d Sh.expr] z0),AO.box (cpN [] [CP.d Sh.expr] z1)]⟩)
theorem zSg (g:Sem Sh.expr→Sem Sh.expr→Sem Sh.bool) (c:Sem Sh.expr→Sem Sh.expr→Bool):zF (zpM g c).P 77 Tryz.f77 2:=by refine ⟨?_,?_,?_,?_⟩ <;> kernel_rfl
def zud (_:Sem Sh.expr→Sem Sh.expr→Sem Sh.bool) (_:Sem Sh.expr→Sem Sh.expr→Bool) (x0:Sem Sh.expr) (x1:Sem Sh.expr):Tr (zv8 ⊕ Raw):=
 Tr.br
 (bif !ze.op x0==ze.op x1 then true
 else
  bif !((ze.v x0).1==(ze.v x1).1&&((ze.v x0).2.1==(ze.v x1).2.1&&((ze.v x0).2.2==(ze.v x1).2.2&&true))) then true
  else bif !ze.s x0==ze.s x1 then true else (↑(ze.l x0).length:Int) != (↑(ze.l x1).length:Int))
 (Tr.re (AV.kb false) []) (Tr.to (zv8.h4 0 (x0,()) (x1,())))
def zox (g:Sem Sh.expr→Sem Sh.expr→Sem Sh.bool) (c:Sem Sh.expr→Sem Sh.expr→Bool) (i5:Int) (z0:zj [CP.d Sh.expr]) (z1:zj [CP.d Sh.expr]) (a0:Int) (a1:ze) (a2:ze):Tr (zv8 ⊕ Raw):=
 Tr.br (decide (i5 < a0))
 (Tr.chk (inB i5 (ze.l z0.1).length)
  (Tr.chk (inB i5 (ze.l z1.1).length) (Tr.chk (c a1 a2) (Tr.br (!g a1 a2) (Tr.re (AV.kb false) []) (Tr.to (zv8.h4 (IntKind.i64.wrap (i5+1)) z0 z1))))))
 (Tr.re (AV.kb true) [])
def zuU (g:Sem Sh.expr→Sem Sh.expr→Sem Sh.bool) (c:Sem Sh.expr→Sem Sh.expr→Bool) (i5:Int) (z0:zj [CP.d Sh.expr]) (z1:zj [CP.d Sh.expr]):Tr (zv8 ⊕ Raw):=
 let a0:=(↑(ze.l z0.1).length:Int)
 let a1:=zz ((ze.l z0.1).getD i5.toNat (zl Sh.expr))
 let a2:=zz ((ze.l z1.1).getD i5.toNat (zl Sh.expr))
 zox g c i5 z0 z1 a0 a1 a2
theorem zSO (g:Sem Sh.expr→Sem Sh.expr→Sem Sh.bool) (c:Sem Sh.expr→Sem Sh.expr→Bool) (x0:Sem Sh.expr) (x1:Sem Sh.expr):run (zpM g c) 0 zDI (Func.results Tryz.f77).toList 400 (zq Tryz.f77) (zp (Func.ntmps Tryz.f77) [zx Sh.expr x0,zx Sh.expr x1] [])=(zud g c x0 x1).map (lf Tryz.f77 zDk):=by kernel_rfl
def zyT (g:Sem Sh.expr→Sem Sh.expr→Sem Sh.bool) (c:Sem Sh.expr→Sem Sh.expr→Bool):zv8→Tr (zv8 ⊕ Raw)
 | .h4 i5 z0 z1=>zuU g c i5 z0 z1
theorem zTk (g:Sem Sh.expr→Sem Sh.expr→Sem Sh.bool) (c:Sem Sh.expr→Sem Sh.expr→Bool):∀ s,run (zpM g c) 0 zDI (Func.results Tryz.f77).toList 400 (zA Tryz.f77 (zDk s).1) (zDk s).2=(zyT g c s).map (lf Tryz.f77 zDk)
 | .h4 i5 z0 z1=>by kernel_rfl
def zh0 (o:Option (zo (List.map some [Sh.bool]))):Sem Sh.bool:=(fun r:zo (List.map some [Sh.bool])=>r.1) (o.getD (zad [Sh.bool]))
def ztR (g:Sem Sh.expr→Sem Sh.expr→Sem Sh.bool) (c:Sem Sh.expr→Sem Sh.expr→Bool) (x0:Sem Sh.expr) (x1:Sem Sh.expr):Option (zo (List.map some [Sh.bool])):=zaj [Sh.bool] (zyT g c) 3000000000 (zud g c x0 x1)
def zcb:Nat→Sem Sh.expr→Sem Sh.expr→Option (zo (List.map some [Sh.bool]))
 | 0=>fun _ _=>none
 | n+1=>ztR (fun x0 x1=>zh0 (zcb n x0 x1)) fun x0 x1=>(zcb n x0 x1).isSome
theorem zOv:zF zaS.P 77 Tryz.f77 2:=by refine ⟨?_,?_,?_,?_⟩ <;> kernel_rfl
theorem zV7 (g:Sem Sh.expr→Sem Sh.expr→Sem Sh.bool) (c:Sem Sh.expr→Sem Sh.expr→Bool):zB (zpM g c) zaS:=(zB.refl zaS).add _ _
theorem zAS:∀ n,FOk zaS.P zaS.gl 77 (zG [Sh.expr,Sh.expr] [Sh.bool] (fun x=>(zcb n x.1 x.2.1).isSome) fun x=>(zh0 (zcb n x.1 x.2.1),()))
 | 0=>zdK ⟨Tryz.f77,zOv.1,zOv.2.1,zOv.2.2.1⟩ (fun _=>rfl)
 | n+1=>zg7 (zV7 _ _) <| zae (E:=zpM (fun x0 x1=>zh0 (zcb n x0 x1)) (fun x0 x1=>(zcb n x0 x1).isSome)) (ks:=[Sh.expr,Sh.expr]) (outs:=[Sh.bool]) (keep:=zDI) (gas:=400) (n:=3000000000) (e:=zDk) (t:=zyT (fun x0 x1=>zh0 (zcb n x0 x1)) (fun x0 x1=>(zcb n x0 x1).isSome)) (i:=fun x=>zud (fun x0 x1=>zh0 (zcb n x0 x1)) (fun x0 x1=>(zcb n x0 x1).isSome) x.1 x.2.1) (zB3 (zAS n)) zCQ (zSg _ _) (fun x=>zSO _ _ x.1 x.2.1) (zTk _ _) (fun _=>by kernel_rfl) (fun _=>by kernel_rfl)
def zoP (x0:Sem Sh.expr) (x1:Sem Sh.expr):Option (zo (List.map some [Sh.bool])):=zcb 16 x0 x1
def zh8 (x0:Sem Sh.expr) (x1:Sem Sh.expr):Bool:=(zoP x0 x1).isSome
def zkB (x0:Sem Sh.expr) (x1:Sem Sh.expr):Sem Sh.bool:=zh0 (zoP x0 x1)
def zQw:zJ:=zG [Sh.expr,Sh.expr] [Sh.bool] (fun x=>zh8 x.1 x.2.1) fun x=>(zkB x.1 x.2.1,())
theorem zNy:FOk zaS.P zaS.gl 77 zQw:=zAS 16

def zkL (g:Sem Sh.expr→Sem zg) (c:Sem Sh.expr→Bool):Env:=zaS.add 139 (zG [Sh.expr] [zg] (fun x=>c x.1) fun x=>(g x.1,()))
theorem zym {g:Sem Sh.expr→Sem zg} {c:Sem Sh.expr→Bool} (hg:FOk zaS.P zaS.gl 139 (zG [Sh.expr] [zg] (fun x=>c x.1) fun x=>(g x.1,()))):zi (zkL g c):=zeN.add hg
theorem zzG {g:Sem Sh.expr→Sem zg} {c:Sem Sh.expr→Bool}:(zkL g c).P.follows .mixedOrders=true:=zm zeG _ _
abbrev zzP:Nat→zQ:=fun j=>if j=3 then { slots:=[1,3,4] } else { }
inductive zmm where
 | h3 (i3:Int) (i4:Int) (z0:zj [CP.d Sh.expr])
abbrev zv0:zmm→Nat×St
 | .h3 i3 i4 z0=>(3,⟨tm 21 [(1,AV.ptr 0 0),(3,AV.int .i64 i3),(4,AV.int .i64 i4)],[AO.box (cpN [] [CP.d Sh.expr] z0)]⟩)
theorem zMr (g:Sem Sh.expr→Sem zg) (c:Sem Sh.expr→Bool):zF (zkL g c).P 139 Tryz.f139 1:=by refine ⟨?_,?_,?_,?_⟩ <;> kernel_rfl
def zBi (_:Sem Sh.expr→Sem zg) (_:Sem Sh.expr→Bool) (x0:Sem Sh.expr):Tr (zmm ⊕ Raw):=
 Tr.to (zmm.h3 1 0 (x0,()))
def zqs (g:Sem Sh.expr→Sem zg) (c:Sem Sh.expr→Bool) (i3:Int) (i4:Int) (z0:zj [CP.d Sh.expr]) (a0:Int) (a1:ze):Tr (zmm ⊕ Raw):=
 Tr.br (decide (i4 < a0))
 (Tr.chk (inB i4 (ze.l z0.1).length) (Tr.chk (c a1) (Tr.to (zmm.h3 (IntKind.i64.wrap (i3+g a1)) (IntKind.i64.wrap (i4+1)) z0))))
 (Tr.re (AV.int .i64 i3) [])
def zun (g:Sem Sh.expr→Sem zg) (c:Sem Sh.expr→Bool) (i3:Int) (i4:Int) (z0:zj [CP.d Sh.expr]):Tr (zmm ⊕ Raw):=
 let a0:=(↑(ze.l z0.1).length:Int)
 let a1:=zz ((ze.l z0.1).getD i4.toNat (zl Sh.expr))
 zqs g c i3 i4 z0 a0 a1
theorem zNN (g:Sem Sh.expr→Sem zg) (c:Sem Sh.expr→Bool) (x0:Sem Sh.expr):run (zkL g c) 0 zzP (Func.results Tryz.f139).toList 400 (zq Tryz.f139) (zp (Func.ntmps Tryz.f139) [zx Sh.expr x0] [])=(zBi g c x0).map (lf Tryz.f139 zv0):=by kernel_rfl
def zrF (g:Sem Sh.expr→Sem zg) (c:Sem Sh.expr→Bool):zmm→Tr (zmm ⊕ Raw)
 | .h3 i3 i4 z0=>zun g c i3 i4 z0
theorem zLE (g:Sem Sh.expr→Sem zg) (c:Sem Sh.expr→Bool):∀ s,run (zkL g c) 0 zzP (Func.results Tryz.f139).toList 400 (zA Tryz.f139 (zv0 s).1) (zv0 s).2=(zrF g c s).map (lf Tryz.f139 zv0)
 | .h3 i3 i4 z0=>by kernel_rfl
def zev (o:Option (zo (List.map some [zg]))):Sem zg:=(fun r:zo (List.map some [zg])=>r.1) (o.getD (zad [zg]))
def zwE (g:Sem Sh.expr→Sem zg) (c:Sem Sh.expr→Bool) (x0:Sem Sh.expr):Option (zo (List.map some [zg])):=zaj [zg] (zrF g c) 100000000 (zBi g c x0)
def za6:Nat→Sem Sh.expr→Option (zo (List.map some [zg]))
 | 0=>fun _=>none
 | n+1=>zwE (fun x0=>zev (za6 n x0)) fun x0=>(za6 n x0).isSome
theorem zF2:zF zaS.P 139 Tryz.f139 1:=by refine ⟨?_,?_,?_,?_⟩ <;> kernel_rfl
theorem zNm (g:Sem Sh.expr→Sem zg) (c:Sem Sh.expr→Bool):zB (zkL g c) zaS:=(zB.refl zaS).add _ _
theorem zwF:∀ n,FOk zaS.P zaS.gl 139 (zG [Sh.expr] [zg] (fun x=>(za6 n x.1).isSome) fun x=>(zev (za6 n x.1),()))
 | 0=>zdK ⟨Tryz.f139,zF2.1,zF2.2.1,zF2.2.2.1⟩ (fun _=>rfl)
 | n+1=>zg7 (zNm _ _) <| zae (E:=zkL (fun x0=>zev (za6 n x0)) (fun x0=>(za6 n x0).isSome)) (ks:=[Sh.expr]) (outs:=[zg]) (keep:=zzP) (gas:=400) (n:=100000000) (e:=zv0) (t:=zrF (fun x0=>zev (za6 n x0)) (fun x0=>(za6 n x0).isSome)) (i:=fun x=>zBi (fun x0=>zev (za6 n x0)) (fun x0=>(za6 n x0).isSome) x.1) (zym (zwF n)) zzG (zMr _ _) (fun x=>zNN _ _ x.1) (zLE _ _) (fun _=>by kernel_rfl) (fun _=>by kernel_rfl)
def zq8 (x0:Sem Sh.expr):Option (zo (List.map some [zg])):=za6 16 x0
def zlJ (x0:Sem Sh.expr):Bool:=(zq8 x0).isSome
def zov (x0:Sem Sh.expr):Sem zg:=zev (zq8 x0)
def zJ2:zJ:=zG [Sh.expr] [zg] (fun x=>zlJ x.1) fun x=>(zov x.1,())
theorem zJb:FOk zaS.P zaS.gl 139 zJ2:=zwF 16

def zaH:Env:=((((((zaS.add 101 zKF).add 142 zKG).add 185 zJ9).add 42 zSz).add 77 zQw).add 139 zJ2)
theorem zeR:zi zaH:=(zi.addS (zi.addS (zi.addS (zi.addS (zi.addS (zi.addS zeN (zB.refl zaS) zIq) ((zB.refl zaS).add _ _) zHT) (((zB.refl zaS).add _ _).add _ _) zIN) ((((zB.refl zaS).add _ _).add _ _).add _ _) zM8) (((((zB.refl zaS).add _ _).add _ _).add _ _).add _ _) zNy) ((((((zB.refl zaS).add _ _).add _ _).add _ _).add _ _).add _ _) zJb)
theorem zeS:zaH.P.follows .mixedOrders=true:=(zm (zm (zm (zm (zm (zm zeG _ _) _ _) _ _) _ _) _ _) _ _)
end
open Go Go.Proofs
noncomputable section
set_option maxHeartbeats 4000000

abbrev zHa:Nat→zQ:=fun _=>{ }
theorem zN8:zF zaH.P 104 Tryz.f104 1:=by refine ⟨?_,?_,?_,?_⟩ <;> kernel_rfl
def zz4 (x0:Sem zf):Tr (Empty ⊕ Raw):=
 Tr.chk (ziJ x0)
 (Tr.br (zn1 x0) (Tr.re (AV.agg [AV.int .i64 x0.1,AV.int .i64 x0.2.1,AV.str x0.2.2]) [])
  (Tr.re (AV.agg [AV.int .i64 0,AV.int .i64 0,AV.str []]) []))
theorem zPo (x0:Sem zf):run zaH 0 zHa (Func.results Tryz.f104).toList 400 (zq Tryz.f104) (zp (Func.ntmps Tryz.f104) [zx zf x0] [])=(zz4 x0).map (lf Tryz.f104 e0):=by kernel_rfl
def zo3 (x0:Sem zf):Option (zo (List.map some [zf])):=zaj [zf] t0 100000000 (zz4 x0)
def zhN (x0:Sem zf):Bool:=(zo3 x0).isSome
def zcD (x0:Sem zf):Sem zf:=(fun r:zo (List.map some [zf])=>r.1) ((zo3 x0).getD (zad [zf]))
def zKd:zJ:=zG [zf] [zf] (fun x=>zhN x.1) fun x=>(zcD x.1,())
theorem zHA:FOk zaH.P zaH.gl 104 zKd:=zae (ks:=[zf]) (outs:=[zf]) (keep:=zHa) (gas:=400) (n:=100000000) (e:=e0) (t:=t0) (i:=fun x=>zz4 x.1) zeR zeS zN8 (fun x=>zPo x.1) (on0 _ _ _ _ _) (fun _=>by kernel_rfl) (fun _=>by kernel_rfl)

abbrev zDm:Nat→zQ:=fun _=>{ }
theorem zMG:zF zaH.P 102 Tryz.f102 2:=by refine ⟨?_,?_,?_,?_⟩ <;> kernel_rfl
def zAM (x0:Sem zf) (x1:Sem Sh.bool):Tr (Empty ⊕ Raw):=
 Tr.chk (zfo x1) (Tr.re (AV.bool (x0.1==(zap x1).1&&(x0.2.1==(zap x1).2.1&&(x0.2.2==(zap x1).2.2&&true)))) [])
theorem zMm (x0:Sem zf) (x1:Sem Sh.bool):run zaH 0 zDm (Func.results Tryz.f102).toList 400 (zq Tryz.f102) (zp (Func.ntmps Tryz.f102) [zx zf x0,zx Sh.bool x1] [])=(zAM x0 x1).map (lf Tryz.f102 e0):=by kernel_rfl
def zBa (x0:Sem zf) (x1:Sem Sh.bool):Option (zo (List.map some [Sh.bool])):=zaj [Sh.bool] t0 100000000 (zAM x0 x1)
def zgz (x0:Sem zf) (x1:Sem Sh.bool):Bool:=(zBa x0 x1).isSome
def zio (x0:Sem zf) (x1:Sem Sh.bool):Sem Sh.bool:=(fun r:zo (List.map some [Sh.bool])=>r.1) ((zBa x0 x1).getD (zad [Sh.bool]))
def zKP:zJ:=zG [zf,Sh.bool] [Sh.bool] (fun x=>zgz x.1 x.2.1) fun x=>(zio x.1 x.2.1,())
theorem zHK:FOk zaH.P zaH.gl 102 zKP:=zae (ks:=[zf,Sh.bool]) (outs:=[Sh.bool]) (keep:=zDm) (gas:=400) (n:=100000000) (e:=e0) (t:=t0) (i:=fun x=>zAM x.1 x.2.1) zeR zeS zMG (fun x=>zMm x.1 x.2.1) (on0 _ _ _ _ _) (fun _=>by kernel_rfl) (fun _=>by kernel_rfl)

def znt (g:Sem Sh.expr→Sem zg→Sem Sh.bool) (c:Sem Sh.expr→Sem zg→Bool):Env:=zaH.add 138 (zG [Sh.expr,zg] [Sh.bool] (fun x=>c x.1 x.2.1) fun x=>(g x.1 x.2.1,()))
theorem zyi {g:Sem Sh.expr→Sem zg→Sem Sh.bool} {c:Sem Sh.expr→Sem zg→Bool} (hg:FOk zaH.P zaH.gl 138 (zG [Sh.expr,zg] [Sh.bool] (fun x=>c x.1 x.2.1) fun x=>(g x.1 x.2.1,()))):zi (znt g c):=zeR.add hg
theorem zzJ {g:Sem Sh.expr→Sem zg→Sem Sh.bool} {c:Sem Sh.expr→Sem zg→Bool}:(znt g c).P.follows .mixedOrders=true:=zm zeS _ _
abbrev zHc:Nat→zQ:=fun _=>{ }
theorem zMY (g:Sem Sh.expr→Sem zg→Sem Sh.bool) (c:Sem Sh.expr→Sem zg→Bool):zF (znt g c).P 138 Tryz.f138 2:=by refine ⟨?_,?_,?_,?_⟩ <;> kernel_rfl
def zGL (g:Sem Sh.expr→Sem zg→Sem Sh.bool) (c:Sem Sh.expr→Sem zg→Bool) (x0:Sem Sh.expr) (x1:Sem zg) (a0:Bool) (a1:Bool) (a2:Bool) (a3:Bool) (_:ze) (a5:Int) (a6:Bool) (a7:Sem Sh.bool) (a8:Bool) (a9:ze):Tr (Empty ⊕ Raw):=
 Tr.br (x1==0) (Tr.re (AV.kb false) [])
 (Tr.br (ze.op x0==[108,105,116])
  (Tr.chk (ziJ (ze.v x0)) (Tr.re (AV.bool (bif zn1 (ze.v x0) then bif ze.s x0==[] then a0 else false else false)) []))
  (Tr.br (ze.op x0==[99,111,108]) (Tr.chk (bif a1 then zjz (ze.s x0)&&bif ziU (ze.s x0) then zm2 (ze.s x0) else true else true) (Tr.re (AV.bool (bif a1 then bif ziU (ze.s x0) then bif !zsW (ze.s x0) then a0 else false else false else false)) [])) (Tr.br (bif ze.op x0==[110,111,116] then true else ze.op x0==[110,117,108,108])
  (Tr.chk (bif a1 then bif ze.s x0==[] then bif a2 then a3&&a6 else true else true else true) (Tr.re (AV.bool (bif a1 then bif ze.s x0==[] then bif a2 then a7 else false else false else false)) [])) (Tr.chk (ztY (ze.op x0)) (Tr.br (zz7 (ze.op x0)) (Tr.chk
  (bif a1 then bif ze.s x0==[] then bif a8 then a3&&(a6&&bif a7 then inB 1 (ze.l x0).length&&c a9 a5 else true) else true else true else true) (Tr.re (AV.bool (bif a1 then bif ze.s x0==[] then bif a8 then bif a7 then g a9 a5 else false else false else false else false)) [])) (Tr.re (AV.kb false) []))))))
def zAW (g:Sem Sh.expr→Sem zg→Sem Sh.bool) (c:Sem Sh.expr→Sem zg→Bool) (x0:Sem Sh.expr) (x1:Sem zg):Tr (Empty ⊕ Raw):=
 let a0:=(↑(ze.l x0).length:Int)==0
 let a1:=(ze.v x0).1==0&&((ze.v x0).2.1==0&&((ze.v x0).2.2==[]&&true))
 let a2:=(↑(ze.l x0).length:Int)==1
 let a3:=inB 0 (ze.l x0).length
 let a4:=zz ((ze.l x0).getD (Int.toNat 0) (zl Sh.expr))
 let a5:=IntKind.i64.wrap (x1 - 1)
 let a6:=c a4 a5
 let a7:=g a4 a5
 let a8:=(↑(ze.l x0).length:Int)==2
 let a9:=zz ((ze.l x0).getD (Int.toNat 1) (zl Sh.expr))
 zGL g c x0 x1 a0 a1 a2 a3 a4 a5 a6 a7 a8 a9
theorem zL5 (g:Sem Sh.expr→Sem zg→Sem Sh.bool) (c:Sem Sh.expr→Sem zg→Bool) (x0:Sem Sh.expr) (x1:Sem zg):run (znt g c) 0 zHc (Func.results Tryz.f138).toList 400 (zq Tryz.f138) (zp (Func.ntmps Tryz.f138) [zx Sh.expr x0,zx zg x1] [])=(zAW g c x0 x1).map (lf Tryz.f138 e0):=by kernel_rfl
def zh7 (o:Option (zo (List.map some [Sh.bool]))):Sem Sh.bool:=(fun r:zo (List.map some [Sh.bool])=>r.1) (o.getD (zad [Sh.bool]))
def zvS (g:Sem Sh.expr→Sem zg→Sem Sh.bool) (c:Sem Sh.expr→Sem zg→Bool) (x0:Sem Sh.expr) (x1:Sem zg):Option (zo (List.map some [Sh.bool])):=zaj [Sh.bool] t0 100000000 (zAW g c x0 x1)
def zdq:Nat→Sem Sh.expr→Sem zg→Option (zo (List.map some [Sh.bool]))
 | 0=>fun _ _=>none
 | n+1=>zvS (fun x0 x1=>zh7 (zdq n x0 x1)) fun x0 x1=>(zdq n x0 x1).isSome
theorem zGN:zF zaH.P 138 Tryz.f138 2:=by refine ⟨?_,?_,?_,?_⟩ <;> kernel_rfl
theorem zNL (g:Sem Sh.expr→Sem zg→Sem Sh.bool) (c:Sem Sh.expr→Sem zg→Bool):zB (znt g c) zaH:=(zB.refl zaH).add _ _
theorem zw7:∀ n,FOk zaH.P zaH.gl 138 (zG [Sh.expr,zg] [Sh.bool] (fun x=>(zdq n x.1 x.2.1).isSome) fun x=>(zh7 (zdq n x.1 x.2.1),()))
 | 0=>zdK ⟨Tryz.f138,zGN.1,zGN.2.1,zGN.2.2.1⟩ (fun _=>rfl)
 | n+1=>zg7 (zNL _ _) <| zae (E:=znt (fun x0 x1=>zh7 (zdq n x0 x1)) (fun x0 x1=>(zdq n x0 x1).isSome)) (ks:=[Sh.expr,zg]) (outs:=[Sh.bool]) (keep:=zHc) (gas:=400) (n:=100000000) (e:=e0) (t:=t0) (i:=fun x=>zAW (fun x0 x1=>zh7 (zdq n x0 x1)) (fun x0 x1=>(zdq n x0 x1).isSome) x.1 x.2.1) (zyi (zw7 n)) zzJ (zMY _ _) (fun x=>zL5 _ _ x.1 x.2.1) (on0 _ _ _ _ _) (fun _=>by kernel_rfl) (fun _=>by kernel_rfl)
def ztN (x0:Sem Sh.expr) (x1:Sem zg):Option (zo (List.map some [Sh.bool])):=zdq 16 x0 x1
def zoq (x0:Sem Sh.expr) (x1:Sem zg):Bool:=(ztN x0 x1).isSome
def ztM (x0:Sem Sh.expr) (x1:Sem zg):Sem Sh.bool:=zh7 (ztN x0 x1)
def zLb:zJ:=zG [Sh.expr,zg] [Sh.bool] (fun x=>zoq x.1 x.2.1) fun x=>(ztM x.1 x.2.1,())
theorem zIF:FOk zaH.P zaH.gl 138 zLb:=zw7 16

def zrj (g:Sem Sh.expr→Sem (Sh.sl zh)→Sem zg×Sem zg) (c:Sem Sh.expr→Sem (Sh.sl zh)→Bool):Env:=zaH.add 84 (zG [Sh.expr,Sh.sl zh] [zg,zg] (fun x=>c x.1 x.2.1) fun x=>((g x.1 x.2.1).1,(g x.1 x.2.1).2,()))
theorem zC0 {g:Sem Sh.expr→Sem (Sh.sl zh)→Sem zg×Sem zg} {c:Sem Sh.expr→Sem (Sh.sl zh)→Bool} (hg:FOk zaH.P zaH.gl 84 (zG [Sh.expr,Sh.sl zh] [zg,zg] (fun x=>c x.1 x.2.1) fun x=>((g x.1 x.2.1).1,(g x.1 x.2.1).2,()))):zi (zrj g c):=zeR.add hg
theorem zB1 {g:Sem Sh.expr→Sem (Sh.sl zh)→Sem zg×Sem zg} {c:Sem Sh.expr→Sem (Sh.sl zh)→Bool}:(zrj g c).P.follows .mixedOrders=true:=zm zeS _ _
abbrev zFA:Nat→zQ:=fun j=>if j=5 then { slots:=[1,2,6] } else { }
inductive zuz where
 | h5 (l1:LC) (i6:Int) (z0:zj [CP.d Sh.expr])
abbrev zFo:zuz→Nat×St
 | .h5 l1 i6 z0=>(5,⟨tm 116 [(1,AV.sl zh l1),(2,AV.ptr 0 0),(6,AV.int .i64 i6)],[AO.box (cpN [] [CP.d Sh.expr] z0)]⟩)
theorem zRd (g:Sem Sh.expr→Sem zh.sl→Sem zg×Sem zg) (c:Sem Sh.expr→Sem zh.sl→Bool):zF (zrj g c).P 84 Tryz.f84 2:=by refine ⟨?_,?_,?_,?_⟩ <;> kernel_rfl
def zTs (_:Sem Sh.expr→Sem zh.sl→Sem zg×Sem zg) (c:Sem Sh.expr→Sem zh.sl→Bool) (x0:Sem Sh.expr) (x1:Sem zh.sl) (a0:ze) (a1:Sem zg×Sem zg) (a2:ze) (a3:Sem zg×Sem zg) (a4:Bool) (a5:Bool) (a6:Bool) (a7:Bool) (a8:Bool) (a9:Bool) (a10:Bool) (a11:Bool) (a12:Bool) (a13:Bool) (a14:Bool) (a15:Bool) (a16:Bool):Tr (zuz ⊕ Raw):=
 Tr.br (ze.op x0==[108,105,116]) (Tr.re (AV.tup [AV.int .i64 (ze.v x0).1,AV.int .i64 0]) [])
 (Tr.br (ze.op x0==[99,111,108]) (Tr.to (zuz.h5 x1 0 (x0,())))
  (Tr.chk (inB 0 (ze.l x0).length) (Tr.chk (c a0 x1) (Tr.br (a1.2 != 0) (Tr.re (AV.tup [AV.int .i64 0,AV.int .i64 a1.2]) []) (Tr.br ((↑(ze.l x0).length:Int)==2) (Tr.chk (inB 1 (ze.l x0).length) (Tr.chk (c a2 x1) (Tr.br (a3.2 != 0) (Tr.re (AV.tup [AV.int .i64 0,AV.int .i64 a3.2]) []) (Tr.br a4 (Tr.re (AV.tup [AV.int .i64 3,AV.int .i64 0]) []) (Tr.br a5
  (Tr.br (bif a6 then bif a7 then a1.1 != a3.1 else false else false) (Tr.re (AV.tup [AV.int .i64 0,AV.int .i64 5]) []) (Tr.re (AV.tup [AV.int .i64 3,AV.int .i64 0]) [])) (Tr.br a8 (Tr.br (bif a6 then bif a7 then a1.1 != a3.1 else false else false) (Tr.re (AV.tup [AV.int .i64 0,AV.int .i64 5]) []) (Tr.re (AV.tup [AV.int .i64 3,AV.int .i64 0]) [])) (Tr.br a9
  (Tr.br (bif a6 then bif a10 then true else a11 else a11) (Tr.re (AV.tup [AV.int .i64 0,AV.int .i64 5]) []) (Tr.re (AV.tup [AV.int .i64 1,AV.int .i64 0]) [])) (Tr.br a12 (Tr.br (bif a6 then bif a10 then true else a11 else a11) (Tr.re (AV.tup [AV.int .i64 0,AV.int .i64 5]) []) (Tr.re (AV.tup [AV.int .i64 1,AV.int .i64 0]) []))
  (Tr.br (bif a6 then bif a13 then true else a14 else a14) (Tr.re (AV.tup [AV.int .i64 0,AV.int .i64 5]) []) (Tr.re (AV.tup [AV.int .i64 3,AV.int .i64 0]) [])))))))))) (Tr.br a4 (Tr.re (AV.tup [AV.int .i64 3,AV.int .i64 0]) []) (Tr.br a5 (Tr.br (bif a6 then bif a6 then a1.1 != a1.1 else false else false) (Tr.re (AV.tup [AV.int .i64 0,AV.int .i64 5]) [])
  (Tr.re (AV.tup [AV.int .i64 3,AV.int .i64 0]) [])) (Tr.br a8 (Tr.br (bif a6 then bif a6 then a1.1 != a1.1 else false else false) (Tr.re (AV.tup [AV.int .i64 0,AV.int .i64 5]) []) (Tr.re (AV.tup [AV.int .i64 3,AV.int .i64 0]) [])) (Tr.br a9 (Tr.br (bif a6 then bif a10 then true else a15 else a15) (Tr.re (AV.tup [AV.int .i64 0,AV.int .i64 5]) [])
  (Tr.re (AV.tup [AV.int .i64 1,AV.int .i64 0]) [])) (Tr.br a12 (Tr.br (bif a6 then bif a10 then true else a15 else a15) (Tr.re (AV.tup [AV.int .i64 0,AV.int .i64 5]) []) (Tr.re (AV.tup [AV.int .i64 1,AV.int .i64 0]) [])) (Tr.br (bif a6 then bif a13 then true else a16 else a16) (Tr.re (AV.tup [AV.int .i64 0,AV.int .i64 5]) []) (Tr.re (AV.tup [AV.int .i64 3,AV.int .i64 0]) []))))))))))))
def zrJ (g:Sem Sh.expr→Sem zh.sl→Sem zg×Sem zg) (c:Sem Sh.expr→Sem zh.sl→Bool) (x0:Sem Sh.expr) (x1:Sem zh.sl):Tr (zuz ⊕ Raw):=
 let a0:=zz ((ze.l x0).getD (Int.toNat 0) (zl Sh.expr))
 let a1:=g a0 x1
 let a2:=zz ((ze.l x0).getD (Int.toNat 1) (zl Sh.expr))
 let a3:=g a2 x1
 let a4:=ze.op x0==[110,117,108,108]
 let a5:=ze.op x0==[61]
 let a6:=a1.1 != 0
 let a7:=a3.1 != 0
 let a8:=ze.op x0==[60]
 let a9:=ze.op x0==[43]
 let a10:=a1.1 != 1
 let a11:=bif a7 then a3.1 != 1 else false
 let a12:=ze.op x0==[45]
 let a13:=a1.1 != 3
 let a14:=bif a7 then a3.1 != 3 else false
 let a15:=bif a6 then a10 else false
 let a16:=bif a6 then a13 else false
 zTs g c x0 x1 a0 a1 a2 a3 a4 a5 a6 a7 a8 a9 a10 a11 a12 a13 a14 a15 a16
def zur (_:Sem Sh.expr→Sem zh.sl→Sem zg×Sem zg) (_:Sem Sh.expr→Sem zh.sl→Bool) (l1:LC) (i6:Int) (z0:zj [CP.d Sh.expr]) (a0:Sem zh):Tr (zuz ⊕ Raw):=
 Tr.br (decide (i6 < (↑l1.length:Int)))
 (Tr.chk (inB i6 l1.length)
  (Tr.br (a0.1==ze.s z0.1) (Tr.chk (inB i6 l1.length) (Tr.re (AV.tup [AV.int .i64 a0.2.1,AV.int .i64 0]) [])) (Tr.to (zuz.h5 l1 (IntKind.i64.wrap (i6+1)) z0))))
 (Tr.re (AV.tup [AV.int .i64 0,AV.int .i64 4]) [])
def zzA (g:Sem Sh.expr→Sem zh.sl→Sem zg×Sem zg) (c:Sem Sh.expr→Sem zh.sl→Bool) (l1:LC) (i6:Int) (z0:zj [CP.d Sh.expr]):Tr (zuz ⊕ Raw):=
 let a0:=l1.getD i6.toNat (zl zh)
 zur g c l1 i6 z0 a0
theorem zS4 (g:Sem Sh.expr→Sem zh.sl→Sem zg×Sem zg) (c:Sem Sh.expr→Sem zh.sl→Bool) (x0:Sem Sh.expr) (x1:Sem zh.sl):run (zrj g c) 0 zFA (Func.results Tryz.f84).toList 400 (zq Tryz.f84) (zp (Func.ntmps Tryz.f84) [zx Sh.expr x0,zx zh.sl x1] [])=(zrJ g c x0 x1).map (lf Tryz.f84 zFo):=by kernel_rfl
def zxB (g:Sem Sh.expr→Sem zh.sl→Sem zg×Sem zg) (c:Sem Sh.expr→Sem zh.sl→Bool):zuz→Tr (zuz ⊕ Raw)
 | .h5 l1 i6 z0=>zzA g c l1 i6 z0
theorem zTX (g:Sem Sh.expr→Sem zh.sl→Sem zg×Sem zg) (c:Sem Sh.expr→Sem zh.sl→Bool):∀ s,run (zrj g c) 0 zFA (Func.results Tryz.f84).toList 400 (zA Tryz.f84 (zFo s).1) (zFo s).2=(zxB g c s).map (lf Tryz.f84 zFo)
 | .h5 l1 i6 z0=>by kernel_rfl
def zdm (o:Option (zo (List.map some [zg,zg]))):Sem zg×Sem zg:=(fun r:zo (List.map some [zg,zg])=>(r.1,r.2.1)) (o.getD (zad [zg,zg]))
def zAA (g:Sem Sh.expr→Sem zh.sl→Sem zg×Sem zg) (c:Sem Sh.expr→Sem zh.sl→Bool) (x0:Sem Sh.expr) (x1:Sem zh.sl):Option (zo (List.map some [zg,zg])):=zaj [zg,zg] (zxB g c) 100000000 (zrJ g c x0 x1)
def za0:Nat→Sem Sh.expr→Sem zh.sl→Option (zo (List.map some [zg,zg]))
 | 0=>fun _ _=>none
 | n+1=>zAA (fun x0 x1=>zdm (za0 n x0 x1)) fun x0 x1=>(za0 n x0 x1).isSome
theorem zO4:zF zaH.P 84 Tryz.f84 2:=by refine ⟨?_,?_,?_,?_⟩ <;> kernel_rfl
theorem zPW (g:Sem Sh.expr→Sem zh.sl→Sem zg×Sem zg) (c:Sem Sh.expr→Sem zh.sl→Bool):zB (zrj g c) zaH:=(zB.refl zaH).add _ _
theorem zAK:∀ n,FOk zaH.P zaH.gl 84 (zG [Sh.expr,zh.sl] [zg,zg] (fun x=>(za0 n x.1 x.2.1).isSome) fun x=>((zdm (za0 n x.1 x.2.1)).1,(zdm (za0 n x.1 x.2.1)).2,()))
 | 0=>zdK ⟨Tryz.f84,zO4.1,zO4.2.1,zO4.2.2.1⟩ (fun _=>rfl)
 | n+1=>zg7 (zPW _ _) <| zae (E:=zrj (fun x0 x1=>zdm (za0 n x0 x1)) (fun x0 x1=>(za0 n x0 x1).isSome)) (ks:=[Sh.expr,zh.sl]) (outs:=[zg,zg]) (keep:=zFA) (gas:=400) (n:=100000000) (e:=zFo) (t:=zxB (fun x0 x1=>zdm (za0 n x0 x1)) (fun x0 x1=>(za0 n x0 x1).isSome)) (i:=fun x=>zrJ (fun x0 x1=>zdm (za0 n x0 x1)) (fun x0 x1=>(za0 n x0 x1).isSome) x.1 x.2.1) (zC0 (zAK n)) zB1 (zRd _ _) (fun x=>zS4 _ _ x.1 x.2.1) (zTX _ _) (fun _=>by kernel_rfl) (fun _=>by kernel_rfl)
def zoH (x0:Sem Sh.expr) (x1:Sem zh.sl):Option (zo (List.map some [zg,zg])):=za0 16 x0 x1
def zow (x0:Sem Sh.expr) (x1:Sem zh.sl):Bool:=(zoH x0 x1).isSome
def zi6 (x0:Sem Sh.expr) (x1:Sem zh.sl):Sem zg×Sem zg:=zdm (zoH x0 x1)
def zQQ:zJ:=zG [Sh.expr,zh.sl] [zg,zg] (fun x=>zow x.1 x.2.1) fun x=>((zi6 x.1 x.2.1).1,(zi6 x.1 x.2.1).2,())
theorem zOF:FOk zaH.P zaH.gl 84 zQQ:=zAK 16

abbrev zHt:Nat→zQ:=fun j=>if j=4 then { slots:=[2,3,5] } else if j=9 then { slots:=[2,3,6] } else if j=14 then { slots:=[2,3,7] } else { }
inductive zjY where
 | h4 (i5:Int) (z0:zj [CP.d zn]) (z1:zj [CP.d zn])
 | h9 (i6:Int) (z0:zj [CP.d zn]) (z1:zj [CP.d zn])
 | h14 (i7:Int) (z0:zj [CP.d zn]) (z1:zj [CP.d zn])
abbrev zEi:zjY→Nat×St
 | .h4 i5 z0 z1=>(4,⟨tm 106 [(2,AV.ptr 0 0),(3,AV.ptr 1 0),(5,AV.int .i64 i5)],[AO.box (cpN [] [CP.d zn] z0),AO.box (cpN [] [CP.d zn] z1)]⟩)
 | .h9 i6 z0 z1=>(9,⟨tm 106 [(2,AV.ptr 0 0),(3,AV.ptr 1 0),(6,AV.int .i64 i6)],[AO.box (cpN [] [CP.d zn] z0),AO.box (cpN [] [CP.d zn] z1)]⟩)
 | .h14 i7 z0 z1=>(14,⟨tm 106 [(2,AV.ptr 0 0),(3,AV.ptr 1 0),(7,AV.int .i64 i7)],[AO.box (cpN [] [CP.d zn] z0),AO.box (cpN [] [CP.d zn] z1)]⟩)
theorem zUG:zF zaH.P 38 Tryz.f38 2:=by refine ⟨?_,?_,?_,?_⟩ <;> kernel_rfl
def zEH (x0:Sem zn) (x1:Sem zn):Tr (zjY ⊕ Raw):=
 Tr.br
 (bif !x0.1==x1.1 then true
 else
  bif x0.2.2.1 != x1.2.2.1 then true
  else bif (↑(List.length x0.2.1):Int) != (↑(List.length x1.2.1):Int) then true else bif (↑(List.length x0.2.2.2.1):Int) != (↑(List.length x1.2.2.2.1):Int) then true else (↑(List.length x0.2.2.2.2.1):Int) != (↑(List.length x1.2.2.2.2.1):Int))
 (Tr.re (AV.kb false) []) (Tr.to (zjY.h4 0 (x0,()) (x1,())))
def zuu (i5:Int) (z0:zj [CP.d zn]) (z1:zj [CP.d zn]) (a0:Int) (a1:Sem zh) (a2:Sem zh):Tr (zjY ⊕ Raw):=
 Tr.br (decide (i5 < a0))
 (Tr.chk (inB i5 (List.length z0.1.2.1))
  (Tr.chk (inB i5 (List.length z1.1.2.1)) (Tr.br (!(a1.1==a2.1&&(a1.2.1==a2.2.1&&(a1.2.2==a2.2.2&&true)))) (Tr.re (AV.kb false) []) (Tr.to (zjY.h4 (IntKind.i64.wrap (i5+1)) z0 z1)))))
 (Tr.to (zjY.h9 0 z0 z1))
def zzl (i5:Int) (z0:zj [CP.d zn]) (z1:zj [CP.d zn]):Tr (zjY ⊕ Raw):=
 let a0:=(↑(List.length z0.1.2.1):Int)
 let a1:=List.getD z0.1.2.1 i5.toNat (zl zh)
 let a2:=List.getD z1.1.2.1 i5.toNat (zl zh)
 zuu i5 z0 z1 a0 a1 a2
def zvx (i6:Int) (z0:zj [CP.d zn]) (z1:zj [CP.d zn]) (a0:Int):Tr (zjY ⊕ Raw):=
 Tr.br (decide (i6 < a0))
 (Tr.chk (inB i6 (List.length z0.1.2.2.2.1))
  (Tr.chk (inB i6 (List.length z1.1.2.2.2.1)) (Tr.br (List.getD z0.1.2.2.2.1 i6.toNat (zl zg) != List.getD z1.1.2.2.2.1 i6.toNat (zl zg)) (Tr.re (AV.kb false) []) (Tr.to (zjY.h9 (IntKind.i64.wrap (i6+1)) z0 z1)))))
 (Tr.to (zjY.h14 0 z0 z1))
def zzx (i6:Int) (z0:zj [CP.d zn]) (z1:zj [CP.d zn]):Tr (zjY ⊕ Raw):=
 let a0:=(↑(List.length z0.1.2.2.2.1):Int)
 zvx i6 z0 z1 a0
def zqU (i7:Int) (z0:zj [CP.d zn]) (z1:zj [CP.d zn]) (a0:Int) (a1:Sem zt) (a2:Sem zt) (a3:ze) (a4:ze):Tr (zjY ⊕ Raw):=
 Tr.br (decide (i7 < a0))
 (Tr.chk (inB i7 (List.length z0.1.2.2.2.2.1))
  (Tr.chk (inB i7 (List.length z1.1.2.2.2.2.1)) (Tr.br (!(a1.1==a2.1&&(a1.2==a2.2&&true))) (Tr.re (AV.kb false) []) (Tr.to (zjY.h14 (IntKind.i64.wrap (i7+1)) z0 z1)))))
 (Tr.chk (zh8 a3 a4) (Tr.re (AV.bool (zkB a3 a4)) []))
def zvK (i7:Int) (z0:zj [CP.d zn]) (z1:zj [CP.d zn]):Tr (zjY ⊕ Raw):=
 let a0:=(↑(List.length z0.1.2.2.2.2.1):Int)
 let a1:=List.getD z0.1.2.2.2.2.1 i7.toNat (zl zt)
 let a2:=List.getD z1.1.2.2.2.2.1 i7.toNat (zl zt)
 let a3:=zz z0.1.2.2.2.2.2
 let a4:=zz z1.1.2.2.2.2.2
 zqU i7 z0 z1 a0 a1 a2 a3 a4
theorem zWb (x0:Sem zn) (x1:Sem zn):run zaH 0 zHt (Func.results Tryz.f38).toList 400 (zq Tryz.f38) (zp (Func.ntmps Tryz.f38) [zx zn x0,zx zn x1] [])=(zEH x0 x1).map (lf Tryz.f38 zEi):=by kernel_rfl
def zkT:zjY→Tr (zjY ⊕ Raw)
 | .h4 i5 z0 z1=>zzl i5 z0 z1
 | .h9 i6 z0 z1=>zzx i6 z0 z1
 | .h14 i7 z0 z1=>zvK i7 z0 z1
theorem zQP:∀ s,run zaH 0 zHt (Func.results Tryz.f38).toList 400 (zA Tryz.f38 (zEi s).1) (zEi s).2=(zkT s).map (lf Tryz.f38 zEi)
 | .h4 i5 z0 z1=>by kernel_rfl
 | .h9 i6 z0 z1=>by kernel_rfl
 | .h14 i7 z0 z1=>by kernel_rfl
def zuG (x0:Sem zn) (x1:Sem zn):Option (zo (List.map some [Sh.bool])):=zaj [Sh.bool] zkT 100000000 (zEH x0 x1)
def zoF (x0:Sem zn) (x1:Sem zn):Bool:=(zuG x0 x1).isSome
def zvQ (x0:Sem zn) (x1:Sem zn):Sem Sh.bool:=(fun r:zo (List.map some [Sh.bool])=>r.1) ((zuG x0 x1).getD (zad [Sh.bool]))
def zVD:zJ:=zG [zn,zn] [Sh.bool] (fun x=>zoF x.1 x.2.1) fun x=>(zvQ x.1 x.2.1,())
theorem zNE:FOk zaH.P zaH.gl 38 zVD:=zae (ks:=[zn,zn]) (outs:=[Sh.bool]) (keep:=zHt) (gas:=400) (n:=100000000) (e:=zEi) (t:=zkT) (i:=fun x=>zEH x.1 x.2.1) zeR zeS zUG (fun x=>zWb x.1 x.2.1) zQP (fun _=>by kernel_rfl) (fun _=>by kernel_rfl)

def zaK:Env:=(((((zaH.add 104 zKd).add 102 zKP).add 138 zLb).add 84 zQQ).add 38 zVD)
theorem zdc:zi zaK:=(zi.addS (zi.addS (zi.addS (zi.addS (zi.addS zeR (zB.refl zaH) zHA) ((zB.refl zaH).add _ _) zHK) (((zB.refl zaH).add _ _).add _ _) zIF) ((((zB.refl zaH).add _ _).add _ _).add _ _) zOF) (((((zB.refl zaH).add _ _).add _ _).add _ _).add _ _) zNE)
theorem zc3:zaK.P.follows .mixedOrders=true:=(zm (zm (zm (zm (zm zeS _ _) _ _) _ _) _ _) _ _)
end
open Go Go.Proofs
noncomputable section
set_option maxHeartbeats 4000000

abbrev zLn:Nat→zQ:=fun _=>{ }
theorem zPP:zF zaK.P 62 Tryz.f62 2:=by refine ⟨?_,?_,?_,?_⟩ <;> kernel_rfl
def zKz (x0:Sem zf) (x1:Sem zf) (a0:Bool) (a1:Bool):Tr (Empty ⊕ Raw):=
 Tr.chk (zhN x0)
 (Tr.chk (zhN x1)
  (Tr.br (a0&&(a1&&((zcD x0).2.2==(zcD x1).2.2&&true))) (Tr.re (AV.int .i64 0) []) (Tr.br (bif decide ((zcD x0).1 < (zcD x1).1) then true else bif a0 then bif decide ((zcD x0).2.1 < (zcD x1).2.1) then true else bif a1 then Op.bytesLess (zcD x0).2.2 (zcD x1).2.2 else false else false) (Tr.re (AV.int .i64 (-1)) []) (Tr.re (AV.int .i64 1) []))))
def zHB (x0:Sem zf) (x1:Sem zf):Tr (Empty ⊕ Raw):=
 let a0:=(zcD x0).1==(zcD x1).1
 let a1:=(zcD x0).2.1==(zcD x1).2.1
 zKz x0 x1 a0 a1
theorem zUH (x0:Sem zf) (x1:Sem zf):run zaK 0 zLn (Func.results Tryz.f62).toList 400 (zq Tryz.f62) (zp (Func.ntmps Tryz.f62) [zx zf x0,zx zf x1] [])=(zHB x0 x1).map (lf Tryz.f62 e0):=by kernel_rfl
def zlI (x0:Sem zf) (x1:Sem zf):Option (zo (List.map some [zg])):=zaj [zg] t0 100000000 (zHB x0 x1)
def zk1 (x0:Sem zf) (x1:Sem zf):Bool:=(zlI x0 x1).isSome
def zo4 (x0:Sem zf) (x1:Sem zf):Sem zg:=(fun r:zo (List.map some [zg])=>r.1) ((zlI x0 x1).getD (zad [zg]))
def zWa:zJ:=zG [zf,zf] [zg] (fun x=>zk1 x.1 x.2.1) fun x=>(zo4 x.1 x.2.1,())
theorem zM3:FOk zaK.P zaK.gl 62 zWa:=zae (ks:=[zf,zf]) (outs:=[zg]) (keep:=zLn) (gas:=400) (n:=100000000) (e:=e0) (t:=t0) (i:=fun x=>zHB x.1 x.2.1) zdc zc3 zPP (fun x=>zUH x.1 x.2.1) (on0 _ _ _ _ _) (fun _=>by kernel_rfl) (fun _=>by kernel_rfl)

abbrev zEl:Nat→zQ:=fun _=>{ }
theorem zLC:zF zaK.P 189 Tryz.f189 2:=by refine ⟨?_,?_,?_,?_⟩ <;> kernel_rfl
def zA0 (x0:Sem zf) (x1:Sem zf):Tr (Empty ⊕ Raw):=
 Tr.chk (zhN x0)
 (Tr.chk (zhN x1)
  (Tr.re (AV.bool (bif (zcD x0).1==0 then true else bif (zcD x1).1==0 then true else (zcD x0).1 != (zcD x1).1)) []))
theorem zLH (x0:Sem zf) (x1:Sem zf):run zaK 0 zEl (Func.results Tryz.f189).toList 400 (zq Tryz.f189) (zp (Func.ntmps Tryz.f189) [zx zf x0,zx zf x1] [])=(zA0 x0 x1).map (lf Tryz.f189 e0):=by kernel_rfl
def zlQ (x0:Sem zf) (x1:Sem zf):Option (zo (List.map some [Sh.bool])):=zaj [Sh.bool] t0 100000000 (zA0 x0 x1)
def zgg (x0:Sem zf) (x1:Sem zf):Bool:=(zlQ x0 x1).isSome
def zhU (x0:Sem zf) (x1:Sem zf):Sem Sh.bool:=(fun r:zo (List.map some [Sh.bool])=>r.1) ((zlQ x0 x1).getD (zad [Sh.bool]))
def zJU:zJ:=zG [zf,zf] [Sh.bool] (fun x=>zgg x.1 x.2.1) fun x=>(zhU x.1 x.2.1,())
theorem zHC:FOk zaK.P zaK.gl 189 zJU:=zae (ks:=[zf,zf]) (outs:=[Sh.bool]) (keep:=zEl) (gas:=400) (n:=100000000) (e:=e0) (t:=t0) (i:=fun x=>zA0 x.1 x.2.1) zdc zc3 zLC (fun x=>zLH x.1 x.2.1) (on0 _ _ _ _ _) (fun _=>by kernel_rfl) (fun _=>by kernel_rfl)

abbrev zE0:Nat→zQ:=fun _=>{ }
theorem zPn:zF zaK.P 144 Tryz.f144 2:=by refine ⟨?_,?_,?_,?_⟩ <;> kernel_rfl
def zz0 (x0:Sem zf) (x1:Sem zf):Tr (Empty ⊕ Raw):=
 Tr.chk (zgz x0 false&&bif zio x0 false then true else zgz x1 false)
 (Tr.br (bif zio x0 false then true else zio x1 false)
  (Tr.chk true (Tr.re (AV.agg [AV.int .i64 (zap false).1,AV.int .i64 (zap false).2.1,AV.str (zap false).2.2]) []))
  (Tr.chk (zgz x0 true&&bif zio x0 true then zgz x1 true else true) (Tr.br (bif zio x0 true then zio x1 true else false) (Tr.chk true (Tr.re (AV.agg [AV.int .i64 (zap true).1,AV.int .i64 (zap true).2.1,AV.str (zap true).2.2]) [])) (Tr.re (AV.agg [AV.int .i64 0,AV.int .i64 0,AV.str []]) []))))
theorem zLI (x0:Sem zf) (x1:Sem zf):run zaK 0 zE0 (Func.results Tryz.f144).toList 400 (zq Tryz.f144) (zp (Func.ntmps Tryz.f144) [zx zf x0,zx zf x1] [])=(zz0 x0 x1).map (lf Tryz.f144 e0):=by kernel_rfl
def zuS (x0:Sem zf) (x1:Sem zf):Option (zo (List.map some [zf])):=zaj [zf] t0 100000000 (zz0 x0 x1)
def zq3 (x0:Sem zf) (x1:Sem zf):Bool:=(zuS x0 x1).isSome
def zq2 (x0:Sem zf) (x1:Sem zf):Sem zf:=(fun r:zo (List.map some [zf])=>r.1) ((zuS x0 x1).getD (zad [zf]))
def zJ6:zJ:=zG [zf,zf] [zf] (fun x=>zq3 x.1 x.2.1) fun x=>(zq2 x.1 x.2.1,())
theorem zIm:FOk zaK.P zaK.gl 144 zJ6:=zae (ks:=[zf,zf]) (outs:=[zf]) (keep:=zE0) (gas:=400) (n:=100000000) (e:=e0) (t:=t0) (i:=fun x=>zz0 x.1 x.2.1) zdc zc3 zPn (fun x=>zLI x.1 x.2.1) (on0 _ _ _ _ _) (fun _=>by kernel_rfl) (fun _=>by kernel_rfl)

abbrev zHj:Nat→zQ:=fun _=>{ }
theorem zNz:zF zaK.P 145 Tryz.f145 2:=by refine ⟨?_,?_,?_,?_⟩ <;> kernel_rfl
def zBj (x0:Sem zf) (x1:Sem zf):Tr (Empty ⊕ Raw):=
 Tr.chk (zgz x0 true&&bif zio x0 true then true else zgz x1 true)
 (Tr.br (bif zio x0 true then true else zio x1 true)
  (Tr.chk true (Tr.re (AV.agg [AV.int .i64 (zap true).1,AV.int .i64 (zap true).2.1,AV.str (zap true).2.2]) []))
  (Tr.chk (zgz x0 false&&bif zio x0 false then zgz x1 false else true) (Tr.br (bif zio x0 false then zio x1 false else false) (Tr.chk true (Tr.re (AV.agg [AV.int .i64 (zap false).1,AV.int .i64 (zap false).2.1,AV.str (zap false).2.2]) [])) (Tr.re (AV.agg [AV.int .i64 0,AV.int .i64 0,AV.str []]) []))))
theorem zOh (x0:Sem zf) (x1:Sem zf):run zaK 0 zHj (Func.results Tryz.f145).toList 400 (zq Tryz.f145) (zp (Func.ntmps Tryz.f145) [zx zf x0,zx zf x1] [])=(zBj x0 x1).map (lf Tryz.f145 e0):=by kernel_rfl
def zBn (x0:Sem zf) (x1:Sem zf):Option (zo (List.map some [zf])):=zaj [zf] t0 100000000 (zBj x0 x1)
def zxj (x0:Sem zf) (x1:Sem zf):Bool:=(zBn x0 x1).isSome
def zzi (x0:Sem zf) (x1:Sem zf):Sem zf:=(fun r:zo (List.map some [zf])=>r.1) ((zBn x0 x1).getD (zad [zf]))
def zLd:zJ:=zG [zf,zf] [zf] (fun x=>zxj x.1 x.2.1) fun x=>(zzi x.1 x.2.1,())
theorem zHu:FOk zaK.P zaK.gl 145 zLd:=zae (ks:=[zf,zf]) (outs:=[zf]) (keep:=zHj) (gas:=400) (n:=100000000) (e:=e0) (t:=t0) (i:=fun x=>zBj x.1 x.2.1) zdc zc3 zNz (fun x=>zOh x.1 x.2.1) (on0 _ _ _ _ _) (fun _=>by kernel_rfl) (fun _=>by kernel_rfl)

abbrev zEc:Nat→zQ:=fun _=>{ }
theorem zM4:zF zaK.P 143 Tryz.f143 1:=by refine ⟨?_,?_,?_,?_⟩ <;> kernel_rfl
def zBs (x0:Sem zf):Tr (Empty ⊕ Raw):=
 Tr.chk (zgz x0 true)
 (Tr.br (zio x0 true)
  (Tr.chk true (Tr.re (AV.agg [AV.int .i64 (zap false).1,AV.int .i64 (zap false).2.1,AV.str (zap false).2.2]) []))
  (Tr.chk (zgz x0 false) (Tr.br (zio x0 false) (Tr.chk true (Tr.re (AV.agg [AV.int .i64 (zap true).1,AV.int .i64 (zap true).2.1,AV.str (zap true).2.2]) [])) (Tr.re (AV.agg [AV.int .i64 0,AV.int .i64 0,AV.str []]) []))))
theorem zNa (x0:Sem zf):run zaK 0 zEc (Func.results Tryz.f143).toList 400 (zq Tryz.f143) (zp (Func.ntmps Tryz.f143) [zx zf x0] [])=(zBs x0).map (lf Tryz.f143 e0):=by kernel_rfl
def zvd (x0:Sem zf):Option (zo (List.map some [zf])):=zaj [zf] t0 100000000 (zBs x0)
def zrP (x0:Sem zf):Bool:=(zvd x0).isSome
def zpx (x0:Sem zf):Sem zf:=(fun r:zo (List.map some [zf])=>r.1) ((zvd x0).getD (zad [zf]))
def zKI:zJ:=zG [zf] [zf] (fun x=>zrP x.1) fun x=>(zpx x.1,())
theorem zJF:FOk zaK.P zaK.gl 143 zKI:=zae (ks:=[zf]) (outs:=[zf]) (keep:=zEc) (gas:=400) (n:=100000000) (e:=e0) (t:=t0) (i:=fun x=>zBs x.1) zdc zc3 zM4 (fun x=>zNa x.1) (on0 _ _ _ _ _) (fun _=>by kernel_rfl) (fun _=>by kernel_rfl)

abbrev zLv:Nat→zQ:=fun _=>{ }
theorem zUL:zF zaK.P 83 Tryz.f83 1:=by refine ⟨?_,?_,?_,?_⟩ <;> kernel_rfl
def zKb (x0:Sem Sh.expr) (a0:Sem Sh.bool):Tr (Empty ⊕ Raw):=
 Tr.chk (zoq (zz x0) 12&&bif a0 then zlJ (zz x0) else true) (Tr.re (AV.bool (bif a0 then decide (zov (zz x0)≤60) else false)) [])
def zIS (x0:Sem Sh.expr):Tr (Empty ⊕ Raw):=
 let a0:=ztM (zz x0) 12
 zKb x0 a0
theorem zUR (x0:Sem Sh.expr):run zaK 0 zLv (Func.results Tryz.f83).toList 400 (zq Tryz.f83) (zp (Func.ntmps Tryz.f83) [zx Sh.expr x0] [])=(zIS x0).map (lf Tryz.f83 e0):=by kernel_rfl
def zvE (x0:Sem Sh.expr):Option (zo (List.map some [Sh.bool])):=zaj [Sh.bool] t0 100000000 (zIS x0)
def zu8 (x0:Sem Sh.expr):Bool:=(zvE x0).isSome
def zAn (x0:Sem Sh.expr):Sem Sh.bool:=(fun r:zo (List.map some [Sh.bool])=>r.1) ((zvE x0).getD (zad [Sh.bool]))
def zVk:zJ:=zG [Sh.expr] [Sh.bool] (fun x=>zu8 x.1) fun x=>(zAn x.1,())
theorem zOP:FOk zaK.P zaK.gl 83 zVk:=zae (ks:=[Sh.expr]) (outs:=[Sh.bool]) (keep:=zLv) (gas:=400) (n:=100000000) (e:=e0) (t:=t0) (i:=fun x=>zIS x.1) zdc zc3 zUL (fun x=>zUR x.1) (on0 _ _ _ _ _) (fun _=>by kernel_rfl) (fun _=>by kernel_rfl)

abbrev zG7:Nat→zQ:=fun j=>if j=4 then { slots:=[2,3,5] } else { }
inductive zup where
 | h4 (i5:Int) (z0:zj [CP.d zas]) (z1:zj [CP.d zas])
abbrev zGy:zup→Nat×St
 | .h4 i5 z0 z1=>(4,⟨tm 67 [(2,AV.ptr 0 0),(3,AV.ptr 1 0),(5,AV.int .i64 i5)],[AO.box (cpN [] [CP.d zas] z0),AO.box (cpN [] [CP.d zas] z1)]⟩)
theorem zQJ:zF zaK.P 12 Tryz.f12 2:=by refine ⟨?_,?_,?_,?_⟩ <;> kernel_rfl
def zKs (x0:Sem zas) (x1:Sem zas) (a0:Bool) (a1:Bool) (a2:Bool) (a3:Bool) (a4:Sem Sh.str×Sem (zh.sl.pr (zg.pr (zg.sl.pr (zt.sl.pr Sh.expr))))) (a5:Sem Sh.str×Sem (zh.sl.pr (zg.pr (zg.sl.pr (zt.sl.pr Sh.expr))))):Tr (zup ⊕ Raw):=
 Tr.chk (bif a0 then true else bif a1 then true else bif a2 then true else bif a3 then true else zoF a4 a5)
 (Tr.br
  (bif a0 then true
  else bif a1 then true else bif a2 then true else bif a3 then true else bif !zvQ a4 a5 then true else (↑(List.length x0.2.2.2.2.1):Int) != (↑(List.length x1.2.2.2.2.1):Int))
  (Tr.re (AV.kb false) []) (Tr.to (zup.h4 0 (x0,()) (x1,()))))
def zC9 (x0:Sem zas) (x1:Sem zas):Tr (zup ⊕ Raw):=
 let a0 := !x0.1==x1.1
 let a1 := !x0.2.1==x1.2.1
 let a2 := !x0.2.2.1==x1.2.2.1
 let a3:=x0.2.2.2.2.2 != x1.2.2.2.2.2
 let a4:=(x0.2.2.2.1.1,x0.2.2.2.1.2.1,x0.2.2.2.1.2.2.1,x0.2.2.2.1.2.2.2.1,x0.2.2.2.1.2.2.2.2.1,zz x0.2.2.2.1.2.2.2.2.2)
 let a5:=(x1.2.2.2.1.1,x1.2.2.2.1.2.1,x1.2.2.2.1.2.2.1,x1.2.2.2.1.2.2.2.1,x1.2.2.2.1.2.2.2.2.1,zz x1.2.2.2.1.2.2.2.2.2)
 zKs x0 x1 a0 a1 a2 a3 a4 a5
def zva (i5:Int) (z0:zj [CP.d zas]) (z1:zj [CP.d zas]) (a0:Int):Tr (zup ⊕ Raw):=
 Tr.br (decide (i5 < a0))
 (Tr.chk (inB i5 (List.length z0.1.2.2.2.2.1))
  (Tr.chk (inB i5 (List.length z1.1.2.2.2.2.1)) (Tr.br (List.getD z0.1.2.2.2.2.1 i5.toNat (zl zg) != List.getD z1.1.2.2.2.2.1 i5.toNat (zl zg)) (Tr.re (AV.kb false) []) (Tr.to (zup.h4 (IntKind.i64.wrap (i5+1)) z0 z1)))))
 (Tr.re (AV.kb true) [])
def zyI (i5:Int) (z0:zj [CP.d zas]) (z1:zj [CP.d zas]):Tr (zup ⊕ Raw):=
 let a0:=(↑(List.length z0.1.2.2.2.2.1):Int)
 zva i5 z0 z1 a0
theorem zRE (x0:Sem zas) (x1:Sem zas):run zaK 0 zG7 (Func.results Tryz.f12).toList 400 (zq Tryz.f12) (zp (Func.ntmps Tryz.f12) [zx zas x0,zx zas x1] [])=(zC9 x0 x1).map (lf Tryz.f12 zGy):=by kernel_rfl
def zCa:zup→Tr (zup ⊕ Raw)
 | .h4 i5 z0 z1=>zyI i5 z0 z1
theorem zVp:∀ s,run zaK 0 zG7 (Func.results Tryz.f12).toList 400 (zA Tryz.f12 (zGy s).1) (zGy s).2=(zCa s).map (lf Tryz.f12 zGy)
 | .h4 i5 z0 z1=>by kernel_rfl
def zml (x0:Sem zas) (x1:Sem zas):Option (zo (List.map some [Sh.bool])):=zaj [Sh.bool] zCa 100000000 (zC9 x0 x1)
def zlM (x0:Sem zas) (x1:Sem zas):Bool:=(zml x0 x1).isSome
def zoC (x0:Sem zas) (x1:Sem zas):Sem Sh.bool:=(fun r:zo (List.map some [Sh.bool])=>r.1) ((zml x0 x1).getD (zad [Sh.bool]))
def zTR:zJ:=zG [zas,zas] [Sh.bool] (fun x=>zlM x.1 x.2.1) fun x=>(zoC x.1 x.2.1,())
theorem zNO:FOk zaK.P zaK.gl 12 zTR:=zae (ks:=[zas,zas]) (outs:=[Sh.bool]) (keep:=zG7) (gas:=400) (n:=100000000) (e:=zGy) (t:=zCa) (i:=fun x=>zC9 x.1 x.2.1) zdc zc3 zQJ (fun x=>zRE x.1 x.2.1) zVp (fun _=>by kernel_rfl) (fun _=>by kernel_rfl)

def zbl:Env:=(((((((zaK.add 62 zWa).add 189 zJU).add 144 zJ6).add 145 zLd).add 143 zKI).add 83 zVk).add 12 zTR)
theorem zeT:zi zbl:=(zi.addS (zi.addS (zi.addS (zi.addS (zi.addS (zi.addS (zi.addS zdc (zB.refl zaK) zM3) ((zB.refl zaK).add _ _) zHC) (((zB.refl zaK).add _ _).add _ _) zIm) ((((zB.refl zaK).add _ _).add _ _).add _ _) zHu) (((((zB.refl zaK).add _ _).add _ _).add _ _).add _ _) zJF) ((((((zB.refl zaK).add _ _).add _ _).add _ _).add _ _).add _ _) zOP) (((((((zB.refl zaK).add _ _).add _ _).add _ _).add _ _).add _ _).add _ _) zNO)
theorem zeF:zbl.P.follows .mixedOrders=true:=(zm (zm (zm (zm (zm (zm (zm zc3 _ _) _ _) _ _) _ _) _ _) _ _) _ _)
end
open Go Go.Proofs
noncomputable section
set_option maxHeartbeats 4000000

abbrev zGl:Nat→zQ:=fun _=>{ }
theorem zNC:zF zbl.P 146 Tryz.f146 2:=by refine ⟨?_,?_,?_,?_⟩ <;> kernel_rfl
def zFE (x0:Sem zf) (x1:Sem zf) (a0:Bool) (a1:Sem zf):Tr (Empty ⊕ Raw):=
 Tr.chk (zgg x0 x1)
 (Tr.br (zhU x0 x1) (Tr.re (AV.agg [AV.int .i64 0,AV.int .i64 0,AV.str []]) [])
  (Tr.chk (zfo a0) (Tr.re (AV.agg [AV.int .i64 a1.1,AV.int .i64 a1.2.1,AV.str a1.2.2]) [])))
def zBE (x0:Sem zf) (x1:Sem zf):Tr (Empty ⊕ Raw):=
 let a0:=x0.1==x1.1&&(x0.2.1==x1.2.1&&(x0.2.2==x1.2.2&&true))
 let a1:=zap a0
 zFE x0 x1 a0 a1
theorem zOd (x0:Sem zf) (x1:Sem zf):run zbl 0 zGl (Func.results Tryz.f146).toList 400 (zq Tryz.f146) (zp (Func.ntmps Tryz.f146) [zx zf x0,zx zf x1] [])=(zBE x0 x1).map (lf Tryz.f146 e0):=by kernel_rfl
def zlg (x0:Sem zf) (x1:Sem zf):Option (zo (List.map some [zf])):=zaj [zf] t0 100000000 (zBE x0 x1)
def ziS (x0:Sem zf) (x1:Sem zf):Bool:=(zlg x0 x1).isSome
def zhH (x0:Sem zf) (x1:Sem zf):Sem zf:=(fun r:zo (List.map some [zf])=>r.1) ((zlg x0 x1).getD (zad [zf]))
def zKe:zJ:=zG [zf,zf] [zf] (fun x=>ziS x.1 x.2.1) fun x=>(zhH x.1 x.2.1,())
theorem zH9:FOk zbl.P zbl.gl 146 zKe:=zae (ks:=[zf,zf]) (outs:=[zf]) (keep:=zGl) (gas:=400) (n:=100000000) (e:=e0) (t:=t0) (i:=fun x=>zBE x.1 x.2.1) zeT zeF zNC (fun x=>zOd x.1 x.2.1) (on0 _ _ _ _ _) (fun _=>by kernel_rfl) (fun _=>by kernel_rfl)

abbrev zEP:Nat→zQ:=fun _=>{ }
theorem zOK:zF zbl.P 147 Tryz.f147 2:=by refine ⟨?_,?_,?_,?_⟩ <;> kernel_rfl
def zFx (x0:Sem zf) (x1:Sem zf) (a0:Bool) (a1:Sem zf):Tr (Empty ⊕ Raw):=
 Tr.chk (zgg x0 x1)
 (Tr.br (zhU x0 x1) (Tr.re (AV.agg [AV.int .i64 0,AV.int .i64 0,AV.str []]) [])
  (Tr.br (decide (x0.2.1 < x1.2.1)) (Tr.chk true (Tr.re (AV.agg [AV.int .i64 (zap true).1,AV.int .i64 (zap true).2.1,AV.str (zap true).2.2]) [])) (Tr.chk (zfo a0) (Tr.re (AV.agg [AV.int .i64 a1.1,AV.int .i64 a1.2.1,AV.str a1.2.2]) []))))
def zzW (x0:Sem zf) (x1:Sem zf):Tr (Empty ⊕ Raw):=
 let a0:=Op.bytesLess x0.2.2 x1.2.2
 let a1:=zap a0
 zFx x0 x1 a0 a1
theorem zPC (x0:Sem zf) (x1:Sem zf):run zbl 0 zEP (Func.results Tryz.f147).toList 400 (zq Tryz.f147) (zp (Func.ntmps Tryz.f147) [zx zf x0,zx zf x1] [])=(zzW x0 x1).map (lf Tryz.f147 e0):=by kernel_rfl
def zor (x0:Sem zf) (x1:Sem zf):Option (zo (List.map some [zf])):=zaj [zf] t0 100000000 (zzW x0 x1)
def zl5 (x0:Sem zf) (x1:Sem zf):Bool:=(zor x0 x1).isSome
def zkx (x0:Sem zf) (x1:Sem zf):Sem zf:=(fun r:zo (List.map some [zf])=>r.1) ((zor x0 x1).getD (zad [zf]))
def zKv:zJ:=zG [zf,zf] [zf] (fun x=>zl5 x.1 x.2.1) fun x=>(zkx x.1 x.2.1,())
theorem zJD:FOk zbl.P zbl.gl 147 zKv:=zae (ks:=[zf,zf]) (outs:=[zf]) (keep:=zEP) (gas:=400) (n:=100000000) (e:=e0) (t:=t0) (i:=fun x=>zzW x.1 x.2.1) zeT zeF zOK (fun x=>zPC x.1 x.2.1) (on0 _ _ _ _ _) (fun _=>by kernel_rfl) (fun _=>by kernel_rfl)

abbrev zFp:Nat→zQ:=fun _=>{ }
theorem zNA:zF zbl.P 148 Tryz.f148 2:=by refine ⟨?_,?_,?_,?_⟩ <;> kernel_rfl
def zGR (x0:Sem zf) (x1:Sem zf) (a0:Int) (_:Int) (a2:Bool):Tr (Empty ⊕ Raw):=
 Tr.chk (zgg x0 x1)
 (Tr.br (bif zhU x0 x1 then true else x0.1 != 1) (Tr.re (AV.agg [AV.int .i64 0,AV.int .i64 0,AV.str []]) [])
  (Tr.br (bif decide (x1.2.1 > 0) then bif decide (x0.2.1 > a0) then true else a2 else a2) (Tr.re (AV.agg [AV.int .i64 0,AV.int .i64 0,AV.str []]) []) (Tr.re (AV.agg [AV.int .i64 1,AV.int .i64 (IntKind.i64.wrap (x0.2.1+x1.2.1)),AV.str []]) [])))
def zBJ (x0:Sem zf) (x1:Sem zf):Tr (Empty ⊕ Raw):=
 let a0:=IntKind.i64.wrap (9223372036854775807 - x1.2.1)
 let a1:=IntKind.i64.wrap (-9223372036854775808 - x1.2.1)
 let a2:=bif decide (x1.2.1 < 0) then decide (x0.2.1 < a1) else false
 zGR x0 x1 a0 a1 a2
theorem zMH (x0:Sem zf) (x1:Sem zf):run zbl 0 zFp (Func.results Tryz.f148).toList 400 (zq Tryz.f148) (zp (Func.ntmps Tryz.f148) [zx zf x0,zx zf x1] [])=(zBJ x0 x1).map (lf Tryz.f148 e0):=by kernel_rfl
def zoU (x0:Sem zf) (x1:Sem zf):Option (zo (List.map some [zf])):=zaj [zf] t0 100000000 (zBJ x0 x1)
def zl6 (x0:Sem zf) (x1:Sem zf):Bool:=(zoU x0 x1).isSome
def zkt (x0:Sem zf) (x1:Sem zf):Sem zf:=(fun r:zo (List.map some [zf])=>r.1) ((zoU x0 x1).getD (zad [zf]))
def zKQ:zJ:=zG [zf,zf] [zf] (fun x=>zl6 x.1 x.2.1) fun x=>(zkt x.1 x.2.1,())
theorem zIL:FOk zbl.P zbl.gl 148 zKQ:=zae (ks:=[zf,zf]) (outs:=[zf]) (keep:=zFp) (gas:=400) (n:=100000000) (e:=e0) (t:=t0) (i:=fun x=>zBJ x.1 x.2.1) zeT zeF zNA (fun x=>zMH x.1 x.2.1) (on0 _ _ _ _ _) (fun _=>by kernel_rfl) (fun _=>by kernel_rfl)

abbrev zEL:Nat→zQ:=fun _=>{ }
theorem zOo:zF zbl.P 149 Tryz.f149 2:=by refine ⟨?_,?_,?_,?_⟩ <;> kernel_rfl
def zGd (x0:Sem zf) (x1:Sem zf) (a0:Int) (_:Int) (a2:Bool):Tr (Empty ⊕ Raw):=
 Tr.chk (zgg x0 x1)
 (Tr.br (bif zhU x0 x1 then true else x0.1 != 1) (Tr.re (AV.agg [AV.int .i64 0,AV.int .i64 0,AV.str []]) [])
  (Tr.br (bif decide (x1.2.1 > 0) then bif decide (x0.2.1 < a0) then true else a2 else a2) (Tr.re (AV.agg [AV.int .i64 0,AV.int .i64 0,AV.str []]) []) (Tr.re (AV.agg [AV.int .i64 1,AV.int .i64 (IntKind.i64.wrap (x0.2.1 - x1.2.1)),AV.str []]) [])))
def zAz (x0:Sem zf) (x1:Sem zf):Tr (Empty ⊕ Raw):=
 let a0:=IntKind.i64.wrap (-9223372036854775808+x1.2.1)
 let a1:=IntKind.i64.wrap (9223372036854775807+x1.2.1)
 let a2:=bif decide (x1.2.1 < 0) then decide (x0.2.1 > a1) else false
 zGd x0 x1 a0 a1 a2
theorem zL8 (x0:Sem zf) (x1:Sem zf):run zbl 0 zEL (Func.results Tryz.f149).toList 400 (zq Tryz.f149) (zp (Func.ntmps Tryz.f149) [zx zf x0,zx zf x1] [])=(zAz x0 x1).map (lf Tryz.f149 e0):=by kernel_rfl
def zlK (x0:Sem zf) (x1:Sem zf):Option (zo (List.map some [zf])):=zaj [zf] t0 100000000 (zAz x0 x1)
def ziE (x0:Sem zf) (x1:Sem zf):Bool:=(zlK x0 x1).isSome
def zhW (x0:Sem zf) (x1:Sem zf):Sem zf:=(fun r:zo (List.map some [zf])=>r.1) ((zlK x0 x1).getD (zad [zf]))
def zJ1:zJ:=zG [zf,zf] [zf] (fun x=>ziE x.1 x.2.1) fun x=>(zhW x.1 x.2.1,())
theorem zIj:FOk zbl.P zbl.gl 149 zJ1:=zae (ks:=[zf,zf]) (outs:=[zf]) (keep:=zEL) (gas:=400) (n:=100000000) (e:=e0) (t:=t0) (i:=fun x=>zAz x.1 x.2.1) zeT zeF zOo (fun x=>zL8 x.1 x.2.1) (on0 _ _ _ _ _) (fun _=>by kernel_rfl) (fun _=>by kernel_rfl)

abbrev zGt:Nat→zQ:=fun _=>{ }
theorem zLx:zF zbl.P 100 Tryz.f100 2:=by refine ⟨?_,?_,?_,?_⟩ <;> kernel_rfl
def zAm (x0:Sem Sh.expr) (x1:Sem zh.sl):Tr (Empty ⊕ Raw):=
 Tr.br (ze.op x0==[])
 (Tr.chk (zh8 (zz x0) (ze.mk [] (0,0,[]) [] []))
  (Tr.br (!zkB (zz x0) (ze.mk [] (0,0,[]) [] [])) (Tr.re (AV.int .i64 1) []) (Tr.re (AV.int .i64 0) [])))
 (Tr.chk (zu8 (zz x0))
  (Tr.br (!zAn (zz x0)) (Tr.re (AV.int .i64 1) []) (Tr.chk (zow (zz x0) x1) (Tr.br ((zi6 (zz x0) x1).2 != 0) (Tr.re (AV.int .i64 (zi6 (zz x0) x1).2) []) (Tr.br (bif (zi6 (zz x0) x1).1 != 0 then (zi6 (zz x0) x1).1 != 3 else false) (Tr.re (AV.int .i64 5) []) (Tr.re (AV.int .i64 0) []))))))
theorem zLZ (x0:Sem Sh.expr) (x1:Sem zh.sl):run zbl 0 zGt (Func.results Tryz.f100).toList 400 (zq Tryz.f100) (zp (Func.ntmps Tryz.f100) [zx Sh.expr x0,zx zh.sl x1] [])=(zAm x0 x1).map (lf Tryz.f100 e0):=by kernel_rfl
def zmG (x0:Sem Sh.expr) (x1:Sem zh.sl):Option (zo (List.map some [zg])):=zaj [zg] t0 100000000 (zAm x0 x1)
def zla (x0:Sem Sh.expr) (x1:Sem zh.sl):Bool:=(zmG x0 x1).isSome
def zoL (x0:Sem Sh.expr) (x1:Sem zh.sl):Sem zg:=(fun r:zo (List.map some [zg])=>r.1) ((zmG x0 x1).getD (zad [zg]))
def zLl:zJ:=zG [Sh.expr,zh.sl] [zg] (fun x=>zla x.1 x.2.1) fun x=>(zoL x.1 x.2.1,())
theorem zHV:FOk zbl.P zbl.gl 100 zLl:=zae (ks:=[Sh.expr,zh.sl]) (outs:=[zg]) (keep:=zGt) (gas:=400) (n:=100000000) (e:=e0) (t:=t0) (i:=fun x=>zAm x.1 x.2.1) zeT zeF zLx (fun x=>zLZ x.1 x.2.1) (on0 _ _ _ _ _) (fun _=>by kernel_rfl) (fun _=>by kernel_rfl)

def zcs:Env:=(((((zbl.add 146 zKe).add 147 zKv).add 148 zKQ).add 149 zJ1).add 100 zLl)
theorem zks:zi zcs:=(zi.addS (zi.addS (zi.addS (zi.addS (zi.addS zeT (zB.refl zbl) zH9) ((zB.refl zbl).add _ _) zJD) (((zB.refl zbl).add _ _).add _ _) zIL) ((((zB.refl zbl).add _ _).add _ _).add _ _) zIj) (((((zB.refl zbl).add _ _).add _ _).add _ _).add _ _) zHV)
theorem zkp:zcs.P.follows .mixedOrders=true:=(zm (zm (zm (zm (zm zeF _ _) _ _) _ _) _ _) _ _)
end
open Go

theorem zxg {n b0 b1 b2 b3:Nat} (h:b0 < 128):Lib.decodeN n b0 b1 b2 b3=(b0,1):=by
 unfold Lib.decodeN; rw [if_pos h]
theorem zvq {n b0 b1 b2 b3:Nat} (h:¬ b0 < 128):128≤(Lib.decodeN n b0 b1 b2 b3).1:=by
 unfold Lib.decodeN
 rw [if_neg h]
 repeat' split
 all_goals (simp only; omega)

theorem zwN {p:Nat→Bool} (hp:∀ c:Nat,p c=true↔(c < 32∨c > 126)) (s:List UInt8):∀ (f pos:Nat),s.length≤pos+f→(Lib.idxFuncFrom p true ⟨s.toArray⟩ f pos < 0↔∀ (i:Nat) (h:i < s.length),pos≤i→32≤s[i].toNat∧s[i].toNat≤126)
 | 0,pos,h=>by
  simp only [Lib.idxFuncFrom]
  exact ⟨fun _ i hi hpi=>absurd hi (by omega),fun _=>by decide⟩
 | f + 1,pos,h=>by
  have hsz:(⟨s.toArray⟩:ByteArray).size=s.length:=by simp [ByteArray.size]
  rw [Lib.idxFuncFrom,hsz]
  by_cases hlt:pos < s.length
  ·have hb:((⟨s.toArray⟩:ByteArray).get! pos)=s[pos]:=by
    simp [ByteArray.get!,hlt]
   rw [if_pos hlt,Lib.decode_at,hb]
   by_cases h8:s[pos].toNat < 128
   ·rw [zxg h8]
    simp only
    by_cases ho:p s[pos].toNat=true
    ·rw [if_pos ho]
     have:=(hp _).1 ho
     exact ⟨fun h=>absurd h (by omega),fun h=>by have:=h pos hlt (Nat.le_refl _); omega⟩
    ·rw [if_neg ho,zwN hp s f (pos+1) (by omega)]
     have hn:¬ (s[pos].toNat < 32∨s[pos].toNat > 126):=fun h=>ho ((hp _).2 h)
     refine ⟨fun h i hi hpi=>?_,fun h i hi hpi=>h i hi (by omega)⟩
     by_cases e:i=pos
     ·subst e; omega
     ·exact h i hi (by omega)
   ·have hh:=zvq (n:=(⟨s.toArray⟩:ByteArray).size - pos) (b1:=((⟨s.toArray⟩:ByteArray).get! (pos+1)).toNat) (b2:=((⟨s.toArray⟩:ByteArray).get! (pos+2)).toNat) (b3:=((⟨s.toArray⟩:ByteArray).get! (pos+3)).toNat) h8
    rw [if_pos ((hp _).2 (by omega))]
    exact ⟨fun h=>absurd h (by omega),fun h=>by have:=h pos hlt (Nat.le_refl _); omega⟩
  ·rw [if_neg hlt]
   exact ⟨fun _ i hi hpi=>absurd hi (by omega),fun _=>by decide⟩

theorem zF9 {p:Nat→Bool} (hp:∀ c:Nat,p c=true↔(c < 32∨c > 126)) (s:List UInt8):Lib.idxFunc p true ⟨s.toArray⟩ < 0↔∀ b∈s,32≤b.toNat∧b.toNat≤126:=by
 have hsz:(⟨s.toArray⟩:ByteArray).size=s.length:=by simp [ByteArray.size]
 unfold Lib.idxFunc
 rw [zwN hp s _ 0 (by omega)]
 constructor
 ·intro h b hb
  obtain ⟨i,hi,rfl⟩:=List.getElem_of_mem hb
  exact h i hi (Nat.zero_le _)
 ·intro h i hi _
  exact h _ (List.getElem_mem hi)
open Go Go.Proofs
set_option maxHeartbeats 4000000

def VOk (v:Sem zf):Prop:=LE.le (α:=Int) (-9223372036854775808) v.2.1∧LE.le (α:=Int) v.2.1 9223372036854775807∧v.2.2.length≤1000000

theorem zcv:∀ s:Str,Op.bytesLess s s=false
 | []=>rfl
 | a::r=>by simp [Op.bytesLess,zcv r]

theorem zCg (s:Str):(zlf s < 0)↔∀ b∈s,32≤b.toNat∧b.toNat≤126:=by
 refine zF9 (p:=fun r=>zyA r) (fun c=>?_) s
 unfold zyA
 cases h:decide ((c:Int) < 32) with
 | true=>simp at h ⊢; omega
 | false=>simp at h ⊢; omega

theorem zIc (b0 b1 b2 b3 c0 c1 e l:Bool):∃ r,(if b0=true then some (.inr (.bool (bif c0 then e else false),[])) else if b1=true then some (.inr (.bool e,[])) else if b2=true then some (.inr (.bool (bif c0 then l else false),[])) else if b3=true then some (.inr (.bool (bif c0 then e else bif c1 then e else false),[])) else some (.inr (.kb false,[])):Option (zlx ⊕ Raw))=some (.inr r)∧
  zac r.2 [Sh.bool] r.1=some ((if b0=true then if (!c0)=true then false else e else if b1=true then e else if b2=true then bif c0 then bif l then true else false else false else if b3=true then bif c0 then e else bif c1 then e else false else false:Bool),()):=by
 cases b0 <;> cases b1 <;> cases b2 <;> cases b3 <;> cases c0 <;> cases c1 <;> cases e <;> cases l <;> exact ⟨_,rfl,rfl⟩
theorem zH3 (b0 b1 b2 b3 c0 c1 l:Bool):(if b0=true then if (!c0)=true then false else false else if b1=true then false else if b2=true then bif c0 then bif l then false else false else false else if b3=true then bif c0 then false else bif c1 then false else false else false)=false:=by
 cases b0 <;> cases b1 <;> cases b2 <;> cases b3 <;> cases c0 <;> cases c1 <;> cases l <;> rfl

theorem zvZ {v:Sem zf} (hl:v.2.2.length≤1000000):zzN v=some (zbj v,()):=by
 obtain ⟨k,n,s⟩:=v
 have hl:s.length≤1000000:=hl
 have hf:=For (t:=ztq) (Φ:=fun r=>r=(.kb false,[])) 1 (fun i=>.h2 (i:Int) ((k,n,s),())) (fun i=>32≤(List.getD s i 0).toNat∧(List.getD s i 0).toNat≤126) s.length (by
  intro i hi _
  have hv:(ztq (.h2 (i:Int) ((k,n,s),()))).val=if (bif decide (((List.getD s i 0).toNat:Int) < 32) then true else decide (((List.getD s i 0).toNat:Int) > 126))=true then some (.inr (.kb false,[])) else some (.inl (.h2 ((i+1:Nat):Int) ((k,n,s),()))):=by
   show (zk4 _ _).val=_
   unfold zk4
   simp only [zpo,Tr.val,zV hi,zK hi,Int.toNat_natCast,if_true]
   rw [if_pos (by cases decide (((List.getD s i 0).toNat:Int) < 32) <;> rfl)]
   rw [zH i (by unfold zI; omega)]
  by_cases h1:(List.getD s i 0).toNat < 32
  ·refine .inr ⟨fun h=>by omega,_,zaI.of (by rw [hv,if_pos (by rw [decide_eq_true (by omega)]; rfl)]),rfl⟩
  ·by_cases h2:126 < (List.getD s i 0).toNat
   ·refine .inr ⟨fun h=>by omega,_,zaI.of (by rw [hv,if_pos (by rw [decide_eq_false (by omega),decide_eq_true (by omega)]; rfl)]),rfl⟩
   ·refine .inl ⟨by omega,zaz.of (by rw [hv,if_neg (by rw [decide_eq_false (by omega),decide_eq_false (by omega)]; simp)])⟩)
 have hi:(zBr (k,n,s)).val=some (.inl (.h2 ((0:Nat):Int) ((k,n,s),()))):=rfl
 have ho:=zCg s
 have hq:=zZ (l:=s) (d:=0) (Q:=fun b=>32≤b.toNat∧b.toNat≤126)
 rcases hf with ⟨h1,h2⟩ | ⟨h1,r,h2,rfl⟩
 ·have ho2:decide (zlf s < 0)=true:=decide_eq_true (ho.2 (hq.1 h1))
  have hv:(ztq (.h2 (s.length:Int) ((k,n,s),()))).val=(if (k==0)=true then some (.inr (.bool (bif (n==0) then (s==[]) else false),[])) else if (k==1)=true then some (.inr (.bool (s==[]),[])) else if (k==2)=true then some (.inr (.bool (bif (n==0) then decide ((List.length s:Int)≤40) else false),[])) else if (k==3)=true then some (.inr (.bool (bif (n==0) then (s==[]) else bif (n==1) then (s==[]) else false),[])) else some (.inr (.kb false,[]))):=by
   show (zk4 _ _).val=_
   unfold zk4
   simp only [zpo,Tr.val,zP]
   rw [if_neg (by simp)]
  obtain ⟨r,hr1,hr2⟩:=zIc (k==0) (k==1) (k==2) (k==3) (n==0) (n==1) (s==[]) (decide ((List.length s:Int)≤40))
  have hm:zbj (k,n,s)=(if (k==0)=true then if (!(n==0))=true then false else (s==[]) else if (k==1)=true then (s==[]) else if (k==2)=true then bif (n==0) then bif decide ((List.length s:Int)≤40) then true else false else false else if (k==3)=true then bif (n==0) then (s==[]) else bif (n==1) then (s==[]) else false else false):=by
   simp only [zbj,ho2]
   rfl
  rw [hm]
  exact zO hi (h2.ends (zaI.of (hv.trans hr1))) (by omega) hr2
 ·have ho2:decide (zlf s < 0)=false:=decide_eq_false (fun h=>h1 (hq.2 (ho.1 h)))
  have hs:(s==[])=false:=by
   cases s with
   | nil=>exact absurd (fun i hi=>absurd hi (by simp)) h1
   | cons _ _=>rfl
  have hm:zbj (k,n,s)=false:=by
   simp only [zbj,ho2,hs]
   exact zH3 (k==0) (k==1) (k==2) (k==3) (n==0) (n==1) (decide ((List.length s:Int)≤40))
  rw [hm]
  exact zO hi h2 (by omega) rfl

theorem zl4 {v:Sem zf} (hl:v.2.2.length≤1000000):ziJ v=true:=by unfold ziJ; rw [zvZ hl]; rfl
theorem zoI {v:Sem zf} (hl:v.2.2.length≤1000000):zn1 v=zbj v:=by unfold zn1; rw [zvZ hl]; rfl

theorem ztG {v:Sem zf} (hl:v.2.2.length≤1000000):zo3 v=some (zam v,()):=by
 unfold zo3 zaj zbk
 simp only [zz4,Tr.val,zl4 hl,zoI hl,if_true,zam]
 cases zbj v <;> rfl
theorem zjU {v:Sem zf} (hl:v.2.2.length≤1000000):zhN v=true:=by unfold zhN; rw [ztG hl]; rfl
theorem zmA {v:Sem zf} (hl:v.2.2.length≤1000000):zcD v=zam v:=by unfold zcD; rw [ztG hl]; rfl

def zmI (b:Bool):Sem zf:=if b then (3,1,[]) else (3,0,[])
theorem zqi (b:Bool):zpE b=some (zmI b,()):=by cases b <;> rfl
theorem zhB (b:Bool):zfo b=true:=by unfold zfo; rw [zqi]; rfl
theorem zd5 (b:Bool):zap b=zmI b:=by unfold zap; rw [zqi]; rfl

def isV (v:Sem zf) (n:Int):Bool:=v.1==3&&(v.2.1==n&&(v.2.2==[]&&true))
theorem zBh (v:Sem zf) (b:Bool):zBa v b=some (isV v (bif b then 1 else 0),()):=by
 unfold zBa zaj zbk
 simp only [zAM,Tr.val,zhB,zd5,if_true]
 cases b <;> rfl
theorem zoX (v:Sem zf) (b:Bool):zgz v b=true:=by unfold zgz; rw [zBh]; rfl
theorem zvL (v:Sem zf) (b:Bool):zio v b=isV v (bif b then 1 else 0):=by unfold zio; rw [zBh]; rfl

theorem zg4:zao 0=(0,0,[]):=by decide
theorem zgk:zao 1=(3,0,[]):=by decide
theorem zge:zao 2=(3,1,[]):=by decide
theorem ze7 (v:Sem zf):(zcp v==1)=isV v 0∧(zcp v==2)=isV v 1:=by
 obtain ⟨k,n,s⟩:=v
 unfold zcp isV
 simp only [zbj]
 by_cases hk:k=3
 ·subst hk
  by_cases h0:n=0
  ·subst h0
   cases hs:(s==[]) <;> simp [IntKind.wrap_i64]
  ·by_cases h1:n=1
   ·subst h1
    cases hs:(s==[]) <;> simp [IntKind.wrap_i64]
   ·have e0:(n==0)=false:=by simpa using h0
    have e1:(n==1)=false:=by simpa using h1
    simp [e0,e1]
 ·have e:(k==3)=false:=by simpa using hk
  have e':(k != 3)=true:=by simpa using hk
  simp [e,e']

theorem zxW (a b:Sem zf):zuS a b=some (zsa a b,()):=by
 unfold zuS zaj zbk
 simp only [zz0,Tr.val,zoX,zvL,zd5,zsa,(ze7 a).1,(ze7 a).2,(ze7 b).1,(ze7 b).2,zg4,zgk,zge,cond_false,cond_true]
 cases isV a 0 <;> cases isV b 0 <;> cases isV a 1 <;> cases isV b 1 <;> rfl
theorem zAj (a b:Sem zf):zBn a b=some (vOr a b,()):=by
 unfold zBn zaj zbk
 simp only [zBj,Tr.val,zoX,zvL,zd5,vOr,(ze7 a).1,(ze7 a).2,(ze7 b).1,(ze7 b).2,zg4,zgk,zge,cond_false,cond_true]
 cases isV a 0 <;> cases isV b 0 <;> cases isV a 1 <;> cases isV b 1 <;> rfl
theorem zxn (a:Sem zf):zvd a=some (zol a,()):=by
 unfold zvd zaj zbk
 simp only [zBs,Tr.val,zoX,zvL,zd5,zol,(ze7 a).1,(ze7 a).2,zg4,zgk,zge,cond_false,cond_true]
 cases isV a 0 <;> cases isV a 1 <;> rfl

theorem zG8 (k k' n n':Int) (s s':Str):(if (k==k'&&(n==n'&&(s==s'&&true)))=true then (0:Int) else if (bif decide (k < k') then true else bif k==k' then bif decide (n < n') then true else bif n==n' then Op.bytesLess s s' else false else false)=true then -1 else 1)=orI [zu0 k k',zlH n n',zt1 s s']:=by
 simp only [orI,zu0,zlH,zt1]
 rcases Int.lt_trichotomy k k' with h | h | h
 ·have c1:(k==k')=false:=beq_eq_false_iff_ne.2 (by omega)
  simp [c1,h]
 ·subst h
  rcases Int.lt_trichotomy n n' with h | h | h
  ·have c1:(n==n')=false:=beq_eq_false_iff_ne.2 (by omega)
   simp [c1,h]
  ·subst h
   by_cases hs:s=s'
   ·subst hs
    simp [zcv]
   ·have c1:(s==s')=false:=beq_eq_false_iff_ne.2 hs
    by_cases hl:Op.bytesLess s s'=true
    ·simp [c1,hl]
    ·simp [c1,hl]
  ·have c1:(n==n')=false:=beq_eq_false_iff_ne.2 (by omega)
   have c2:¬ n < n':=by omega
   simp [c1,c2,h]
 ·have c1:(k==k')=false:=beq_eq_false_iff_ne.2 (by omega)
  have c2:¬ k < k':=by omega
  simp [c1,c2,h]

theorem zpY {a b:Sem zf} (ha:a.2.2.length≤1000000) (hb:b.2.2.length≤1000000):zlI a b=some (zb1 a b,()):=by
 unfold zlI zaj zbk
 simp only [zHB,zKz,Tr.val,zjU ha,zjU hb,zmA ha,zmA hb,if_true,zb1]
 rw [← zG8]
 generalize ((zam a).1==(zam b).1&&((zam a).2.1==(zam b).2.1&&((zam a).2.2==(zam b).2.2&&true)))=b1
 generalize (bif decide ((zam a).1 < (zam b).1) then true else bif (zam a).1==(zam b).1 then bif decide ((zam a).2.1 < (zam b).2.1) then true else bif (zam a).2.1==(zam b).2.1 then Op.bytesLess (zam a).2.2 (zam b).2.2 else false else false)=b2
 cases b1 <;> cases b2 <;> rfl
open Go Go.Proofs
set_option maxHeartbeats 4000000

theorem zzm {a b:Sem zf} (ha:a.2.2.length≤1000000) (hb:b.2.2.length≤1000000):zk1 a b=true:=by unfold zk1; rw [zpY ha hb]; rfl
theorem zCH {a b:Sem zf} (ha:a.2.2.length≤1000000) (hb:b.2.2.length≤1000000):zo4 a b=zb1 a b:=by unfold zo4; rw [zpY ha hb]; rfl
theorem zDn (a b:Sem zf):zq3 a b=true:=by unfold zq3; rw [zxW]; rfl
theorem zJg (a b:Sem zf):zq2 a b=zsa a b:=by unfold zq2; rw [zxW]; rfl
theorem zIC (a b:Sem zf):zxj a b=true:=by unfold zxj; rw [zAj]; rfl
theorem zOW (a b:Sem zf):zzi a b=vOr a b:=by unfold zzi; rw [zAj]; rfl
theorem zD0 (a:Sem zf):zrP a=true:=by unfold zrP; rw [zxn]; rfl
theorem zIg (a:Sem zf):zpx a=zol a:=by unfold zpx; rw [zxn]; rfl

theorem zrg {a b:Sem zf} (ha:a.2.2.length≤1000000) (hb:b.2.2.length≤1000000):zlQ a b=some (!zcA a b,()):=by
 unfold zlQ zaj zbk
 simp only [zA0,Tr.val,zjU ha,zjU hb,zmA ha,zmA hb,if_true,zcA]
 generalize zam a=x
 generalize zam b=y
 obtain ⟨k,n,s⟩:=x
 obtain ⟨k',n',s'⟩:=y
 simp only
 by_cases h:k=0
 ·subst h; rfl
 ·have e:(k==0)=false:=by simpa using h
  have e2:(k != 0)=true:=by simpa using h
  rw [e,e2]
  by_cases h':k'=0
  ·subst h'
   have e3:(k==0)=false:=e
   simp [e3]
   rfl
  ·have e3:(k'==0)=false:=by simpa using h'
   rw [e3]
   rfl
theorem zh1 {a b:Sem zf} (ha:a.2.2.length≤1000000) (hb:b.2.2.length≤1000000):zgg a b=true:=by unfold zgg; rw [zrg ha hb]; rfl
theorem zjT {a b:Sem zf} (ha:a.2.2.length≤1000000) (hb:b.2.2.length≤1000000):zhU a b = !zcA a b:=by unfold zhU; rw [zrg ha hb]; rfl

theorem zeQ (b:Bool):zbJ b=zmI b:=by
 unfold zbJ zmI
 rw [zgk,zge]

theorem zrT {a b:Sem zf} (ha:a.2.2.length≤1000000) (hb:b.2.2.length≤1000000):zlg a b=some (zgW a b,()):=by
 unfold zlg zaj zbk
 simp only [zBE,zFE,Tr.val,zh1 ha hb,zjT ha hb,zhB,zd5,if_true,zgW,zeQ]
 cases zcA a b <;> rfl
theorem zyE {a b:Sem zf} (ha:a.2.2.length≤1000000) (hb:b.2.2.length≤1000000):ziS a b=true:=by unfold ziS; rw [zrT ha hb]; rfl
theorem zC3 {a b:Sem zf} (ha:a.2.2.length≤1000000) (hb:b.2.2.length≤1000000):zhH a b=zgW a b:=by unfold zhH; rw [zrT ha hb]; rfl

theorem zw3 {a b:Sem zf} (h:zcA a b=true):zbj a=true∧zbj b=true∧a.1=b.1∧a.1≠0∧zam a=a∧zam b=b:=by
 unfold zcA zam at h
 unfold zam
 cases ha:zbj a with
 | false=>simp [ha] at h
 | true=>
  cases hb:zbj b with
  | false=>
   simp [ha,hb] at h
  | true=>
   simp [ha,hb] at h
   exact ⟨rfl,rfl,h.2,h.1,by simp,by simp⟩

theorem zsP {v:Sem zf} (h:zbj v=true) (h0:v.1≠0):(v.1=1∧v.2.2=[])∨(v.1=2∧v.2.1=0)∨(v.1=3∧v.2.2=[]):=by
 obtain ⟨k,n,s⟩:=v
 unfold zbj at h
 simp only at h h0 ⊢
 have e0:(k==0)=false:=by simpa using h0
 rw [e0] at h
 by_cases h1:k=1
 ·subst h1
  exact .inl ⟨rfl,by simpa using h⟩
 ·have e1:(k==1)=false:=by simpa using h1
  rw [e1] at h
  by_cases h2:k=2
  ·subst h2
   refine .inr (.inl ⟨rfl,?_⟩)
   simp at h
   exact h.1
  ·have e2:(k==2)=false:=by simpa using h2
   rw [e2] at h
   by_cases h3:k=3
   ·subst h3
    refine .inr (.inr ⟨rfl,?_⟩)
    cases hn:(n==0) with
    | true=>simp [hn] at h; exact h
    | false=>simp [hn] at h; exact h.2
   ·have e3:(k==3)=false:=by simpa using h3
    rw [e3] at h
    cases h

theorem zJx (k n n':Int) (s s':Str) (hd:(s=[]∧s'=[])∨(n=0∧n'=0)):decide (orI [zu0 k k,zlH n n',zt1 s s'] < 0)=(bif decide (n < n') then true else Op.bytesLess s s'):=by
 simp only [orI,zu0,zlH,zt1]
 rcases hd with ⟨rfl,rfl⟩ | ⟨rfl,rfl⟩
 ·rcases Int.lt_trichotomy n n' with h | h | h
  ·simp [h]
  ·subst h
   simp [zcv]
  ·have c1:¬ n < n':=by omega
   simp [h,c1,zcv]
 ·by_cases hl:Op.bytesLess s s'=true
  ·simp [hl]
  ·by_cases he:s=s'
   ·subst he; simp [zcv]
   ·have c1:(s==s')=false:=beq_eq_false_iff_ne.2 he
    simp [hl,c1]

theorem zsB {a b:Sem zf} (ha:a.2.2.length≤1000000) (hb:b.2.2.length≤1000000):zor a b=some (zkh a b,()):=by
 unfold zor zaj zbk
 simp only [zzW,zFx,Tr.val,zh1 ha hb,zjT ha hb,zhB,zd5,if_true,zkh,zeQ]
 cases hal:zcA a b with
 | false=>rfl
 | true=>
  obtain ⟨h1,h2,h3,h4,h5,h6⟩:=zw3 hal
  have k1:=zsP h1 h4
  have k2:=zsP h2 (by rw [← h3]; exact h4)
  obtain ⟨k,n,s⟩:=a
  obtain ⟨k',n',s'⟩:=b
  simp only at h3 h4 k1 k2
  subst h3
  have hd:(s=[]∧s'=[])∨(n=0∧n'=0):=by
   rcases k1 with ⟨e1,e2⟩ | ⟨e1,e2⟩ | ⟨e1,e2⟩ <;> rcases k2 with ⟨f1,f2⟩ | ⟨f1,f2⟩ | ⟨f1,f2⟩ <;> first | exact .inl ⟨e2,f2⟩ | exact .inr ⟨e2,f2⟩ | exact absurd (e1.symm.trans f1) (by decide)
  have ho:decide (LT.lt (α:=Int) (zb1 (k,n,s) (k,n',s')) 0)=(bif decide (n < n') then true else Op.bytesLess s s'):=by
   unfold zb1
   rw [h5,h6]
   exact zJx k n n' s s' hd
  rw [ho]
  by_cases h:n < n'
  ·have e:decide (n < n')=true:=decide_eq_true h
   simp only [e]
   rfl
  ·have e:decide (n < n')=false:=decide_eq_false h
   simp only [e]
   rfl
theorem zCx {a b:Sem zf} (ha:a.2.2.length≤1000000) (hb:b.2.2.length≤1000000):zl5 a b=true:=by unfold zl5; rw [zsB ha hb]; rfl
theorem zDO {a b:Sem zf} (ha:a.2.2.length≤1000000) (hb:b.2.2.length≤1000000):zkx a b=zkh a b:=by unfold zkx; rw [zsB ha hb]; rfl

theorem zBQ {a b:Int} (a1:-9223372036854775808≤a) (a2:a≤9223372036854775807) (b1:-9223372036854775808≤b) (b2:b≤9223372036854775807):
  (bif decide (b > 0) then bif decide (a > IntKind.i64.wrap (9223372036854775807 - b)) then true else bif decide (b < 0) then decide (a < IntKind.i64.wrap (-9223372036854775808 - b)) else false else bif decide (b < 0) then decide (a < IntKind.i64.wrap (-9223372036854775808 - b)) else false)=
  (bif decide (b > 0) then bif decide (IntKind.i64.wrap (a+b) < a) then true else bif decide (b < 0) then decide (IntKind.i64.wrap (a+b) > a) else false else bif decide (b < 0) then decide (IntKind.i64.wrap (a+b) > a) else false):=by
 rcases Int.lt_trichotomy b 0 with h | h | h
 ·have e1:decide (b > 0)=false:=decide_eq_false (by omega)
  have e2:decide (b < 0)=true:=decide_eq_true h
  simp only [e1,e2,cond_false,cond_true]
  rw [IntKind.wrap_i64,IntKind.wrap_i64]
  apply Bool.eq_iff_iff.2
  rw [decide_eq_true_eq,decide_eq_true_eq]
  omega
 ·subst h; rfl
 ·have e1:decide (b > 0)=true:=decide_eq_true h
  have e2:decide (b < 0)=false:=decide_eq_false (by omega)
  simp only [e1,e2,cond_false,cond_true]
  have:decide (a > IntKind.i64.wrap (9223372036854775807 - b))=decide (IntKind.i64.wrap (a+b) < a):=by
   rw [IntKind.wrap_i64,IntKind.wrap_i64]
   apply Bool.eq_iff_iff.2
   rw [decide_eq_true_eq,decide_eq_true_eq]
   omega
  rw [this]
theorem zyg {a b:Int} (a1:-9223372036854775808≤a) (a2:a≤9223372036854775807) (b1:-9223372036854775808≤b) (b2:b≤9223372036854775807):
  (bif decide (b > 0) then bif decide (a < IntKind.i64.wrap (-9223372036854775808+b)) then true else bif decide (b < 0) then decide (a > IntKind.i64.wrap (9223372036854775807+b)) else false else bif decide (b < 0) then decide (a > IntKind.i64.wrap (9223372036854775807+b)) else false)=
  (bif decide (b > 0) then bif decide (IntKind.i64.wrap (a - b) > a) then true else bif decide (b < 0) then decide (IntKind.i64.wrap (a - b) < a) else false else bif decide (b < 0) then decide (IntKind.i64.wrap (a - b) < a) else false):=by
 rcases Int.lt_trichotomy b 0 with h | h | h
 ·have e1:decide (b > 0)=false:=decide_eq_false (by omega)
  have e2:decide (b < 0)=true:=decide_eq_true h
  simp only [e1,e2,cond_false,cond_true]
  rw [IntKind.wrap_i64,IntKind.wrap_i64]
  apply Bool.eq_iff_iff.2
  rw [decide_eq_true_eq,decide_eq_true_eq]
  omega
 ·subst h; rfl
 ·have e1:decide (b > 0)=true:=decide_eq_true h
  have e2:decide (b < 0)=false:=decide_eq_false (by omega)
  simp only [e1,e2,cond_false,cond_true]
  have:decide (a < IntKind.i64.wrap (-9223372036854775808+b))=decide (IntKind.i64.wrap (a - b) > a):=by
   rw [IntKind.wrap_i64,IntKind.wrap_i64]
   apply Bool.eq_iff_iff.2
   rw [decide_eq_true_eq,decide_eq_true_eq]
   omega
  rw [this]

theorem ztt {a b:Sem zf} (ha:VOk a) (hb:VOk b):zoU a b=some (zkj a b,()):=by
 unfold zoU zaj zbk
 simp only [zBJ,zGR,Tr.val,zh1 ha.2.2 hb.2.2,zjT ha.2.2 hb.2.2,if_true,zkj]
 rw [zBQ ha.1 ha.2.1 hb.1 hb.2.1]
 cases (bif !zcA a b then true else a.1 != 1)
 ·cases (bif decide (b.2.1 > 0) then bif decide (IntKind.i64.wrap (a.2.1+b.2.1) < a.2.1) then true else bif decide (b.2.1 < 0) then decide (IntKind.i64.wrap (a.2.1+b.2.1) > a.2.1) else false else bif decide (b.2.1 < 0) then decide (IntKind.i64.wrap (a.2.1+b.2.1) > a.2.1) else false) <;> rfl
 ·rfl
theorem zB8 {a b:Sem zf} (ha:VOk a) (hb:VOk b):zl6 a b=true:=by unfold zl6; rw [ztt ha hb]; rfl
theorem zF7 {a b:Sem zf} (ha:VOk a) (hb:VOk b):zkt a b=zkj a b:=by unfold zkt; rw [ztt ha hb]; rfl

theorem zro {a b:Sem zf} (ha:VOk a) (hb:VOk b):zlK a b=some (zgL a b,()):=by
 unfold zlK zaj zbk
 simp only [zAz,zGd,Tr.val,zh1 ha.2.2 hb.2.2,zjT ha.2.2 hb.2.2,if_true,zgL]
 rw [zyg ha.1 ha.2.1 hb.1 hb.2.1]
 cases (bif !zcA a b then true else a.1 != 1)
 ·cases (bif decide (b.2.1 > 0) then bif decide (IntKind.i64.wrap (a.2.1 - b.2.1) > a.2.1) then true else bif decide (b.2.1 < 0) then decide (IntKind.i64.wrap (a.2.1 - b.2.1) < a.2.1) else false else bif decide (b.2.1 < 0) then decide (IntKind.i64.wrap (a.2.1 - b.2.1) < a.2.1) else false) <;> rfl
 ·rfl
theorem zzp {a b:Sem zf} (ha:VOk a) (hb:VOk b):ziE a b=true:=by unfold ziE; rw [zro ha hb]; rfl
theorem zCC {a b:Sem zf} (ha:VOk a) (hb:VOk b):zhW a b=zgL a b:=by unfold zhW; rw [zro ha hb]; rfl
end Cad
