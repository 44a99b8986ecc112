/- The document's reader: atoms. The document's reader: atoms. The document's reader: expressions. The document's reader: expressions, values. Functions on two variables to which pointers lead. The document's reader: values. The document's reader: CREATE. The document's reader: MIGRATE. The document's parser. Statements of texts. Rows: the sorter. Rows: the sorter compares. Rows: insertion sort. Rows: insertion sort: its contract. Rows: ranges change places. Rows: blocks change places. Rows: merged. Rows: stable sort. Rows: slices.SortStableFunc. -/
import Derived.Test.YtiefilkilbdpgaaGreatDoorL15
import Derived.Test.YtiefilkilbdpgaaGreatDoorL12
import Derived.Test.YtiefilkilbdpgaaGreatDoorL13
namespace Cad
open Go Go.Proofs
open Int (toNat)
open List (getD)
open List (length)
noncomputable section
set_option maxHeartbeats 4000000

abbrev XQ:=jL [(1,[0,1,4])]
inductive yo where
 | h1 (s0:Sem Sh.str) (s1:Sem Sh.str) (z0:zu [CP.d zf])
abbrev zcR:yo→Nat×St
 | .h1 s0 s1 z0=>(1,⟨tm 25 [(0,AV.str s0),(1,AV.str s1),(4,AV.ptr 0 0)],[AO.box (bh [] [CP.d zf] z0)]⟩)
def zdN (x0:Sem Sh.str) (x1:Sem Sh.str):Tr (yo ⊕ zV):=
 Tr.to (yo.h1 x0 x1 ((0,0,[]),()))
def zf7:yo→Tr (yo ⊕ zV)
 | .h1 s0 s1 z0=>
  let a0:=decide ((↑(length s1):Int) > 0)
  Tr.chk (bif a0 then zF 0 (length s1) else true)
  (Tr.br (bif a0 then (↑(getD s1 (toNat 0) 0).toNat:Int)==48 else false) (Tr.chk (decide (0≤1)&&decide (1≤(↑(length s1):Int))&&decide ((↑(length s1):Int)≤(↑(length s1):Int))) (Tr.to (yo.h1 s0 (List.take ((↑(length s1):Int).toNat - toNat 1) (List.drop (toNat 1) s1)) z0)))
  (Tr.br (s1==[]) (Tr.re (AV.tup [AV.agg [AV.int .i64 1,AV.int .i64 0,AV.str []],AV.kb true]) []) (Tr.chk (decide (length s0+length s1≤1099511627776)) (Tr.chk (Ez (s0++s1)) (Tr.re (AV.tup [AV.agg [AV.int .i64 (pW (s0++s1)).1.1,AV.int .i64 (pW (s0++s1)).1.2.1,AV.str (pW (s0++s1)).1.2.2],AV.bool (pW (s0++s1)).2]) [])))))
def GX (x0:Sem Sh.str) (x1:Sem Sh.str):=zT [zf,Sh.bool] zf7 100000000 (zdN x0 x1)
def Og (x0:Sem Sh.str) (x1:Sem Sh.str):=(GX x0 x1).isSome
def Ut (x0:Sem Sh.str) (x1:Sem Sh.str):=o2 (GX x0 x1)
def ST:=FT [Sh.str,Sh.str] [zf,Sh.bool] fun x=>GX x.1 x.2.1
theorem PY:FK 291 ST:=Ac.T1 (f:=Tryz.f291) (keep:=XQ) (e:=zcR)

def TB:=TA.add 291 ST
theorem Ad:zm TB:=Ac.add PY
end

noncomputable def zdK (x0:Sem zq.sl) (x1:Sem zg):Tr (Empty ⊕ zV):=
 let a0:=IntKind.i64.wrap (x1+1)
 let a1:=decide (a0 ≥ (↑(length x0):Int))
 let a2:=zF a0 (length x0)
 let a3:=getD x0 a0.toNat (zj zq)
 let a4:=Ut [45] a3.2
 let a5:=getD x0 (toNat x1) (zj zq)
 let a6:=Ut [] a5.2
 let a7:=qa x0 x1 [84,82,85,69]
 let a8:=qa x0 x1 [70,65,76,83,69]
 let a9:=pW a5.2
 Tr.br (decide (x1 ≥ (↑(length x0):Int)))
 (Tr.re (AV.tup [AV.agg [AV.str [],AV.int .i64 0,AV.int .i64 0,AV.str [],AV.str [],AV.nils],AV.int .i64 (-1)]) [])
 (Tr.chk (zF x1 (length x0))
  (Tr.chk (jE x0 x1 [45]) (Tr.br (qa x0 x1 [45]) (Tr.chk (bif a1 then true else a2) (Tr.br (bif a1 then true else a3.1 != 2) (Tr.re (AV.tup [AV.agg [AV.str [],AV.int .i64 0,AV.int .i64 0,AV.str [],AV.str [],AV.nils],AV.int .i64 (-1)]) []) (Tr.chk a2 (Tr.chk (Og [45] a3.2) (Tr.br (!a4.2)
  (Tr.re (AV.tup [AV.agg [AV.str [],AV.int .i64 0,AV.int .i64 0,AV.str [],AV.str [],AV.nils],AV.int .i64 (-1)]) []) (Tr.re (AV.tup [AV.agg [AV.str [108,105,116],AV.int .i64 a4.1.1,AV.int .i64 a4.1.2.1,AV.str a4.1.2.2,AV.str [],AV.nils],AV.int .i64 (IntKind.i64.wrap (x1+2))]) [])))))) (Tr.br (a5.1==2) (Tr.chk (Og [] a5.2) (Tr.br (!a6.2)
  (Tr.re (AV.tup [AV.agg [AV.str [],AV.int .i64 0,AV.int .i64 0,AV.str [],AV.str [],AV.nils],AV.int .i64 (-1)]) []) (Tr.re (AV.tup [AV.agg [AV.str [108,105,116],AV.int .i64 a6.1.1,AV.int .i64 a6.1.2.1,AV.str a6.1.2.2,AV.str [],AV.nils],AV.int .i64 a0]) []))) (Tr.br (a5.1==3) (Tr.re
  (AV.tup [AV.agg [AV.str [108,105,116],AV.int .i64 2,AV.int .i64 0,AV.str a5.2,AV.str [],AV.nils],AV.int .i64 a0]) []) (Tr.chk (jE x0 x1 [40]) (Tr.br (qa x0 x1 [40]) Tr.err (Tr.chk (jE x0 x1 [84,82,85,69]&&bif a7 then true else jE x0 x1 [70,65,76,83,69]&&bif a8 then true else jE x0 x1 [78,85,76,76])
  (Tr.br (bif a7 then true else bif a8 then true else qa x0 x1 [78,85,76,76]) (Tr.chk (Ez a5.2) (Tr.re (AV.tup [AV.agg [AV.str [108,105,116],AV.int .i64 a9.1.1,AV.int .i64 a9.1.2.1,AV.str a9.1.2.2,AV.str [],AV.nils],AV.int .i64 a0]) [])) (Tr.br (a5.1==1) (Tr.re (AV.tup [AV.agg [AV.str [99,111,108],AV.int .i64 0,AV.int .i64 0,AV.str [],AV.str a5.2,AV.nils],
  AV.int .i64 a0]) []) (Tr.re (AV.tup [AV.agg [AV.str [],AV.int .i64 0,AV.int .i64 0,AV.str [],AV.str [],AV.nils],AV.int .i64 (-1)]) [])))))))))))
noncomputable def Cq (x0:Sem zq.sl) (x1:Sem zg):=zT [Sh.expr,zg] t0 100000000 (zdK x0 x1)
noncomputable def Rq (x0:Sem zq.sl) (x1:Sem zg):=(Cq x0 x1).isSome
noncomputable def oT (x0:Sem zq.sl) (x1:Sem zg):=o2 (Cq x0 x1)
noncomputable def SQ:=FT [zq.sl,zg] [Sh.expr,zg] fun x=>Cq x.1 x.2.1
theorem PV:FK 273 SQ:=Ad.T1 (f:=Tryz.f273) (keep:=k0) (e:=e0)

noncomputable def HL:=TB.add 273 SQ
theorem Ae:zm HL:=Ad.add PV
noncomputable section

def uX (g:Sem zq.sl→Sem zg→Sem zg→Sem Sh.expr×Sem zg) (c:Sem zq.sl→Sem zg→Sem zg→Bool):bq:=HL.add 238 (zC [zq.sl,zg,zg] [Sh.expr,zg] (fun x=>c x.1 x.2.1 x.2.2.1) fun x=>((g x.1 x.2.1 x.2.2.1).1,(g x.1 x.2.1 x.2.2.1).2,()))
theorem FN {g:Sem zq.sl→Sem zg→Sem zg→Sem Sh.expr×Sem zg} {c:Sem zq.sl→Sem zg→Sem zg→Bool} (hg:FK 238 (zC [zq.sl,zg,zg] [Sh.expr,zg] (fun x=>c x.1 x.2.1 x.2.2.1) fun x=>((g x.1 x.2.1 x.2.2.1).1,(g x.1 x.2.1 x.2.2.1).2,()))):zm (uX g c):=Ae.add hg
abbrev Gq:=jL [(22,[0,2,6,15,16])]
inductive jZ where
 | h22 (l0:List (Sem zq)) (i2:Sem zg) (i16:Sem zg) (z1:zu [CP.d Sh.expr]) (ja0:List UInt8) (ja1:Int) (ja2:Int) (ja3:List UInt8) (ja4:List UInt8)
abbrev DC:jZ→Nat×St
 | .h22 l0 i2 i16 z1 ja0 ja1 ja2 ja3 ja4=>(22,⟨tm 157 [(0,AV.sl zq l0),(2,AV.int .i64 i2),(6,AV.ptr 0 0),(15,AV.ptr 1 0),(16,AV.int .i64 i16)],[AO.box [AV.str ja0,AV.int .i64 ja1,AV.int .i64 ja2,AV.str ja3,AV.str ja4,AV.nils],AO.box (bh [] [CP.d Sh.expr] z1)]⟩)
theorem Yg (g:Sem zq.sl→Sem zg→Sem zg→Sem Sh.expr×Sem zg) (c:Sem zq.sl→Sem zg→Sem zg→Bool):zA (uX g c).P 238 Tryz.f238 3:=aL (by kernel_rfl)
def Mr (g:Sem zq.sl→Sem zg→Sem zg→Sem Sh.expr×Sem zg) (c:Sem zq.sl→Sem zg→Sem zg→Bool) (x0:Sem zq.sl) (x1:Sem zg) (x2:Sem zg):Tr (jZ ⊕ zV):=
 let a0:=IntKind.i64.wrap (x1+1)
 let a1:=g x0 a0 2
 let a2:=g x0 x1 3
 let a3:=qa x0 a2.2 [61]
 let a4:=IntKind.i64.wrap (a2.2+1)
 let a5:=getD x0 (toNat a2.2) (zj zq)
 let a6:=zB a2.1
 let a7:=g x0 a4 3
 let a8:=IntKind.i64.wrap (x2+1)
 let a9:=g x0 x1 a8
 Tr.br (decide (x1 < 0))
 (Tr.re (AV.tup [AV.agg [AV.str [],AV.int .i64 0,AV.int .i64 0,AV.str [],AV.str [],AV.nils],AV.int .i64 (-1)]) [])
 (Tr.br (x2==4)
  (Tr.chk (Rq x0 x1) (Tr.re (AV.tup [AV.agg [AV.str (ze.op (oT x0 x1).1),AV.int .i64 (ze.v (oT x0 x1).1).1,AV.int .i64 (ze.v (oT x0 x1).1).2.1,AV.str (ze.v (oT x0 x1).1).2.2,AV.str (ze.s (oT x0 x1).1),AV.sl Sh.expr (ze.l (oT x0 x1).1)],AV.int .i64 (oT x0 x1).2]) []))
  (Tr.br (x2==2) (Tr.chk (jE x0 x1 [78,79,84]) (Tr.br (qa x0 x1 [78,79,84]) (Tr.chk (c x0 a0 2) (Tr.re (AV.tup [AV.agg [AV.str [110,111,116],AV.int .i64 0,AV.int .i64 0,AV.str [],AV.str [],AV.sl Sh.expr [zB a1.1]],AV.int .i64 a1.2]) [])) (Tr.chk (c x0 x1 3) (Tr.br (decide (a2.2 < 0))
  (Tr.re (AV.tup [AV.agg [AV.str [],AV.int .i64 0,AV.int .i64 0,AV.str [],AV.str [],AV.nils],AV.int .i64 (-1)]) []) (Tr.chk (jE x0 a2.2 [61]&&bif a3 then true else jE x0 a2.2 [60]) (Tr.br (bif a3 then true else qa x0 a2.2 [60]) (Tr.chk (zF a2.2 (length x0)) (Tr.chk (c x0 a4 3) (Tr.re (AV.tup
  [AV.agg [AV.str a5.2,AV.int .i64 0,AV.int .i64 0,AV.str [],AV.str [],AV.sl Sh.expr [a6,zB a7.1]],AV.int .i64 a7.2]) []))) (Tr.chk (jE x0 a2.2 [73,83]) (Tr.br (qa x0 a2.2 [73,83]) (Tr.chk (jE x0 a4 [78,85,76,76]) (Tr.br (!qa x0 a4 [78,85,76,76]) (Tr.re (AV.tup [AV.agg [AV.str [],AV.int .i64 0,AV.int .i64 0,AV.str [],AV.str [],AV.nils],AV.int .i64 (-1)]) [])
  (Tr.re (AV.tup [AV.agg [AV.str [110,117,108,108],AV.int .i64 0,AV.int .i64 0,AV.str [],AV.str [],AV.sl Sh.expr [a6]],AV.int .i64 (IntKind.i64.wrap (a2.2+2))]) []))) (Tr.re (AV.tup [AV.agg [AV.str (ze.op a2.1),AV.int .i64 (ze.v a2.1).1,AV.int .i64 (ze.v a2.1).2.1,AV.str (ze.v a2.1).2.2,AV.str (ze.s a2.1),AV.sl Sh.expr (ze.l a2.1)],AV.int .i64 a2.2])
  []))))))))) (Tr.chk (c x0 x1 a8) (Tr.to (jZ.h22 x0 x2 a9.2 (a9.1,()) [] 0 0 [] [])))))
theorem Xf (g:Sem zq.sl→Sem zg→Sem zg→Sem Sh.expr×Sem zg) (c:Sem zq.sl→Sem zg→Sem zg→Bool) (x0:Sem zq.sl) (x1:Sem zg) (x2:Sem zg):rn (uX g c) 0 Gq Tryz.f238 [zz zq.sl x0,zz zg x1,zz zg x2] []=(Mr g c x0 x1 x2).map (lf Tryz.f238 DC):=by kernel_rfl
def OL (g:Sem zq.sl→Sem zg→Sem zg→Sem Sh.expr×Sem zg) (c:Sem zq.sl→Sem zg→Sem zg→Bool):jZ→Tr (jZ ⊕ zV)
 | .h22 l0 i2 i16 z1 ja0 ja1 ja2 ja3 ja4=>
  let a0:=bif i2==1 then jE l0 i16 [65,78,68] else true
  let a1:=bif i2==1 then qa l0 i16 [65,78,68] else false
  let a2:=qa l0 i16 [43]
  let a3:=bif i2==3 then jE l0 i16 [43]&&bif a2 then true else jE l0 i16 [45] else true
  let a4:=bif i2==3 then bif a2 then true else qa l0 i16 [45] else false
  let a5:=l0.getD (toNat i16) (zj zq)
  let a6:=IntKind.i64.wrap (i16+1)
  let a7:=IntKind.i64.wrap (i2+1)
  let a8:=c l0 a6 a7
  let a9:=g l0 a6 a7
  let a10:=[zB z1.1,zB a9.1]
  Tr.br (decide (i16 ≥ 0))
  (Tr.chk (bif i2==0 then jE l0 i16 [79,82] else true) (Tr.br (bif i2==0 then qa l0 i16 [79,82] else false) (Tr.chk a0 (Tr.br a1 (Tr.chk a3 (Tr.br a4 (Tr.chk (zF i16 l0.length) (Tr.br (a5.2==[]) (Tr.re (AV.tup [AV.agg [AV.str (ze.op z1.1),AV.int .i64 (ze.v z1.1).1,AV.int .i64 (ze.v z1.1).2.1,
  AV.str (ze.v z1.1).2.2,AV.str (ze.s z1.1),AV.sl Sh.expr (ze.l z1.1)],AV.int .i64 i16]) []) (Tr.chk a8 (Tr.to (jZ.h22 l0 i2 a9.2 (ze.mk a5.2 (0,0,[]) [] a10,()) ja0 ja1 ja2 ja3 ja4))))) (Tr.br false (Tr.re (AV.tup [AV.agg [AV.str (ze.op z1.1),AV.int .i64 (ze.v z1.1).1,AV.int .i64 (ze.v z1.1).2.1,
  AV.str (ze.v z1.1).2.2,AV.str (ze.s z1.1),AV.sl Sh.expr (ze.l z1.1)],AV.int .i64 i16]) []) (Tr.chk a8 (Tr.to (jZ.h22 l0 i2 a9.2 (ze.mk [97,110,100] (0,0,[]) [] a10,()) ja0 ja1 ja2 ja3 ja4)))))) (Tr.chk a3 (Tr.br a4 (Tr.chk (zF i16 l0.length) (Tr.br (a5.2==[]) (Tr.re (AV.tup [AV.agg
  [AV.str (ze.op z1.1),AV.int .i64 (ze.v z1.1).1,AV.int .i64 (ze.v z1.1).2.1,AV.str (ze.v z1.1).2.2,AV.str (ze.s z1.1),AV.sl Sh.expr (ze.l z1.1)],AV.int .i64 i16]) []) (Tr.chk a8 (Tr.to (jZ.h22 l0 i2 a9.2 (ze.mk a5.2 (0,0,[]) [] a10,()) ja0 ja1 ja2 ja3 ja4))))) (Tr.br false (Tr.re (AV.tup [AV.agg
  [AV.str (ze.op z1.1),AV.int .i64 (ze.v z1.1).1,AV.int .i64 (ze.v z1.1).2.1,AV.str (ze.v z1.1).2.2,AV.str (ze.s z1.1),AV.sl Sh.expr (ze.l z1.1)],AV.int .i64 i16]) []) (Tr.chk a8 (Tr.to (jZ.h22 l0 i2 a9.2 (ze.mk [111,114] (0,0,[]) [] a10,()) ja0 ja1 ja2 ja3 ja4)))))))) (Tr.chk a0 (Tr.br a1 (Tr.chk a3 (Tr.br a4 (Tr.chk (zF i16 l0.length)
  (Tr.br (a5.2==[]) (Tr.re (AV.tup [AV.agg [AV.str (ze.op z1.1),AV.int .i64 (ze.v z1.1).1,AV.int .i64 (ze.v z1.1).2.1,AV.str (ze.v z1.1).2.2,AV.str (ze.s z1.1),AV.sl Sh.expr (ze.l z1.1)],AV.int .i64 i16]) []) (Tr.chk a8 (Tr.to (jZ.h22 l0 i2 a9.2 (ze.mk a5.2 (0,0,[]) [] a10,()) ja0 ja1 ja2 ja3 ja4))))) (Tr.br false (Tr.re (AV.tup [AV.agg
  [AV.str (ze.op z1.1),AV.int .i64 (ze.v z1.1).1,AV.int .i64 (ze.v z1.1).2.1,AV.str (ze.v z1.1).2.2,AV.str (ze.s z1.1),AV.sl Sh.expr (ze.l z1.1)],AV.int .i64 i16]) []) (Tr.chk a8 (Tr.to (jZ.h22 l0 i2 a9.2 (ze.mk [97,110,100] (0,0,[]) [] a10,()) ja0 ja1 ja2 ja3 ja4)))))) (Tr.chk a3 (Tr.br a4 (Tr.chk (zF i16 l0.length) (Tr.br (a5.2==[]) (Tr.re
  (AV.tup [AV.agg [AV.str (ze.op z1.1),AV.int .i64 (ze.v z1.1).1,AV.int .i64 (ze.v z1.1).2.1,AV.str (ze.v z1.1).2.2,AV.str (ze.s z1.1),AV.sl Sh.expr (ze.l z1.1)],AV.int .i64 i16]) []) (Tr.chk a8 (Tr.to (jZ.h22 l0 i2 a9.2 (ze.mk a5.2 (0,0,[]) [] a10,()) ja0 ja1 ja2 ja3 ja4))))) (Tr.br true (Tr.re (AV.tup [AV.agg
  [AV.str (ze.op z1.1),AV.int .i64 (ze.v z1.1).1,AV.int .i64 (ze.v z1.1).2.1,AV.str (ze.v z1.1).2.2,AV.str (ze.s z1.1),AV.sl Sh.expr (ze.l z1.1)],AV.int .i64 i16]) []) (Tr.chk a8 (Tr.to (jZ.h22 l0 i2 a9.2 (ze.mk [] (0,0,[]) [] a10,()) ja0 ja1 ja2 ja3 ja4))))))))))
  (Tr.re (AV.tup [AV.agg [AV.str (ze.op z1.1),AV.int .i64 (ze.v z1.1).1,AV.int .i64 (ze.v z1.1).2.1,AV.str (ze.v z1.1).2.2,AV.str (ze.s z1.1),AV.sl Sh.expr (ze.l z1.1)],AV.int .i64 i16]) [])
theorem Yr (g:Sem zq.sl→Sem zg→Sem zg→Sem Sh.expr×Sem zg) (c:Sem zq.sl→Sem zg→Sem zg→Bool):∀ s,run (uX g c) 0 Gq (Func.results Tryz.f238).toList 400 (zy Tryz.f238 (DC s).1) (DC s).2=(OL g c s).map (lf Tryz.f238 DC):=by intro s; cases s <;> kernel_rfl
def jg (o:Option (zx (List.map some [Sh.expr,zg]))):Sem Sh.expr×Sem zg:=(fun r:zx (List.map some [Sh.expr,zg])=>(r.1,r.2.1)) (o.getD (bF [Sh.expr,zg]))
def Oh (g:Sem zq.sl→Sem zg→Sem zg→Sem Sh.expr×Sem zg) (c:Sem zq.sl→Sem zg→Sem zg→Bool) (x0:Sem zq.sl) (x1:Sem zg) (x2:Sem zg):Option (zx (List.map some [Sh.expr,zg])):=zT [Sh.expr,zg] (OL g c) 100000000 (Mr g c x0 x1 x2)
def dJ:Nat→Sem zq.sl→Sem zg→Sem zg→Option (zx (List.map some [Sh.expr,zg]))
 | 0=>fun _ _ _=>none
 | n+1=>Oh (fun x0 x1 x2=>jg (dJ n x0 x1 x2)) fun x0 x1 x2=>(dJ n x0 x1 x2).isSome
theorem MH:zA HL.P 238 Tryz.f238 3:=aL (by kernel_rfl)
theorem C9:∀ n,FK 238 (zC [zq.sl,zg,zg] [Sh.expr,zg] (fun x=>(dJ n x.1 x.2.1 x.2.2.1).isSome) fun x=>((jg (dJ n x.1 x.2.1 x.2.2.1)).1,(jg (dJ n x.1 x.2.1 x.2.2.1)).2,()))
 | 0=>cQ ⟨Tryz.f238,MH.1,MH.2.1,MH.2.2.1⟩ (fun _=>rfl)
 | n+1=>g6 (E:=uX (fun x0 x1 x2=>jg (dJ n x0 x1 x2)) (fun x0 x1 x2=>(dJ n x0 x1 x2).isSome)) (ks:=[zq.sl,zg,zg]) (outs:=[Sh.expr,zg]) (keep:=Gq) (gas:=400) (n:=100000000) (e:=DC) (t:=OL (fun x0 x1 x2=>jg (dJ n x0 x1 x2)) (fun x0 x1 x2=>(dJ n x0 x1 x2).isSome)) (i:=fun x=>Mr (fun x0 x1 x2=>jg (dJ n x0 x1 x2)) (fun x0 x1 x2=>(dJ n x0 x1 x2).isSome) x.1 x.2.1 x.2.2.1) (FN (C9 n)) (Yg _ _) (fun x=>Xf _ _ x.1 x.2.1 x.2.2.1) (Yr _ _) (fun _=>by kernel_rfl) (fun _=>by kernel_rfl)
def EM (x0:Sem zq.sl) (x1:Sem zg) (x2:Sem zg):Option (zx (List.map some [Sh.expr,zg])):=dJ 16 x0 x1 x2
def EL (x0:Sem zq.sl) (x1:Sem zg) (x2:Sem zg):Bool:=(EM x0 x1 x2).isSome
def Cr (x0:Sem zq.sl) (x1:Sem zg) (x2:Sem zg):Sem Sh.expr×Sem zg:=jg (EM x0 x1 x2)
def SN:zD:=zC [zq.sl,zg,zg] [Sh.expr,zg] (fun x=>EL x.1 x.2.1 x.2.2.1) fun x=>((Cr x.1 x.2.1 x.2.2.1).1,(Cr x.1 x.2.1 x.2.2.1).2,())
theorem PS:FK 238 SN:=C9 16

def TC:=HL.add 238 SN
theorem Af:zm TC:=Ae.add PS
end

noncomputable def zdG (x0:Sem zq.sl):Tr (Empty ⊕ zV):=
 let a0:=Cr x0 0 0
 let a1:=decide (a0.2 < 0)
 let a2:=zB a0.1
 Tr.chk (EL x0 0 0)
 (Tr.chk (bif a1 then true else wK a2)
  (Tr.br (bif a1 then true else !EB a2) (Tr.re (AV.tup [AV.agg [AV.str [],AV.int .i64 0,AV.int .i64 0,AV.str [],AV.str [],AV.nils],AV.int .i64 0,AV.kb false]) []) (Tr.re (AV.tup [AV.agg [AV.str (ze.op a0.1),AV.int .i64 (ze.v a0.1).1,AV.int .i64 (ze.v a0.1).2.1,AV.str (ze.v a0.1).2.2,AV.str (ze.s a0.1),AV.sl Sh.expr (ze.l a0.1)],AV.int .i64 a0.2,AV.kb true])
  [])))
noncomputable def w4 (x0:Sem zq.sl):=zT [Sh.expr,zg,Sh.bool] t0 100000000 (zdG x0)
noncomputable def EK (x0:Sem zq.sl):=(w4 x0).isSome
noncomputable def IV (x0:Sem zq.sl):=o3 (w4 x0)
noncomputable def SF:=FT [zq.sl] [Sh.expr,zg,Sh.bool] fun x=>w4 x.1
theorem PL:FK 182 SF:=Af.T1 (f:=Tryz.f182) (keep:=k0) (e:=e0)

noncomputable def HM:=TC.add 182 SF
theorem Ag:zm HM:=Af.add PL
open Go

theorem gI.cells {C:cr} {w:World} {U:Nat→Prop} {ρ:Nat→Option Value} {hp:Nat→AO} {k:Nat} {cs cs':List AV} (hH:gI C w U ρ hp) (hk:hp k=.box cs)
  (hr:∀ vals,cu w U ρ cs vals→cu w U ρ cs' vals):gI C w U ρ (fun j=>if j=k then .box cs' else hp j):=by
 have hown:∀ id b,zO ρ id (if id=k then .box cs' else hp id) b→zO ρ id (hp id) b:=by
  intro id b ho
  by_cases hid:id=k
  ·subst hid
   rw [if_pos rfl] at ho
   rw [hk]
   obtain ⟨_,v,hv,hb⟩:=ho
   exact ⟨rfl,v,hv,hb⟩
  ·rw [if_neg hid] at ho; exact ho
 refine ⟨fun id=>?_,fun id1 id2 b o1 o2=>hH.inj id1 id2 b (hown _ _ o1) (hown _ _ o2),fun id b o=>hH.blk id b (hown _ _ o)⟩
 by_cases hid:id=k
 ·subst hid
  have h0:=hH.ob id
  rw [hk] at h0
  obtain ⟨b,T,vals,h1,h2,h3,h4,h5⟩:=h0
  simp only [if_true]
  exact ⟨b,T,vals,h1,h2,h3,hr _ h4,h5⟩
 ·simp only [if_neg hid]
  exact hH.ob id

def aP (ps qs:List CP) (y:zu ps) (z:zu qs):List AO:=.box (fI 2 ps y)::.box (fI (2+aC ps) qs z)::(fJ ps y++fJ qs z)

theorem l7 (ps qs:List CP) (y:zu ps) (z:zu qs):(aP ps qs y z).length=aC ps+aC qs+2:=by
 simp [aP,bw]

theorem gI.box2 {C:cr} {w:World} {U:Nat→Prop} {ρ:Nat→Option Value} {cs ds:List AV} {os:List AO} {ps qs:List CP} {y:zu ps} {z:zu qs} (hH:gI C w U ρ (fun j=>((AO.box cs::AO.box ds::os).getD j .dead))) (hl:os.length=aC ps+aC qs)
  (hm:cg (ix (.box cs::.box ds::os)) 2 ps cs=some y) (hm2:cg (ix (.box cs::.box ds::os)) (2+aC ps) qs ds=some z):gI C w U ρ (fun j=>(aP ps qs y z).getD j .dead):=by
 have h1:=hH.cells (k:=0) (cs:=cs) (cs':=fI 2 ps y) rfl (fun vals h=>(ep ps 2 cs y vals hm h).1)
 have h2:=h1.cells (k:=1) (cs:=ds) (cs':=fI (2+aC ps) qs z) rfl (fun vals h=>(ep qs _ ds z vals hm2 h).1)
 obtain ⟨b0,T0,v0,_,_,_,r0,_⟩:=hH.ob 0
 obtain ⟨b1,T1,v1,_,_,_,r1,_⟩:=hH.ob 1
 have k1:=(ep ps 2 cs y v0.toList hm r0).2
 have k2:=(ep qs _ ds z v1.toList hm2 r1).2
 have e:(fun j=>(aP ps qs y z).getD j .dead)=fun j=>if j=1 then .box (fI (2+aC ps) qs z) else if j=0 then .box (fI 2 ps y) else (AO.box cs::AO.box ds::os).getD j .dead:=by
  funext j
  match j with
  | 0=>rfl
  | 1=>rfl
  | j+2=>
   rw [if_neg (by omega),if_neg (by omega)]
   simp only [aP,yx]
   by_cases hj:j < aC ps
   ·have hj':j < (fJ ps y).length:=by rw [bw]; exact hj
    have:=k1 j _ (zI hj')
    simp only [ix,pf 2 j,yx] at this
    rw [this,aD,jK hj',zI hj']
    rfl
   ·by_cases hj2:j < aC ps+aC qs
    ·have hj':j - aC ps < (fJ qs z).length:=by rw [bw]; omega
     have:=k2 (j - aC ps) _ (zI hj')
     rw [show 2+aC ps+(j - aC ps)=j+2 by omega] at this
     simp only [ix,yx] at this
     rw [this,aD,kM (by rw [bw]; omega),bw,zI hj']
     rfl
    ·rw [aD,aD,dh (by simp [bw]; omega),dh (by omega)]
 rw [e]
 exact h2

def te (ps qs:List CP) (outs:List Sh) (r:AV) (h:List AO):Option (zx (outs.map some)×zu ps×zu qs):=match h with
 | .box cs::.box ds::os=>if os.length=aC ps+aC qs then match ae [] outs r,cg (ix (.box cs::.box ds::os)) 2 ps cs,cg (ix (.box cs::.box ds::os)) (2+aC ps) qs ds with
   | some a,some y,some z=>some (a,y,z)
   | _,_,_=>none
  else none
 | _=>none

def Th (ps qs:List CP) (ks outs:List Sh) (ps' qs':List CP) (c:zu ps→zu qs→zx (ks.map some)→Bool) (g:zu ps→zu qs→zx (ks.map some)→zx (outs.map some)×zu ps'×zu qs'):cz (none::none::ks.map some):=fun x h=>match x.1,x.2.1,h with
 | .ptr 0 0,.ptr 1 0,.box cs::.box ds::os=>if os.length=aC ps+aC qs then match cg (ix (.box cs::.box ds::os)) 2 ps cs,cg (ix (.box cs::.box ds::os)) (2+aC ps) qs ds with
   | some y,some z=>.chk (c y z x.2.2) (.ok (sE outs (g y z x.2.2).1,aP ps' qs' (g y z x.2.2).2.1 (g y z x.2.2).2.2))
   | _,_=>.err
  else .err
 | _,_,_=>.err

def Hz (ps qs:List CP) (ks outs:List Sh) (ps' qs':List CP) (c:zu ps→zu qs→zx (ks.map some)→Bool) (g:zu ps→zu qs→zx (ks.map some)→zx (outs.map some)×zu ps'×zu qs'):zD:=zS (none::none::ks.map some) (Th ps qs ks outs ps' qs' c g)

theorem KV {P:Program} {gl:Nat→AV} {E:bq} {k:FuncId} {f:Func} {ps qs:List CP} {ks outs:List Sh} {ps' qs':List CP} {c:zu ps→zu qs→zx (ks.map some)→Bool} {g:zu ps→zu qs→zx (ks.map some)→zx (outs.map some)×zu ps'×zu qs'} (hf:zA E.P k f (ks.length+2))
  (h:∀ y z x,c y z x=true→∀ C:cr,(∀ id,aC ps+aC qs+2≤id→C.ρ0 id=none)→Reach E C k (aA f) (af f.ntmps (.ptr 0 0::.ptr 1 0::gm (ks.map some) x) (aP ps qs y z)) (fun r h=>te ps' qs' outs r h=some (g y z x))) (qp:E.P=P:=by rfl) (qg:E.gl=gl:=by rfl):
  lL P gl k (Hz ps qs ks outs ps' qs' c g):=by
 subst qp qg
 refine bt (by simpa using hf) fun x h0 res hx C hC=>?_
 obtain ⟨x0,x1,x⟩:=x
 unfold Th at hx
 simp only at hx
 split at hx
 ·rename_i cs ds os
  split at hx
  ·rename_i hos
   split at hx
   ·rename_i y z hy hz
    simp only [Tr.val] at hx
    split at hx
    ·rename_i hc
     simp only [aq] at hx
     subst hx
     have hR:=h y z x hc C (fun id hid=>hC id (by simpa [hos] using hid))
     intro b cs' a w U ρ h1 h2 hcn hW
     have hH:gI C w U ρ (fun j=>((AO.box cs::AO.box ds::os).getD j .dead)):=hcn.hp
     have hcn':Cn C (af f.ntmps (.ptr 0 0::.ptr 1 0::gm (ks.map some) x) (aP ps qs y z)) a w U ρ:=
      ⟨hcn.tm,hH.box2 hos hy hz,fun id hid=>hcn.new id (by have hid:(aP ps qs y z).length≤id:=hid; rw [l7] at hid; simpa [af,hos] using hid),hcn.df,hcn.r0⟩
     obtain ⟨e,w',fr,⟨v,r,h',U',ρ',he,hq,hrv,hH',hnew,hr0,hWd⟩,hcm,hf',hl⟩:=hR b cs' a w U ρ h1 h2 hcn' hW
     unfold te at hq
     split at hq
     ·rename_i cs2 ds2 os2
      split at hq
      ·rename_i hos2
       split at hq
       ·rename_i a' y' z' ha' hy' hz'
        simp only [aq] at hq
        refine ⟨e,w',fr,⟨v,_,_,U',ρ',he,by rw [← hq],AR ha' hrv,hH'.box2 hos2 hy' hz',fun id hid=>hnew id (by rw [l7] at hid; simpa [hos2] using hid),hr0,hWd⟩,hcm,hf',hl⟩
       ·cases hq
      ·cases hq
     ·cases hq
    ·simp at hx
   ·simp at hx
  ·simp at hx
 ·simp at hx

def Es {σ:Type} (outs:List Sh) (ps' qs':List CP) (t:σ→Tr (σ ⊕ zV)) (n:Nat) (i:Tr (σ ⊕ zV)):Option (zx (outs.map some)×zu ps'×zu qs'):=(bW t n i).bind fun r=>te ps' qs' outs r.1 r.2

theorem KU {P:Program} {gl:Nat→AV} {σ:Type} {E:bq} {k:FuncId} {f:Func} {ps qs:List CP} {ks outs:List Sh} {ps' qs':List CP} {keep:Nat→zY} {gas n:Nat} {e:σ→Nat×St} {t:σ→Tr (σ ⊕ zV)} {i:zu ps→zu qs→zx (ks.map some)→Tr (σ ⊕ zV)} {c:zu ps→zu qs→zx (ks.map some)→Bool} {g:zu ps→zu qs→zx (ks.map some)→zx (outs.map some)×zu ps'×zu qs'}
  (hE:zm E) (hf:zA E.P k f (ks.length+2)) (hgo:∀ y z x,run E (aC ps+aC qs+2) keep f.results.toList gas (aA f) (af f.ntmps (.ptr 0 0::.ptr 1 0::gm (ks.map some) x) (aP ps qs y z))=(i y z x).map (lf f e))
  (hon:∀ s,run E (aC ps+aC qs+2) keep f.results.toList gas (zy f (e s).1) (e s).2=(t s).map (lf f e))
  (hc:∀ y z x,c y z x=(Es outs ps' qs' t n (i y z x)).isSome) (hg:∀ y z x,g y z x=(Es outs ps' qs' t n (i y z x)).getD (bF outs,fK ps',fK qs')) (qp:E.P=P:=by rfl) (qg:E.gl=gl:=by rfl):lL P gl k (Hz ps qs ks outs ps' qs' c g):=by
 subst qp qg
 refine KV hf fun y z x hcx C hC=>?_
 rw [hc,Option.isSome_iff_exists] at hcx
 obtain ⟨u,hu⟩:=hcx
 rw [hg,hu]
 unfold Es at hu
 rw [eS] at hu
 obtain ⟨r,h1,h2⟩:=hu
 exact km (Q:=fun r h=>te ps' qs' outs r h=some u) hE hf hC (n+1) _ _ r (by rw [jd hon (hgo y z x)]; exact h1) h2


abbrev MP:=jL []
theorem X4:zA HM.P 110 Tryz.f110 1:=aL (by kernel_rfl)
noncomputable def Mj (y:zu zJ):Tr (Empty ⊕ zV):=
 let a0:=(y.1,y.2.1,y.2.2.1,())
 let a1:=mG a0 [45]
 let a2:=IntKind.i64.wrap (a1.2.2.1+2)
 let a3:=(↑(length a1.2.1):Int)
 let a4:=decide (0≤a1.2.2.1)
 let a5:=List.drop (toNat a1.2.2.1) a1.2.1
 let a6:=List.take (a2.toNat - toNat a1.2.2.1) a5
 let a7:=IV a6
 let a8:=IntKind.i64.wrap (a1.2.2.1+1)
 let a9:=List.take (a8.toNat - toNat a1.2.2.1) a5
 let a10:=IV a9
 Tr.chk (jO a0 [45])
 (Tr.br a1.1
  (Tr.br (decide (a2 > a3)) (Tr.re (AV.agg [AV.int .i64 0,AV.int .i64 0,AV.str []]) [AO.box [AV.sl zq a1.2.1,AV.int .i64 a1.2.2.1,AV.kb false]]) (Tr.chk (a4&&decide (a1.2.2.1≤a2)&&decide (a2≤a3)) (Tr.chk (EK a6) (Tr.br (bif !a7.2.2 then true else bif a7.2.1 != 2 then true else !ze.op a7.1==[108,105,116])
  (Tr.re (AV.agg [AV.int .i64 (ze.v a7.1).1,AV.int .i64 (ze.v a7.1).2.1,AV.str (ze.v a7.1).2.2]) [AO.box [AV.sl zq a1.2.1,AV.int .i64 a2,AV.kb false]]) (Tr.re (AV.agg [AV.int .i64 (ze.v a7.1).1,AV.int .i64 (ze.v a7.1).2.1,AV.str (ze.v a7.1).2.2]) (bT zJ (a1.2.1,a2,a1.2.2.2)))))))
  (Tr.br (decide (a8 > a3)) (Tr.re (AV.agg [AV.int .i64 0,AV.int .i64 0,AV.str []]) [AO.box [AV.sl zq a1.2.1,AV.int .i64 a1.2.2.1,AV.kb false]]) (Tr.chk (a4&&decide (a1.2.2.1≤a8)&&decide (a8≤a3)) (Tr.chk (EK a9) (Tr.br (bif !a10.2.2 then true else bif a10.2.1 != 1 then true else !ze.op a10.1==[108,105,116])
  (Tr.re (AV.agg [AV.int .i64 (ze.v a10.1).1,AV.int .i64 (ze.v a10.1).2.1,AV.str (ze.v a10.1).2.2]) [AO.box [AV.sl zq a1.2.1,AV.int .i64 a8,AV.kb false]]) (Tr.re (AV.agg [AV.int .i64 (ze.v a10.1).1,AV.int .i64 (ze.v a10.1).2.1,AV.str (ze.v a10.1).2.2]) (bT zJ (a1.2.1,a8,a1.2.2.2))))))))
theorem W0 (y:zu zJ):rn HM 1 MP Tryz.f110 [AV.ptr 0 0] (bT zJ y)=(Mj y).map (lf Tryz.f110 e0):=by kernel_rfl
noncomputable def Ot (y:zu zJ):Option (zx (List.map some [zf])×zu zJ):=yf [zf] zJ t0 100000000 (Mj y)
noncomputable def G1 (y:zu zJ):Bool:=(Ot y).isSome
noncomputable def I1 (y:zu zJ):(Sem zf)×zu zJ:=(fun r:zx (List.map some [zf])×zu zJ=>(r.1.1,r.2)) ((Ot y).getD (bF [zf],fK zJ))
noncomputable def R3:zD:=xW zJ [] [zf] zJ (fun y _=>G1 y) fun y _=>(((I1 y).1,()),(I1 y).2)
theorem Pb:FK 110 R3:=qG (ps:=zJ) (ks:=[]) (outs:=[zf]) (keep:=MP) (gas:=400) (n:=100000000) (e:=e0) (t:=t0) (i:=fun y x=>Mj y) Ag X4 (fun y x=>W0 y) (KG _ _ _ _ _) (fun _ _=>by kernel_rfl) (fun _ _=>by kernel_rfl)

noncomputable def DZ:=HM.add 110 R3
theorem Ah:zm DZ:=Ag.add Pb
noncomputable section
abbrev Qv:List CP:=[.d .str,.d .str,.d .str,.nil,.vec zi,.d .str,.nil,.nil,.d .str,.d zg,.d zg,.d .str,.d .str,.nil,.nil,.nil,.d .str,.d zg,.d zg,.d .str,.d .str,.nil,.d .str]
abbrev nK:List CP:=[.d .str,.d .str,.d .str,.nil,.vec zi,.d .str,.vec .str,.vec bG,.d .str,.d zg,.d zg,.d .str,.d .str,.nil,.nil,.nil,.d .str,.d zg,.d zg,.d .str,.d .str,.nil,.d .str]
abbrev gf:List CP:=[.d .str,.d .str,.d .str,.nil,.vec zi,.d .str,.vec .str,.vec bG,.d .expr,.nil,.nil,.d .str,.d zg,.d zg,.d .str,.d .str,.nil,.d .str]

abbrev Gm:Nat→zY:=fun j=>if j=4 then { slots:=[0,1],prom:=[(1,some 4,zi)] } else if j=23 then { slots:=[0,1,5],prom:=[(1,some 6,.str),(1,some 7,bG)] } else if j=500013 then { slots:=[0,1,4,47],cut:=true } else if j=500025 then { slots:=[0,1,5,85],cut:=true } else if j=500029 then { slots:=[0,1,5,107],cut:=true } else if j=500035 then { slots:=[0,1,5,133],cut:=true } else if j=1000000 then { prom:=[(1,some 4,zi),(1,some 6,.str),(1,some 7,bG),(1,some 13,.expr)],sett:=[(1,13)] } else { }
inductive bu where
 | h4 (z0:zu zJ) (z1:zu Qv)
 | h500013 (b47:Sem Sh.bool) (z0:zu zJ) (z1:zu Qv) (jc0:Sem Sh.str) (jc1:Int)
 | h23 (i5:Int) (z1:zu nK) (ja0:List (Sem zq)) (ja1:Sem zg) (bh_0_2:Sem Sh.bool)
 | h500025 (i5:Int) (b85:Sem Sh.bool) (z0:zu zJ) (z1:zu nK)
 | h500025b (i5:Int) (z0:zu zJ) (z1:zu nK)
 | h500029 (i5:Int) (b107:Sem Sh.bool) (z0:zu zJ) (z1:zu nK)
 | h500029b (i5:Int) (z0:zu zJ) (z1:zu nK)
 | h500035 (i5:Int) (b133:Sem Sh.bool) (z0:zu zJ) (z1:zu nK)
 | h500035b (i5:Int) (z0:zu zJ) (z1:zu nK)
 | h23b (i5:Int) (z1:zu gf) (ja0:List (Sem zq)) (ja1:Sem zg) (bh_0_2:Sem Sh.bool)
 | h23bb (i5:Int) (z1:zu nK) (ja0:List (Sem zq)) (ja1:Sem zg)
 | h500025bb (i5:Int) (b85:Sem Sh.bool) (z0:zu zJ) (z1:zu gf)
 | h500025bbb (i5:Int) (z0:zu zJ) (z1:zu gf)
 | h500029bb (i5:Int) (b107:Sem Sh.bool) (z0:zu zJ) (z1:zu gf)
 | h500029bbb (i5:Int) (z0:zu zJ) (z1:zu gf)
 | h500035bb (i5:Int) (b133:Sem Sh.bool) (z0:zu zJ) (z1:zu gf)
 | h500035bbb (i5:Int) (z0:zu zJ) (z1:zu gf)
 | h23bbb (i5:Int) (z1:zu gf) (ja0:List (Sem zq)) (ja1:Sem zg)
abbrev Dy:bu→Nat×St
 | .h4 z0 z1=>(4,⟨tm 147 [(0,AV.ptr 0 0),(1,AV.ptr 1 0)],[AO.box (bh [] zJ z0),AO.box (bh [2] Qv z1),AO.vec zi z1.2.2.2.1]⟩)
 | .h500013 b47 z0 z1 jc0 jc1=>(500013,⟨tm 147 [(0,AV.ptr 0 0),(1,AV.ptr 1 0),(4,AV.ptr 2 0),(47,AV.bool b47)],[AO.box (bh [] zJ z0),AO.box (bh [3] Qv z1),AO.box [AV.str jc0,AV.int .i64 jc1,AV.kb false],AO.vec zi z1.2.2.2.1]⟩)
 | .h23 i5 z1 ja0 ja1 bh_0_2=>(23,⟨tm 147 [(0,AV.ptr 0 0),(1,AV.ptr 1 0),(5,AV.int .i64 i5)],[AO.box [AV.sl zq ja0,AV.int .i64 ja1,AV.bool bh_0_2],AO.box (bh [2,3,4] nK z1),AO.vec zi z1.2.2.2.1,AO.vec Sh.str z1.2.2.2.2.2.1,AO.vec (Sh.str.pr Sh.str) z1.2.2.2.2.2.2.1]⟩)
 | .h500025 i5 b85 z0 z1=>(500025,⟨tm 147 [(0,AV.ptr 0 0),(1,AV.ptr 1 0),(5,AV.int .i64 i5),(85,AV.bool b85)],[AO.box (bh [] zJ z0),AO.box (bh [2,3,4] nK z1),AO.vec zi z1.2.2.2.1,AO.vec Sh.str z1.2.2.2.2.2.1,AO.vec (Sh.str.pr Sh.str) z1.2.2.2.2.2.2.1]⟩)
 | .h500025b i5 z0 z1=>(500025,⟨tm 147 [(0,AV.ptr 0 0),(1,AV.ptr 1 0),(5,AV.int .i64 i5),(85,AV.kb false)],[AO.box (bh [] zJ z0),AO.box (bh [2,3,4] nK z1),AO.vec zi z1.2.2.2.1,AO.vec Sh.str z1.2.2.2.2.2.1,AO.vec (Sh.str.pr Sh.str) z1.2.2.2.2.2.2.1]⟩)
 | .h500029 i5 b107 z0 z1=>(500029,⟨tm 147 [(0,AV.ptr 0 0),(1,AV.ptr 1 0),(5,AV.int .i64 i5),(107,AV.bool b107)],[AO.box (bh [] zJ z0),AO.box (bh [2,3,4] nK z1),AO.vec zi z1.2.2.2.1,AO.vec Sh.str z1.2.2.2.2.2.1,AO.vec (Sh.str.pr Sh.str) z1.2.2.2.2.2.2.1]⟩)
 | .h500029b i5 z0 z1=>(500029,⟨tm 147 [(0,AV.ptr 0 0),(1,AV.ptr 1 0),(5,AV.int .i64 i5),(107,AV.kb false)],[AO.box (bh [] zJ z0),AO.box (bh [2,3,4] nK z1),AO.vec zi z1.2.2.2.1,AO.vec Sh.str z1.2.2.2.2.2.1,AO.vec (Sh.str.pr Sh.str) z1.2.2.2.2.2.2.1]⟩)
 | .h500035 i5 b133 z0 z1=>(500035,⟨tm 147 [(0,AV.ptr 0 0),(1,AV.ptr 1 0),(5,AV.int .i64 i5),(133,AV.bool b133)],[AO.box (bh [] zJ z0),AO.box (bh [2,3,4] nK z1),AO.vec zi z1.2.2.2.1,AO.vec Sh.str z1.2.2.2.2.2.1,AO.vec (Sh.str.pr Sh.str) z1.2.2.2.2.2.2.1]⟩)
 | .h500035b i5 z0 z1=>(500035,⟨tm 147 [(0,AV.ptr 0 0),(1,AV.ptr 1 0),(5,AV.int .i64 i5),(133,AV.kb false)],[AO.box (bh [] zJ z0),AO.box (bh [2,3,4] nK z1),AO.vec zi z1.2.2.2.1,AO.vec Sh.str z1.2.2.2.2.2.1,AO.vec (Sh.str.pr Sh.str) z1.2.2.2.2.2.2.1]⟩)
 | .h23b i5 z1 ja0 ja1 bh_0_2=>(23,⟨tm 147 [(0,AV.ptr 0 0),(1,AV.ptr 1 0),(5,AV.int .i64 i5)],[AO.box [AV.sl zq ja0,AV.int .i64 ja1,AV.bool bh_0_2],AO.box (bh [2,3,4] gf z1),AO.vec zi z1.2.2.2.1,AO.vec Sh.str z1.2.2.2.2.2.1,AO.vec (Sh.str.pr Sh.str) z1.2.2.2.2.2.2.1]⟩)
 | .h23bb i5 z1 ja0 ja1=>(23,⟨tm 147 [(0,AV.ptr 0 0),(1,AV.ptr 1 0),(5,AV.int .i64 i5)],[AO.box [AV.sl zq ja0,AV.int .i64 ja1,AV.kb false],AO.box (bh [2,3,4] nK z1),AO.vec zi z1.2.2.2.1,AO.vec Sh.str z1.2.2.2.2.2.1,AO.vec (Sh.str.pr Sh.str) z1.2.2.2.2.2.2.1]⟩)
 | .h500025bb i5 b85 z0 z1=>(500025,⟨tm 147 [(0,AV.ptr 0 0),(1,AV.ptr 1 0),(5,AV.int .i64 i5),(85,AV.bool b85)],[AO.box (bh [] zJ z0),AO.box (bh [2,3,4] gf z1),AO.vec zi z1.2.2.2.1,AO.vec Sh.str z1.2.2.2.2.2.1,AO.vec (Sh.str.pr Sh.str) z1.2.2.2.2.2.2.1]⟩)
 | .h500025bbb i5 z0 z1=>(500025,⟨tm 147 [(0,AV.ptr 0 0),(1,AV.ptr 1 0),(5,AV.int .i64 i5),(85,AV.kb false)],[AO.box (bh [] zJ z0),AO.box (bh [2,3,4] gf z1),AO.vec zi z1.2.2.2.1,AO.vec Sh.str z1.2.2.2.2.2.1,AO.vec (Sh.str.pr Sh.str) z1.2.2.2.2.2.2.1]⟩)
 | .h500029bb i5 b107 z0 z1=>(500029,⟨tm 147 [(0,AV.ptr 0 0),(1,AV.ptr 1 0),(5,AV.int .i64 i5),(107,AV.bool b107)],[AO.box (bh [] zJ z0),AO.box (bh [2,3,4] gf z1),AO.vec zi z1.2.2.2.1,AO.vec Sh.str z1.2.2.2.2.2.1,AO.vec (Sh.str.pr Sh.str) z1.2.2.2.2.2.2.1]⟩)
 | .h500029bbb i5 z0 z1=>(500029,⟨tm 147 [(0,AV.ptr 0 0),(1,AV.ptr 1 0),(5,AV.int .i64 i5),(107,AV.kb false)],[AO.box (bh [] zJ z0),AO.box (bh [2,3,4] gf z1),AO.vec zi z1.2.2.2.1,AO.vec Sh.str z1.2.2.2.2.2.1,AO.vec (Sh.str.pr Sh.str) z1.2.2.2.2.2.2.1]⟩)
 | .h500035bb i5 b133 z0 z1=>(500035,⟨tm 147 [(0,AV.ptr 0 0),(1,AV.ptr 1 0),(5,AV.int .i64 i5),(133,AV.bool b133)],[AO.box (bh [] zJ z0),AO.box (bh [2,3,4] gf z1),AO.vec zi z1.2.2.2.1,AO.vec Sh.str z1.2.2.2.2.2.1,AO.vec (Sh.str.pr Sh.str) z1.2.2.2.2.2.2.1]⟩)
 | .h500035bbb i5 z0 z1=>(500035,⟨tm 147 [(0,AV.ptr 0 0),(1,AV.ptr 1 0),(5,AV.int .i64 i5),(133,AV.kb false)],[AO.box (bh [] zJ z0),AO.box (bh [2,3,4] gf z1),AO.vec zi z1.2.2.2.1,AO.vec Sh.str z1.2.2.2.2.2.1,AO.vec (Sh.str.pr Sh.str) z1.2.2.2.2.2.2.1]⟩)
 | .h23bbb i5 z1 ja0 ja1=>(23,⟨tm 147 [(0,AV.ptr 0 0),(1,AV.ptr 1 0),(5,AV.int .i64 i5)],[AO.box [AV.sl zq ja0,AV.int .i64 ja1,AV.kb false],AO.box (bh [2,3,4] gf z1),AO.vec zi z1.2.2.2.1,AO.vec Sh.str z1.2.2.2.2.2.1,AO.vec (Sh.str.pr Sh.str) z1.2.2.2.2.2.2.1]⟩)
theorem X2:zA DZ.P 107 Tryz.f107 2:=aL (by kernel_rfl)
def Mh (y:zu zJ) (z:zu eJ):Tr (bu ⊕ zV):=
 let a0:=(y.1,y.2.1,y.2.2.1,())
 let a1:=zU a0 [84,65,66,76,69]
 let a2:=(a1.1,a1.2.1,a1.2.2.1,())
 let a3:=aJ a2
 let a4:=(a3.2.1,a3.2.2.1,a3.2.2.2.1,())
 Tr.chk (zK a0 [84,65,66,76,69])
 (Tr.chk (ah a2) (Tr.chk (zK a4 [40]) (Tr.to (bu.h4 (zU a4 [40]) ([99,114,101,97,116,101],a3.1,z.2.2.1,[],z.2.2.2)))))
theorem WY (y:zu zJ) (z:zu eJ):rn DZ 2 Gm Tryz.f107 [AV.ptr 0 0,AV.ptr 1 0] (aP zJ eJ y z)=(Mh y z).map (lf Tryz.f107 Dy):=by kernel_rfl
def OI:bu→Tr (bu ⊕ zV)
 | .h4 z0 z1=>
  let a0:=(z0.1,z0.2.1,z0.2.2.1,())
  let a1:=mG a0 [75,69,89]
  let a2:=(a1.2.1,a1.2.2.1,a1.2.2.2.1,())
  let a3:=aJ a2
  let a4:=(a3.2.1,a3.2.2.1,a3.2.2.2.1,())
  let a5:=bc a4 [73,78,84]
  let a6:=(a5.2.1,a5.2.2.1,a5.2.2.2.1,())
  let a7:=bc a6 [78,79,84]
  let a8:=bc a6 [84,69,88,84]
  let a9:=(a8.2.1,a8.2.2.1,a8.2.2.2.1,())
  let a10:=bc a9 [78,79,84]
  let a11:=bc a9 [66,79,79,76]
  let a12:=(a11.2.1,a11.2.2.1,a11.2.2.2.1,())
  let a13:=bc a12 [78,79,84]
  let a14:=(a11.2.1,a11.2.2.1,false,())
  let a15:=bc a14 [78,79,84]
  let a16:=zU a2 [75,69,89]
  let a17:=(a16.1,a16.2.1,a16.2.2.1,())
  let a18:=zU a17 [40]
  let a19:=(a18.1,a18.2.1,a18.2.2.1,())
  let a20:=aJ a19
  let a21:=(a20.2.1,a20.2.2.1,a20.2.2.2.1,())
  let a22:=([],[],z1.2.2.2.2.2)
  let a23:=zU a21 [41]
  let a24:=zU a0 [75,69,89]
  let a25:=(a24.1,a24.2.1,a24.2.2.1,())
  let a26:=zU a25 [40]
  let a27:=(a26.1,a26.2.1,a26.2.2.1,())
  let a28:=aJ a27
  let a29:=(a28.2.1,a28.2.2.1,a28.2.2.2.1,())
  let a30:=zU a29 [41]
  Tr.br z0.2.2.1
  (Tr.chk (jO a0 [75,69,89]) (Tr.br (!a1.1) (Tr.chk (ah a2) (Tr.chk (aN a4 [73,78,84]) (Tr.br a5.1 (Tr.chk (aN a6 [78,79,84]) (Tr.to (bu.h500013 a7.1 a7.2 z1 a3.1 1))) (Tr.chk (aN a6 [84,69,88,84]) (Tr.br a8.1 (Tr.chk (aN a9 [78,79,84]) (Tr.to (bu.h500013 a10.1 a10.2 z1 a3.1 2))) (Tr.chk (aN a9 [66,79,79,76])
  (Tr.br a11.1 (Tr.chk (aN a12 [78,79,84]) (Tr.to (bu.h500013 a13.1 a13.2 z1 a3.1 3))) (Tr.chk (aN a14 [78,79,84]) (Tr.to (bu.h500013 a15.1 a15.2 z1 a3.1 0)))))))))) (Tr.chk (zK a2 [75,69,89]) (Tr.chk (zK a17 [40]) (Tr.chk (ah a19) (Tr.chk (zK a21 [41]) (Tr.to (bu.h23 0 (z1.1,z1.2.1,z1.2.2.1,z1.2.2.2.1,a20.1,a22) a23.1 a23.2.1 a23.2.2.1))))))))
  (Tr.chk (zK a0 [75,69,89]) (Tr.chk (zK a25 [40]) (Tr.chk (ah a27) (Tr.chk (zK a29 [41]) (Tr.to (bu.h23 0 (z1.1,z1.2.1,z1.2.2.1,z1.2.2.2.1,a28.1,a22) a30.1 a30.2.1 a30.2.2.1))))))
 | .h500013 b47 z0 z1 jc0 jc1=>
  let a0:=(z0.1,z0.2.1,z0.2.2.1,())
  let a1:=[(jc0,jc1,true)]
  let a2:=zU a0 [78,85,76,76]
  let a3:=(a2.1,a2.2.1,a2.2.2.1,())
  let a4:=[(jc0,jc1,false)]
  Tr.br b47
  (Tr.chk (zK a0 [78,85,76,76]) (Tr.chk (decide (z1.2.2.2.1.length+a1.length≤1073741824)) (Tr.chk (zK a3 [44]) (Tr.to (bu.h4 (zU a3 [44]) (z1.1,z1.2.1,z1.2.2.1,z1.2.2.2.1++a1,z1.2.2.2.2))))))
  (Tr.chk (decide (z1.2.2.2.1.length+a4.length≤1073741824)) (Tr.chk (zK a0 [44]) (Tr.to (bu.h4 (zU a0 [44]) (z1.1,z1.2.1,z1.2.2.1,z1.2.2.2.1++a4,z1.2.2.2.2)))))
 | .h23 i5 z1 ja0 ja1 bh_0_2=>
  let a0:=(ja0,ja1,bh_0_2,())
  let a1:=bc a0 [44]
  let a2:=(a1.2.1,a1.2.2.1,a1.2.2.2.1,())
  let a3:=bc a2 [85,78,73,81,85,69]
  let a4:=(z1.1,z1.2.1,z1.2.2.1,z1.2.2.2.1,z1.2.2.2.2.1,z1.2.2.2.2.2.1,z1.2.2.2.2.2.2.1,ze.mk z1.2.2.2.2.2.2.2.1 (z1.2.2.2.2.2.2.2.2.1,z1.2.2.2.2.2.2.2.2.2.1,z1.2.2.2.2.2.2.2.2.2.2.1) z1.2.2.2.2.2.2.2.2.2.2.2.1 [],z1.2.2.2.2.2.2.2.2.2.2.2.2)
  Tr.br bh_0_2
  (Tr.chk (aN a0 [44]) (Tr.br a1.1 (Tr.br (i5==0) (Tr.chk (aN a2 [85,78,73,81,85,69]) (Tr.to (bu.h500025 i5 a3.1 a3.2 z1))) (Tr.to (bu.h500025b i5 a1.2 z1))) (Tr.chk (zK a2 [41]) (Tr.re (AV.tup []) (aP zJ gf (zU a2 [41]) a4)))))
  (Tr.chk (zK a0 [41]) (Tr.re (AV.tup []) (aP zJ gf (zU a0 [41]) a4)))
 | .h500025 i5 b85 z0 z1=>
  let a0:=(z0.1,z0.2.1,z0.2.2.1,())
  let a1:=zU a0 [40]
  let a2:=(a1.1,a1.2.1,a1.2.2.1,())
  let a3:=aJ a2
  let a4:=[a3.1]
  let a5:=(a3.2.1,a3.2.2.1,a3.2.2.2.1,())
  let a6:=zU a5 [41]
  let a7:=bc a0 [82,69,70,69,82,69,78,67,69,83]
  Tr.br b85
  (Tr.chk (zK a0 [40]) (Tr.chk (ah a2) (Tr.chk (decide (z1.2.2.2.2.2.1.length+a4.length≤1073741824)) (Tr.chk (zK a5 [41]) (Tr.to (bu.h23 i5 (z1.1,z1.2.1,z1.2.2.1,z1.2.2.2.1,z1.2.2.2.2.1,z1.2.2.2.2.2.1++a4,z1.2.2.2.2.2.2) a6.1 a6.2.1 a6.2.2.1))))))
  (Tr.br (decide (i5≤1)) (Tr.chk (aN a0 [82,69,70,69,82,69,78,67,69,83]) (Tr.to (bu.h500029 i5 a7.1 a7.2 z1))) (Tr.to (bu.h500029b i5 z0 z1)))
 | .h500025b i5 z0 z1=>
  let a0:=(z0.1,z0.2.1,z0.2.2.1,())
  let a1:=bc a0 [82,69,70,69,82,69,78,67,69,83]
  Tr.br (decide (i5≤1)) (Tr.chk (aN a0 [82,69,70,69,82,69,78,67,69,83]) (Tr.to (bu.h500029 i5 a1.1 a1.2 z1)))
  (Tr.to (bu.h500029b i5 z0 z1))
 | .h500029 i5 b107 z0 z1=>
  let a0:=(z0.1,z0.2.1,z0.2.2.1,())
  let a1:=zU a0 [40]
  let a2:=(a1.1,a1.2.1,a1.2.2.1,())
  let a3:=aJ a2
  let a4:=(a3.2.1,a3.2.2.1,a3.2.2.2.1,())
  let a5:=zU a4 [41]
  let a6:=(a5.1,a5.2.1,a5.2.2.1,())
  let a7:=aJ a6
  let a8:=[(a3.1,a7.1)]
  let a9:=mG a0 [67,72,69,67,75]
  Tr.br b107
  (Tr.chk (zK a0 [40]) (Tr.chk (ah a2) (Tr.chk (zK a4 [41]) (Tr.chk (ah a6) (Tr.chk (decide (z1.2.2.2.2.2.2.1.length+a8.length≤1073741824)) (Tr.to (bu.h23 1 (z1.1,z1.2.1,z1.2.2.1,z1.2.2.2.1,z1.2.2.2.2.1,z1.2.2.2.2.2.1,z1.2.2.2.2.2.2.1++a8,z1.2.2.2.2.2.2.2) a7.2.1 a7.2.2.1 a7.2.2.2.1)))))))
  (Tr.br (decide (i5≤2)) (Tr.chk (jO a0 [67,72,69,67,75]) (Tr.to (bu.h500035 i5 a9.1 a9.2 z1))) (Tr.to (bu.h500035b i5 z0 z1)))
 | .h500029b i5 z0 z1=>
  let a0:=(z0.1,z0.2.1,z0.2.2.1,())
  let a1:=mG a0 [67,72,69,67,75]
  Tr.br (decide (i5≤2)) (Tr.chk (jO a0 [67,72,69,67,75]) (Tr.to (bu.h500035 i5 a1.1 a1.2 z1))) (Tr.to (bu.h500035b i5 z0 z1))
 | .h500035 i5 b133 z0 z1=>
  let a0:=(z0.1,z0.2.1,z0.2.2.1,())
  let a1:=da a0 [67,72,69,67,75]
  Tr.br b133
  (Tr.chk (ck a0 [67,72,69,67,75]) (Tr.to (bu.h23b 3 (z1.1,z1.2.1,z1.2.2.1,z1.2.2.2.1,z1.2.2.2.2.1,z1.2.2.2.2.2.1,z1.2.2.2.2.2.2.1,a1.1,z1.2.2.2.2.2.2.2.2.2.2.2.2) a1.2.1 a1.2.2.1 a1.2.2.2.1)))
  (Tr.to (bu.h23bb i5 z1 z0.1 z0.2.1))
 | .h500035b i5 z0 z1=>
  Tr.to (bu.h23bb i5 z1 z0.1 z0.2.1)
 | .h23b i5 z1 ja0 ja1 bh_0_2=>
  let a0:=(ja0,ja1,bh_0_2,())
  let a1:=bc a0 [44]
  let a2:=(a1.2.1,a1.2.2.1,a1.2.2.2.1,())
  let a3:=bc a2 [85,78,73,81,85,69]
  Tr.br bh_0_2
  (Tr.chk (aN a0 [44]) (Tr.br a1.1 (Tr.br (i5==0) (Tr.chk (aN a2 [85,78,73,81,85,69]) (Tr.to (bu.h500025bb i5 a3.1 a3.2 z1))) (Tr.to (bu.h500025bbb i5 a1.2 z1))) (Tr.chk (zK a2 [41]) (Tr.re (AV.tup []) (aP zJ gf (zU a2 [41]) z1)))))
  (Tr.chk (zK a0 [41]) (Tr.re (AV.tup []) (aP zJ gf (zU a0 [41]) z1)))
 | .h23bb _ z1 ja0 ja1=>
  let a0:=(ja0,ja1,false,())
  Tr.chk (zK a0 [41])
  (Tr.re (AV.tup []) (aP zJ gf (zU a0 [41]) (z1.1,z1.2.1,z1.2.2.1,z1.2.2.2.1,z1.2.2.2.2.1,z1.2.2.2.2.2.1,z1.2.2.2.2.2.2.1,ze.mk z1.2.2.2.2.2.2.2.1 (z1.2.2.2.2.2.2.2.2.1,z1.2.2.2.2.2.2.2.2.2.1,z1.2.2.2.2.2.2.2.2.2.2.1) z1.2.2.2.2.2.2.2.2.2.2.2.1 [],z1.2.2.2.2.2.2.2.2.2.2.2.2)))
 | .h500025bb i5 b85 z0 z1=>
  let a0:=(z0.1,z0.2.1,z0.2.2.1,())
  let a1:=zU a0 [40]
  let a2:=(a1.1,a1.2.1,a1.2.2.1,())
  let a3:=aJ a2
  let a4:=[a3.1]
  let a5:=(a3.2.1,a3.2.2.1,a3.2.2.2.1,())
  let a6:=zU a5 [41]
  let a7:=bc a0 [82,69,70,69,82,69,78,67,69,83]
  Tr.br b85
  (Tr.chk (zK a0 [40]) (Tr.chk (ah a2) (Tr.chk (decide (z1.2.2.2.2.2.1.length+a4.length≤1073741824)) (Tr.chk (zK a5 [41]) (Tr.to (bu.h23b i5 (z1.1,z1.2.1,z1.2.2.1,z1.2.2.2.1,z1.2.2.2.2.1,z1.2.2.2.2.2.1++a4,z1.2.2.2.2.2.2) a6.1 a6.2.1 a6.2.2.1))))))
  (Tr.br (decide (i5≤1)) (Tr.chk (aN a0 [82,69,70,69,82,69,78,67,69,83]) (Tr.to (bu.h500029bb i5 a7.1 a7.2 z1))) (Tr.to (bu.h500029bbb i5 z0 z1)))
 | .h500025bbb i5 z0 z1=>
  let a0:=(z0.1,z0.2.1,z0.2.2.1,())
  let a1:=bc a0 [82,69,70,69,82,69,78,67,69,83]
  Tr.br (decide (i5≤1)) (Tr.chk (aN a0 [82,69,70,69,82,69,78,67,69,83]) (Tr.to (bu.h500029bb i5 a1.1 a1.2 z1)))
  (Tr.to (bu.h500029bbb i5 z0 z1))
 | .h500029bb i5 b107 z0 z1=>
  let a0:=(z0.1,z0.2.1,z0.2.2.1,())
  let a1:=zU a0 [40]
  let a2:=(a1.1,a1.2.1,a1.2.2.1,())
  let a3:=aJ a2
  let a4:=(a3.2.1,a3.2.2.1,a3.2.2.2.1,())
  let a5:=zU a4 [41]
  let a6:=(a5.1,a5.2.1,a5.2.2.1,())
  let a7:=aJ a6
  let a8:=[(a3.1,a7.1)]
  let a9:=mG a0 [67,72,69,67,75]
  Tr.br b107
  (Tr.chk (zK a0 [40]) (Tr.chk (ah a2) (Tr.chk (zK a4 [41]) (Tr.chk (ah a6) (Tr.chk (decide (z1.2.2.2.2.2.2.1.length+a8.length≤1073741824)) (Tr.to (bu.h23b 1 (z1.1,z1.2.1,z1.2.2.1,z1.2.2.2.1,z1.2.2.2.2.1,z1.2.2.2.2.2.1,z1.2.2.2.2.2.2.1++a8,z1.2.2.2.2.2.2.2) a7.2.1 a7.2.2.1 a7.2.2.2.1)))))))
  (Tr.br (decide (i5≤2)) (Tr.chk (jO a0 [67,72,69,67,75]) (Tr.to (bu.h500035bb i5 a9.1 a9.2 z1))) (Tr.to (bu.h500035bbb i5 z0 z1)))
 | .h500029bbb i5 z0 z1=>
  let a0:=(z0.1,z0.2.1,z0.2.2.1,())
  let a1:=mG a0 [67,72,69,67,75]
  Tr.br (decide (i5≤2)) (Tr.chk (jO a0 [67,72,69,67,75]) (Tr.to (bu.h500035bb i5 a1.1 a1.2 z1))) (Tr.to (bu.h500035bbb i5 z0 z1))
 | .h500035bb i5 b133 z0 z1=>
  let a0:=(z0.1,z0.2.1,z0.2.2.1,())
  let a1:=da a0 [67,72,69,67,75]
  Tr.br b133
  (Tr.chk (ck a0 [67,72,69,67,75]) (Tr.to (bu.h23b 3 (z1.1,z1.2.1,z1.2.2.1,z1.2.2.2.1,z1.2.2.2.2.1,z1.2.2.2.2.2.1,z1.2.2.2.2.2.2.1,a1.1,z1.2.2.2.2.2.2.2.2) a1.2.1 a1.2.2.1 a1.2.2.2.1)))
  (Tr.to (bu.h23bbb i5 z1 z0.1 z0.2.1))
 | .h500035bbb i5 z0 z1=>
  Tr.to (bu.h23bbb i5 z1 z0.1 z0.2.1)
 | .h23bbb _ z1 ja0 ja1=>
  let a0:=(ja0,ja1,false,())
  Tr.chk (zK a0 [41]) (Tr.re (AV.tup []) (aP zJ gf (zU a0 [41]) z1))
theorem Yn:∀ s,run DZ 2 Gm (Func.results Tryz.f107).toList 400 (zy Tryz.f107 (Dy s).1) (Dy s).2=(OI s).map (lf Tryz.f107 Dy):=by intro s; cases s <;> kernel_rfl
def AN (y:zu zJ) (z:zu eJ):Option (zx (List.map some [])×zu zJ×zu gf):=Es [] zJ gf OI 100000000 (Mh y z)
def AM (y:zu zJ) (z:zu eJ):Bool:=(AN y z).isSome
def EP (y:zu zJ) (z:zu eJ):zu zJ×zu gf:=(fun r:zx (List.map some [])×zu zJ×zu gf=>r.2) ((AN y z).getD (bF [],fK zJ,fK gf))
def R1:zD:=Hz zJ eJ [] [] zJ gf (fun y z _=>AM y z) fun y z _=>((),EP y z)
theorem O9:FK 107 R1:=KU (ps:=zJ) (qs:=eJ) (ks:=[]) (outs:=[]) (keep:=Gm) (gas:=400) (n:=100000000) (e:=Dy) (t:=OI) (i:=fun y z x=>Mh y z) Ah X2 (fun y z x=>WY y z) Yn (fun _ _ _=>by kernel_rfl) (fun _ _ _=>by kernel_rfl)

def TD:=DZ.add 107 R1
theorem JP:zm TD:=Ah.add O9
end
noncomputable section
abbrev j8:List CP:=[.d .str,.d .str,.d .str,.vec .str,.nil,.d .str,.nil,.nil,.d .expr,.nil,.nil,.d .str,.d zg,.d zg,.d .str,.d .str,.nil,.d .str]
abbrev Qw:List CP:=[.d .str,.d .str,.d .str,.vec .str,.nil,.d .str,.nil,.nil,.d .str,.d zg,.d zg,.d .str,.d .str,.nil,.nil,.nil,.d .str,.d zg,.d zg,.d .str,.d .str,.nil,.d .str]

abbrev Gn:Nat→zY:=fun j=>if j=14 then { slots:=[0,1,4],prom:=[(1,some 3,.str)] } else if j=1000000 then { prom:=[(1,some 3,.str)] } else { }
inductive nM where
 | h14 (z0:zu zJ) (z1:zu Qw)
 | h14b (b4:Sem Sh.bool) (z0:zu zJ) (z1:zu Qw)
abbrev Dz:nM→Nat×St
 | .h14 z0 z1=>(14,⟨tm 117 [(0,AV.ptr 0 0),(1,AV.ptr 1 0),(4,AV.kb true)],[AO.box (bh [] zJ z0),AO.box (bh [2] Qw z1),AO.vec Sh.str z1.2.2.2.1]⟩)
 | .h14b b4 z0 z1=>(14,⟨tm 117 [(0,AV.ptr 0 0),(1,AV.ptr 1 0),(4,AV.bool b4)],[AO.box (bh [] zJ z0),AO.box (bh [2] Qw z1),AO.vec Sh.str z1.2.2.2.1]⟩)
theorem X7:zA DQ.P 115 Tryz.f115 2:=aL (by kernel_rfl)
def Mm (y:zu zJ) (z:zu eJ):Tr (nM ⊕ zV):=
 let a0:=(y.1,y.2.1,y.2.2.1,())
 let a1:=bc a0 [67,79,80,89]
 let a2:=(a1.2.1,a1.2.2.1,a1.2.2.2.1,())
 let a3:=aJ a2
 let a4:=(a3.2.1,a3.2.2.1,a3.2.2.2.1,())
 let a5:=zU a4 [70,82,79,77]
 let a6:=(a5.1,a5.2.1,a5.2.2.1,())
 let a7:=aJ a6
 let a8:=(a7.2.1,a7.2.2.1,a7.2.2.2.1,())
 let a9:=([],z.2.2.2)
 let a10:=zU a8 [44]
 let a11:=(a10.1,a10.2.1,a10.2.2.1,())
 let a12:=aJ a11
 let a13:=(a12.2.1,a12.2.2.1,a12.2.2.2.1,())
 let a14:=zU a13 [79,78]
 let a15:=(a14.1,a14.2.1,a14.2.2.1,())
 let a16:=aJ a15
 let a17:=(a16.2.1,a16.2.2.1,a16.2.2.2.1,())
 let a18:=da a17 [67,72,69,67,75]
 let a19:=zU a8 [66,89]
 let a20:=(a19.1,a19.2.1,a19.2.2.1,())
 let a21:=aJ a20
 let a22:=[a21.1]
 let a23:=(a21.2.1,a21.2.2.1,a21.2.2.2.1,())
 let a24:=zU a23 [83,85,77]
 let a25:=(a24.1,a24.2.1,a24.2.2.1,())
 let a26:=aJ a25
 let a27:=[a26.1]
 let a28:=(a26.2.1,a26.2.2.1,a26.2.2.2.1,())
 let a29:=da a28 [67,72,69,67,75]
 let a30:=da a8 [67,72,69,67,75]
 let a31:=bc a2 [74,79,73,78]
 let a32:=(a31.2.1,a31.2.2.1,a31.2.2.2.1,())
 let a33:=aJ a32
 let a34:=(a33.2.1,a33.2.2.1,a33.2.2.2.1,())
 let a35:=zU a34 [70,82,79,77]
 let a36:=(a35.1,a35.2.1,a35.2.2.1,())
 let a37:=aJ a36
 let a38:=(a37.2.1,a37.2.2.1,a37.2.2.2.1,())
 let a39:=zU a38 [44]
 let a40:=(a39.1,a39.2.1,a39.2.2.1,())
 let a41:=aJ a40
 let a42:=(a41.2.1,a41.2.2.1,a41.2.2.2.1,())
 let a43:=zU a42 [79,78]
 let a44:=(a43.1,a43.2.1,a43.2.2.1,())
 let a45:=aJ a44
 let a46:=(a45.2.1,a45.2.2.1,a45.2.2.2.1,())
 let a47:=da a46 [67,72,69,67,75]
 let a48:=zU a38 [66,89]
 let a49:=(a48.1,a48.2.1,a48.2.2.1,())
 let a50:=aJ a49
 let a51:=[a50.1]
 let a52:=(a50.2.1,a50.2.2.1,a50.2.2.2.1,())
 let a53:=zU a52 [83,85,77]
 let a54:=(a53.1,a53.2.1,a53.2.2.1,())
 let a55:=aJ a54
 let a56:=[a55.1]
 let a57:=(a55.2.1,a55.2.2.1,a55.2.2.2.1,())
 let a58:=da a57 [67,72,69,67,75]
 let a59:=da a38 [67,72,69,67,75]
 let a60:=bc a32 [71,82,79,85,80]
 let a61:=(a60.2.1,a60.2.2.1,a60.2.2.2.1,())
 let a62:=aJ a61
 let a63:=(a62.2.1,a62.2.2.1,a62.2.2.2.1,())
 let a64:=zU a63 [70,82,79,77]
 let a65:=(a64.1,a64.2.1,a64.2.2.1,())
 let a66:=aJ a65
 let a67:=(a66.2.1,a66.2.2.1,a66.2.2.2.1,())
 let a68:=zU a67 [44]
 let a69:=(a68.1,a68.2.1,a68.2.2.1,())
 let a70:=aJ a69
 let a71:=(a70.2.1,a70.2.2.1,a70.2.2.2.1,())
 let a72:=zU a71 [79,78]
 let a73:=(a72.1,a72.2.1,a72.2.2.1,())
 let a74:=aJ a73
 let a75:=(a74.2.1,a74.2.2.1,a74.2.2.2.1,())
 let a76:=da a75 [67,72,69,67,75]
 let a77:=zU a67 [66,89]
 let a78:=(a77.1,a77.2.1,a77.2.2.1,())
 let a79:=aJ a78
 let a80:=[a79.1]
 let a81:=(a79.2.1,a79.2.2.1,a79.2.2.2.1,())
 let a82:=zU a81 [83,85,77]
 let a83:=(a82.1,a82.2.1,a82.2.2.1,())
 let a84:=aJ a83
 let a85:=[a84.1]
 let a86:=(a84.2.1,a84.2.2.1,a84.2.2.2.1,())
 let a87:=da a86 [67,72,69,67,75]
 let a88:=da a67 [67,72,69,67,75]
 let a89:=(a60.2.1,a60.2.2.1,false,())
 let a90:=aJ a89
 let a91:=(a90.2.1,a90.2.2.1,a90.2.2.2.1,())
 let a92:=zU a91 [70,82,79,77]
 let a93:=(a92.1,a92.2.1,a92.2.2.1,())
 let a94:=aJ a93
 let a95:=(a94.2.1,a94.2.2.1,a94.2.2.2.1,())
 let a96:=zU a95 [44]
 let a97:=(a96.1,a96.2.1,a96.2.2.1,())
 let a98:=aJ a97
 let a99:=(a98.2.1,a98.2.2.1,a98.2.2.2.1,())
 let a100:=zU a99 [79,78]
 let a101:=(a100.1,a100.2.1,a100.2.2.1,())
 let a102:=aJ a101
 let a103:=(a102.2.1,a102.2.2.1,a102.2.2.2.1,())
 let a104:=da a103 [67,72,69,67,75]
 let a105:=zU a95 [66,89]
 let a106:=(a105.1,a105.2.1,a105.2.2.1,())
 let a107:=aJ a106
 let a108:=[a107.1]
 let a109:=(a107.2.1,a107.2.2.1,a107.2.2.2.1,())
 let a110:=zU a109 [83,85,77]
 let a111:=(a110.1,a110.2.1,a110.2.2.1,())
 let a112:=aJ a111
 let a113:=[a112.1]
 let a114:=(a112.2.1,a112.2.2.1,a112.2.2.2.1,())
 let a115:=da a114 [67,72,69,67,75]
 let a116:=da a95 [67,72,69,67,75]
 Tr.chk (aN a0 [67,79,80,89])
 (Tr.br a1.1
  (Tr.chk (ah a2) (Tr.chk (zK a4 [70,82,79,77]) (Tr.chk (ah a6) (Tr.br true (Tr.chk (zK a8 [40]) (Tr.to (nM.h14 (zU a8 [40]) ([99,111,112,121],a3.1,a7.1,a9)))) (Tr.br false (Tr.chk (zK a8 [44]) (Tr.chk (ah a11) (Tr.chk (zK a13 [79,78]) (Tr.chk (ah a15) (Tr.chk (ck a17 [67,72,69,67,75]) (Tr.re (AV.tup []) (aP zJ j8 a18.2
  ([99,111,112,121],a3.1,a7.1,[],a16.1,a18.1,z.2.2.2.2.2.2.2.2.2.1,z.2.2.2.2.2.2.2.2.2.2.1,z.2.2.2.2.2.2.2.2.2.2.2.1,z.2.2.2.2.2.2.2.2.2.2.2.2.1,z.2.2.2.2.2.2.2.2.2.2.2.2.2.1,a12.1,())))))))) (Tr.br false (Tr.chk (zK a8 [66,89]) (Tr.chk (ah a20) (Tr.chk (decide (a22.length≤1073741824)) (Tr.chk (zK a23 [83,85,77]) (Tr.chk (ah a25)
  (Tr.chk (decide (a22.length+a27.length≤1073741824)) (Tr.chk (ck a28 [67,72,69,67,75]) (Tr.re (AV.tup []) (aP zJ j8 a29.2 ([99,111,112,121],a3.1,a7.1,a22++a27,z.2.2.2.1,a29.1,z.2.2.2.2.2.2.2.2.2)))))))))) (Tr.chk (ck a8 [67,72,69,67,75]) (Tr.re (AV.tup []) (aP zJ j8 a30.2
  ([99,111,112,121],a3.1,a7.1,[],z.2.2.2.1,a30.1,z.2.2.2.2.2.2.2.2.2))))))))))
  (Tr.chk (aN a2 [74,79,73,78]) (Tr.br a31.1 (Tr.chk (ah a32) (Tr.chk (zK a34 [70,82,79,77]) (Tr.chk (ah a36) (Tr.br false (Tr.chk (zK a38 [40]) (Tr.to (nM.h14 (zU a38 [40]) ([106,111,105,110],a33.1,a37.1,a9)))) (Tr.br true (Tr.chk (zK a38 [44]) (Tr.chk (ah a40) (Tr.chk (zK a42 [79,78]) (Tr.chk (ah a44)
  (Tr.chk (ck a46 [67,72,69,67,75]) (Tr.re (AV.tup []) (aP zJ j8 a47.2 ([106,111,105,110],a33.1,a37.1,[],a45.1,a47.1,z.2.2.2.2.2.2.2.2.2.1,z.2.2.2.2.2.2.2.2.2.2.1,z.2.2.2.2.2.2.2.2.2.2.2.1,z.2.2.2.2.2.2.2.2.2.2.2.2.1,z.2.2.2.2.2.2.2.2.2.2.2.2.2.1,a41.1,())))))))) (Tr.br false (Tr.chk (zK a38 [66,89]) (Tr.chk (ah a49)
  (Tr.chk (decide (a51.length≤1073741824)) (Tr.chk (zK a52 [83,85,77]) (Tr.chk (ah a54) (Tr.chk (decide (a51.length+a56.length≤1073741824)) (Tr.chk (ck a57 [67,72,69,67,75]) (Tr.re (AV.tup []) (aP zJ j8 a58.2 ([106,111,105,110],a33.1,a37.1,a51++a56,z.2.2.2.1,a58.1,z.2.2.2.2.2.2.2.2.2)))))))))) (Tr.chk (ck a38 [67,72,69,67,75])
  (Tr.re (AV.tup []) (aP zJ j8 a59.2 ([106,111,105,110],a33.1,a37.1,[],z.2.2.2.1,a59.1,z.2.2.2.2.2.2.2.2.2)))))))))) (Tr.chk (aN a32 [71,82,79,85,80]) (Tr.br a60.1 (Tr.chk (ah a61) (Tr.chk (zK a63 [70,82,79,77]) (Tr.chk (ah a65) (Tr.br false (Tr.chk (zK a67 [40]) (Tr.to (nM.h14 (zU a67 [40]) ([103,114,111,117,112],a62.1,a66.1,a9))))
  (Tr.br false (Tr.chk (zK a67 [44]) (Tr.chk (ah a69) (Tr.chk (zK a71 [79,78]) (Tr.chk (ah a73) (Tr.chk (ck a75 [67,72,69,67,75]) (Tr.re (AV.tup []) (aP zJ j8 a76.2 ([103,114,111,117,112],a62.1,a66.1,[],a74.1,a76.1,z.2.2.2.2.2.2.2.2.2.1,z.2.2.2.2.2.2.2.2.2.2.1,z.2.2.2.2.2.2.2.2.2.2.2.1,
  z.2.2.2.2.2.2.2.2.2.2.2.2.1,z.2.2.2.2.2.2.2.2.2.2.2.2.2.1,a70.1,())))))))) (Tr.br true (Tr.chk (zK a67 [66,89]) (Tr.chk (ah a78) (Tr.chk (decide (a80.length≤1073741824)) (Tr.chk (zK a81 [83,85,77]) (Tr.chk (ah a83) (Tr.chk (decide (a80.length+a85.length≤1073741824)) (Tr.chk (ck a86 [67,72,69,67,75]) (Tr.re (AV.tup []) (aP zJ j8 a87.2
  ([103,114,111,117,112],a62.1,a66.1,a80++a85,z.2.2.2.1,a87.1,z.2.2.2.2.2.2.2.2.2)))))))))) (Tr.chk (ck a67 [67,72,69,67,75]) (Tr.re (AV.tup []) (aP zJ j8 a88.2 ([103,114,111,117,112],a62.1,a66.1,[],z.2.2.2.1,a88.1,z.2.2.2.2.2.2.2.2.2)))))))))) (Tr.chk (ah a89) (Tr.chk (zK a91 [70,82,79,77]) (Tr.chk (ah a93)
  (Tr.br (z.1==[99,111,112,121]) (Tr.chk (zK a95 [40]) (Tr.to (nM.h14 (zU a95 [40]) (z.1,a90.1,a94.1,a9)))) (Tr.br (z.1==[106,111,105,110]) (Tr.chk (zK a95 [44]) (Tr.chk (ah a97) (Tr.chk (zK a99 [79,78]) (Tr.chk (ah a101) (Tr.chk (ck a103 [67,72,69,67,75]) (Tr.re (AV.tup []) (aP zJ j8 a104.2
  (z.1,a90.1,a94.1,[],a102.1,a104.1,z.2.2.2.2.2.2.2.2.2.1,z.2.2.2.2.2.2.2.2.2.2.1,z.2.2.2.2.2.2.2.2.2.2.2.1,z.2.2.2.2.2.2.2.2.2.2.2.2.1,z.2.2.2.2.2.2.2.2.2.2.2.2.2.1,a98.1,())))))))) (Tr.br (z.1==[103,114,111,117,112]) (Tr.chk (zK a95 [66,89]) (Tr.chk (ah a106) (Tr.chk (decide (a108.length≤1073741824)) (Tr.chk (zK a109 [83,85,77]) (Tr.chk (ah a111)
  (Tr.chk (decide (a108.length+a113.length≤1073741824)) (Tr.chk (ck a114 [67,72,69,67,75]) (Tr.re (AV.tup []) (aP zJ j8 a115.2 (z.1,a90.1,a94.1,a108++a113,z.2.2.2.1,a115.1,z.2.2.2.2.2.2.2.2.2)))))))))) (Tr.chk (ck a95 [67,72,69,67,75]) (Tr.re (AV.tup []) (aP zJ j8 a116.2 (z.1,a90.1,a94.1,[],z.2.2.2.1,a116.1,z.2.2.2.2.2.2.2.2.2)))))))))))))))
theorem W3 (y:zu zJ) (z:zu eJ):rn DQ 2 Gn Tryz.f115 [AV.ptr 0 0,AV.ptr 1 0] (aP zJ eJ y z)=(Mm y z).map (lf Tryz.f115 Dz):=by kernel_rfl
def OJ:nM→Tr (nM ⊕ zV)
 | .h14 z0 z1=>
  let a0:=(z0.1,z0.2.1,z0.2.2.1,())
  let a1:=aJ a0
  let a2:=[a1.1]
  let a3:=(a1.2.1,a1.2.2.1,a1.2.2.2.1,())
  let a4:=bc a3 [44]
  let a5:=zU a0 [41]
  let a6:=(a5.1,a5.2.1,a5.2.2.1,())
  let a7:=da a6 [67,72,69,67,75]
  Tr.br z0.2.2.1
  (Tr.chk (ah a0)
   (Tr.chk (decide (z1.2.2.2.1.length+a2.length≤1073741824)) (Tr.chk (aN a3 [44]) (Tr.to (nM.h14b a4.1 a4.2 (z1.1,z1.2.1,z1.2.2.1,z1.2.2.2.1++a2,z1.2.2.2.2))))))
  (Tr.chk (zK a0 [41])
   (Tr.chk (ck a6 [67,72,69,67,75]) (Tr.re (AV.tup []) (aP zJ j8 a7.2 (z1.1,z1.2.1,z1.2.2.1,z1.2.2.2.1,z1.2.2.2.2.1,a7.1,z1.2.2.2.2.2.2.2.2.2.2)))))
 | .h14b b4 z0 z1=>
  let a0:=(z0.1,z0.2.1,z0.2.2.1,())
  let a1:=aJ a0
  let a2:=[a1.1]
  let a3:=(a1.2.1,a1.2.2.1,a1.2.2.2.1,())
  let a4:=bc a3 [44]
  let a5:=zU a0 [41]
  let a6:=(a5.1,a5.2.1,a5.2.2.1,())
  let a7:=da a6 [67,72,69,67,75]
  Tr.br (bif b4 then z0.2.2.1 else false)
  (Tr.chk (ah a0)
   (Tr.chk (decide (z1.2.2.2.1.length+a2.length≤1073741824)) (Tr.chk (aN a3 [44]) (Tr.to (nM.h14b a4.1 a4.2 (z1.1,z1.2.1,z1.2.2.1,z1.2.2.2.1++a2,z1.2.2.2.2))))))
  (Tr.chk (zK a0 [41])
   (Tr.chk (ck a6 [67,72,69,67,75]) (Tr.re (AV.tup []) (aP zJ j8 a7.2 (z1.1,z1.2.1,z1.2.2.1,z1.2.2.2.1,z1.2.2.2.2.1,a7.1,z1.2.2.2.2.2.2.2.2.2.2)))))
theorem Yo:∀ s,run DQ 2 Gn (Func.results Tryz.f115).toList 400 (zy Tryz.f115 (Dz s).1) (Dz s).2=(OJ s).map (lf Tryz.f115 Dz)
 | .h14 z0 z1=>by kernel_rfl
 | .h14b b4 z0 z1=>by kernel_rfl
def Oo (y:zu zJ) (z:zu eJ):Option (zx (List.map some [])×zu zJ×zu j8):=Es [] zJ j8 OJ 100000000 (Mm y z)
def On (y:zu zJ) (z:zu eJ):Bool:=(Oo y z).isSome
def Uu (y:zu zJ) (z:zu eJ):zu zJ×zu j8:=(fun r:zx (List.map some [])×zu zJ×zu j8=>r.2) ((Oo y z).getD (bF [],fK zJ,fK j8))
def R6:zD:=Hz zJ eJ [] [] zJ j8 (fun y z _=>On y z) fun y z _=>((),Uu y z)
theorem Pe:FK 115 R6:=KU (ps:=zJ) (qs:=eJ) (ks:=[]) (outs:=[]) (keep:=Gn) (gas:=400) (n:=100000000) (e:=Dz) (t:=OJ) (i:=fun y z x=>Mm y z) m7 X7 (fun y z x=>W3 y z) Yo (fun _ _ _=>by kernel_rfl) (fun _ _ _=>by kernel_rfl)

end
noncomputable section
def L3:=TD.add 115 R6
theorem vH:zm L3:=JP.add Pe

abbrev zeo:Nat→zY:=fun j=>if j=17 then { slots:=[2,4,6,7,8],prom:=[(7,some 14,zf)] } else if j=25 then { slots:=[2,4,6,7,9] } else { }
inductive Db where
 | h17 (l4:List (Sem zq)) (z0:zu eJ) (z1:zu zJ) (jc0:List UInt8) (jc1:Sem Sh.str) (jc2:List UInt8) (jc5:List UInt8) (jc8:List UInt8) (jc9:Int) (jc10:Int) (jc11:List UInt8) (jc12:List UInt8) (jc16:List UInt8) (jc17:Int) (jc18:Int) (jc19:List UInt8) (jc20:List UInt8) (jc22:List UInt8) (lh_3:List (Sem zf))
 | h25 (l4:List (Sem zq)) (z0:zu eJ) (z1:zu zJ) (z2:zu eJ)
 | h17b (l4:List (Sem zq)) (b8:Sem Sh.bool) (z0:zu eJ) (z1:zu zJ) (jc0:List UInt8) (jc1:Sem Sh.str) (jc2:List UInt8) (jc5:List UInt8) (jc8:List UInt8) (jc9:Int) (jc10:Int) (jc11:List UInt8) (jc12:List UInt8) (jc16:List UInt8) (jc17:Int) (jc18:Int) (jc19:List UInt8) (jc20:List UInt8) (jc22:List UInt8) (lh_3:List (Sem zf))
abbrev zgM:Db→Nat×St
 | .h17 l4 z0 z1 jc0 jc1 jc2 jc5 jc8 jc9 jc10 jc11 jc12 jc16 jc17 jc18 jc19 jc20 jc22 lh_3=>(17,⟨tm 172 [(2,AV.ptr 0 0),(4,AV.sl zq l4),(6,AV.ptr 1 0),(7,AV.ptr 2 0),(8,AV.kb true)],[AO.box (bh [] eJ z0),AO.box (bh [] zJ z1),AO.box [AV.str jc0,AV.str jc1,AV.str jc2,AV.nils,AV.nils,AV.str jc5,AV.nils,AV.nils,AV.str jc8,AV.int .i64 jc9,AV.int .i64 jc10,AV.str jc11,AV.str jc12,AV.nils,AV.vec 3,AV.nils,AV.str jc16,AV.int .i64 jc17,AV.int .i64 jc18,AV.str jc19,AV.str jc20,AV.nils,AV.str jc22],AO.vec zf lh_3]⟩)
 | .h25 l4 z0 z1 z2=>(25,⟨tm 172 [(2,AV.ptr 0 0),(4,AV.sl zq l4),(6,AV.ptr 1 0),(7,AV.ptr 2 0),(9,AV.kb true)],[AO.box (bh [] eJ z0),AO.box (bh [] zJ z1),AO.box (bh [] eJ z2)]⟩)
 | .h17b l4 b8 z0 z1 jc0 jc1 jc2 jc5 jc8 jc9 jc10 jc11 jc12 jc16 jc17 jc18 jc19 jc20 jc22 lh_3=>(17,⟨tm 172 [(2,AV.ptr 0 0),(4,AV.sl zq l4),(6,AV.ptr 1 0),(7,AV.ptr 2 0),(8,AV.bool b8)],[AO.box (bh [] eJ z0),AO.box (bh [] zJ z1),AO.box [AV.str jc0,AV.str jc1,AV.str jc2,AV.nils,AV.nils,AV.str jc5,AV.nils,AV.nils,AV.str jc8,AV.int .i64 jc9,AV.int .i64 jc10,AV.str jc11,AV.str jc12,AV.nils,AV.vec 3,AV.nils,AV.str jc16,AV.int .i64 jc17,AV.int .i64 jc18,AV.str jc19,AV.str jc20,AV.nils,AV.str jc22],AO.vec zf lh_3]⟩)
def zh9 (x0:Sem Sh.str):Tr (Db ⊕ zV):=
 let a0:=((AK x0).1,0,true,())
 let a1:=bc a0 [67,82,69,65,84,69]
 let a2:=(a1.2.1,a1.2.2.1,a1.2.2.2.1,())
 let a3:=EP a2 ([],[],[],[],[],0,0,[],[],[],0,0,[],[],[],())
 let a4:=(↑(length (AK x0).1):Int)
 let a5:=(a3.2.1,a3.2.2.1,a3.2.2.2.1,[],a3.2.2.2.2.1,a3.2.2.2.2.2.1,a3.2.2.2.2.2.2.1,a3.2.2.2.2.2.2.2.1,zB a3.2.2.2.2.2.2.2.2.1,[],[],ze.mk a3.2.2.2.2.2.2.2.2.2.1 (a3.2.2.2.2.2.2.2.2.2.2.1,a3.2.2.2.2.2.2.2.2.2.2.2.1,a3.2.2.2.2.2.2.2.2.2.2.2.2.1) a3.2.2.2.2.2.2.2.2.2.2.2.2.2.1 [],a3.2.2.2.2.2.2.2.2.2.2.2.2.2.2.1)
 let a6:=mF a5
 let a7:=bc a2 [68,82,79,80]
 let a8:=(a7.2.1,a7.2.2.1,a7.2.2.2.1,())
 let a9:=zU a8 [84,65,66,76,69]
 let a10:=(a9.1,a9.2.1,a9.2.2.1,())
 let a11:=aJ a10
 let a12:=([100,114,111,112],a11.1,[],[],[],[],[],[],ze.mk [] (0,0,[]) [] [],[],[],ze.mk [] (0,0,[]) [] [],[])
 let a13:=mF a12
 let a14:=bc a8 [73,78,83,69,82,84]
 let a15:=(a14.2.1,a14.2.2.1,a14.2.2.2.1,())
 let a16:=zU a15 [73,78,84,79]
 let a17:=(a16.1,a16.2.1,a16.2.2.1,())
 let a18:=aJ a17
 let a19:=(a18.2.1,a18.2.2.1,a18.2.2.2.1,())
 let a20:=zU a19 [86,65,76,85,69,83]
 let a21:=(a20.1,a20.2.1,a20.2.2.1,())
 let a22:=bc a15 [85,80,68,65,84,69]
 let a23:=(a22.2.1,a22.2.2.1,a22.2.2.2.1,())
 let a24:=aJ a23
 let a25:=(a24.2.1,a24.2.2.1,a24.2.2.2.1,())
 let a26:=bc a23 [68,69,76,69,84,69]
 let a27:=(a26.2.1,a26.2.2.1,a26.2.2.2.1,())
 let a28:=zU a27 [70,82,79,77]
 let a29:=(a28.1,a28.2.1,a28.2.2.1,())
 let a30:=aJ a29
 let a31:=(a30.2.1,a30.2.2.1,a30.2.2.2.1,())
 let a32:=da a31 [87,72,69,82,69]
 let a33:=([100,101,108,101,116,101],a30.1,[],[],[],[],[],[],ze.mk [] (0,0,[]) [] [],[],[],zB a32.1,[])
 let a34:=mF a33
 let a35:=bc a27 [83,69,76,69,67,84]
 let a36:=(a35.2.1,a35.2.2.1,a35.2.2.2.1,())
 let a37:=zU a36 [42]
 let a38:=(a37.1,a37.2.1,a37.2.2.1,())
 let a39:=zU a38 [70,82,79,77]
 let a40:=(a39.1,a39.2.1,a39.2.2.1,())
 let a41:=aJ a40
 let a42:=(a41.2.1,a41.2.2.1,a41.2.2.2.1,())
 let a43:=da a42 [87,72,69,82,69]
 let a44:=([115,101,108,101,99,116],a41.1,[],[],[],[],[],[],ze.mk [] (0,0,[]) [] [],[],[],zB a43.1,[])
 let a45:=mF a44
 let a46:=bc a36 [71,82,65,78,84]
 let a47:=(a46.2.1,a46.2.2.1,a46.2.2.2.1,())
 let a48:=mG a47 [82,69,65,68]
 let a49:=bc a47 [82,69,86,79,75,69]
 let a50:=(a49.2.1,a49.2.2.1,a49.2.2.2.1,())
 let a51:=mG a50 [82,69,65,68]
 let a52:=bc a50 [77,73,71,82,65,84,69]
 let a53:=(a52.2.1,a52.2.2.1,a52.2.2.2.1,())
 let a54:=Uu a53 ([],[],[],[],[],0,0,[],[],[],0,0,[],[],[],())
 let a55:=(a54.2.1,a54.2.2.1,a54.2.2.2.1,a54.2.2.2.2.1,[],a54.2.2.2.2.2.1,[],[],zB a54.2.2.2.2.2.2.1,[],[],ze.mk a54.2.2.2.2.2.2.2.1 (a54.2.2.2.2.2.2.2.2.1,a54.2.2.2.2.2.2.2.2.2.1,a54.2.2.2.2.2.2.2.2.2.2.1) a54.2.2.2.2.2.2.2.2.2.2.2.1 [],a54.2.2.2.2.2.2.2.2.2.2.2.2.1)
 let a56:=mF a55
 Tr.chk (Oc x0)
 (Tr.br (!(AK x0).2)
  (Tr.re (AV.tup [AV.agg [AV.str [],AV.str [],AV.str [],AV.nils,AV.nils,AV.str [],AV.nils,AV.nils,AV.str [],AV.int .i64 0,AV.int .i64 0,AV.str [],AV.str [],AV.nils,AV.nils,AV.nils,AV.str [],AV.int .i64 0,AV.int .i64 0,AV.str [],AV.str [],AV.nils,AV.str []],AV.kb false]) [])
  (Tr.chk (aN a0 [67,82,69,65,84,69]) (Tr.br a1.1 (Tr.chk (AM a2 ([],[],[],[],[],0,0,[],[],[],0,0,[],[],[],())) (Tr.br (bif !a3.1.2.2.1 then true else a3.1.2.1 != a4) (Tr.re (AV.tup [AV.agg [AV.str [],AV.str [],AV.str [],AV.nils,AV.nils,AV.str [],AV.nils,AV.nils,AV.str [],AV.int .i64 0,AV.int .i64 0,
  AV.str [],AV.str [],AV.nils,AV.nils,AV.nils,AV.str [],AV.int .i64 0,AV.int .i64 0,AV.str [],AV.str [],AV.nils,AV.str []],AV.kb false]) []) (Tr.chk (jF a5) (Tr.br (!a6.2) (Tr.re (AV.tup [AV.agg [AV.str [],AV.str [],AV.str [],AV.nils,AV.nils,AV.str [],AV.nils,AV.nils,AV.str [],AV.int .i64 0,AV.int .i64 0,
  AV.str [],AV.str [],AV.nils,AV.nils,AV.nils,AV.str [],AV.int .i64 0,AV.int .i64 0,AV.str [],AV.str [],AV.nils,AV.str []],AV.kb false]) []) (Tr.re (AV.tup [AV.agg [AV.str a3.2.1,AV.str a3.2.2.1,AV.str a3.2.2.2.1,AV.nils,AV.vec 0,AV.str a3.2.2.2.2.2.1,AV.vec 1,AV.vec 2,AV.str (ze.op a3.2.2.2.2.2.2.2.2.1),AV.int .i64 (ze.v a3.2.2.2.2.2.2.2.2.1).1,
  AV.int .i64 (ze.v a3.2.2.2.2.2.2.2.2.1).2.1,AV.str (ze.v a3.2.2.2.2.2.2.2.2.1).2.2,AV.str (ze.s a3.2.2.2.2.2.2.2.2.1),AV.sl Sh.expr (ze.l a3.2.2.2.2.2.2.2.2.1),AV.nils,AV.nils,AV.str a3.2.2.2.2.2.2.2.2.2.1,AV.int .i64 a3.2.2.2.2.2.2.2.2.2.2.1,AV.int .i64 a3.2.2.2.2.2.2.2.2.2.2.2.1,AV.str a3.2.2.2.2.2.2.2.2.2.2.2.2.1,AV.str a3.2.2.2.2.2.2.2.2.2.2.2.2.2.1,AV.nils,
  AV.str a3.2.2.2.2.2.2.2.2.2.2.2.2.2.2.1],AV.kb true]) [AO.vec zi a3.2.2.2.2.1,AO.vec Sh.str a3.2.2.2.2.2.2.1,AO.vec (Sh.str.pr Sh.str) a3.2.2.2.2.2.2.2.1]))))) (Tr.chk (aN a2 [68,82,79,80]) (Tr.br a7.1 (Tr.chk (zK a8 [84,65,66,76,69]) (Tr.chk (ah a10) (Tr.br (bif !a11.2.2.2.1 then true else a11.2.2.1 != a4) (Tr.re (AV.tup [AV.agg
  [AV.str [],AV.str [],AV.str [],AV.nils,AV.nils,AV.str [],AV.nils,AV.nils,AV.str [],AV.int .i64 0,AV.int .i64 0,AV.str [],AV.str [],AV.nils,AV.nils,AV.nils,AV.str [],AV.int .i64 0,AV.int .i64 0,AV.str [],AV.str [],AV.nils,AV.str []],AV.kb false]) []) (Tr.chk (jF a12) (Tr.br (!a13.2) (Tr.re (AV.tup [AV.agg
  [AV.str [],AV.str [],AV.str [],AV.nils,AV.nils,AV.str [],AV.nils,AV.nils,AV.str [],AV.int .i64 0,AV.int .i64 0,AV.str [],AV.str [],AV.nils,AV.nils,AV.nils,AV.str [],AV.int .i64 0,AV.int .i64 0,AV.str [],AV.str [],AV.nils,AV.str []],AV.kb false]) []) (Tr.re (AV.tup [AV.agg
  [AV.str [100,114,111,112],AV.str a11.1,AV.str [],AV.nils,AV.nils,AV.str [],AV.nils,AV.nils,AV.str [],AV.int .i64 0,AV.int .i64 0,AV.str [],AV.str [],AV.nils,AV.nils,AV.nils,AV.str [],AV.int .i64 0,AV.int .i64 0,AV.str [],AV.str [],AV.nils,AV.str []],AV.kb true]) [])))))) (Tr.chk (aN a8 [73,78,83,69,82,84]) (Tr.br a14.1 (Tr.chk (zK a15 [73,78,84,79])
  (Tr.chk (ah a17) (Tr.chk (zK a19 [86,65,76,85,69,83]) (Tr.chk (zK a21 [40]) (Tr.to (Db.h17 (AK x0).1 ([],[],[],[],[],0,0,[],[],[],0,0,[],[],[],()) (zU a21 [40]) [105,110,115,101,114,116] a18.1 [] [] [] 0 0 [] [] [] 0 0 [] [] [] [])))))) (Tr.chk (aN a15 [85,80,68,65,84,69]) (Tr.br a22.1 (Tr.chk (ah a23)
  (Tr.chk (zK a25 [83,69,84]) (Tr.to (Db.h25 (AK x0).1 ([],[],[],[],[],0,0,[],[],[],0,0,[],[],[],()) (zU a25 [83,69,84]) ([117,112,100,97,116,101],a24.1,[],[],[],0,0,[],[],[],0,0,[],[],[],()))))) (Tr.chk (aN a23 [68,69,76,69,84,69]) (Tr.br a26.1 (Tr.chk (zK a27 [70,82,79,77]) (Tr.chk (ah a29)
  (Tr.chk (ck a31 [87,72,69,82,69]) (Tr.br (bif !a32.2.2.2.1 then true else a32.2.2.1 != a4) (Tr.re (AV.tup [AV.agg [AV.str [],AV.str [],AV.str [],AV.nils,AV.nils,AV.str [],AV.nils,AV.nils,AV.str [],AV.int .i64 0,AV.int .i64 0,AV.str [],AV.str [],AV.nils,AV.nils,AV.nils,AV.str [],AV.int .i64 0,AV.int .i64 0,AV.str [],AV.str [],AV.nils,AV.str []],AV.kb false]) [])
  (Tr.chk (jF a33) (Tr.br (!a34.2) (Tr.re (AV.tup [AV.agg [AV.str [],AV.str [],AV.str [],AV.nils,AV.nils,AV.str [],AV.nils,AV.nils,AV.str [],AV.int .i64 0,AV.int .i64 0,AV.str [],AV.str [],AV.nils,AV.nils,AV.nils,AV.str [],AV.int .i64 0,AV.int .i64 0,AV.str [],AV.str [],AV.nils,AV.str []],AV.kb false]) []) (Tr.re (AV.tup [AV.agg
  [AV.str [100,101,108,101,116,101],AV.str a30.1,AV.str [],AV.nils,AV.nils,AV.str [],AV.nils,AV.nils,AV.str [],AV.int .i64 0,AV.int .i64 0,AV.str [],AV.str [],AV.nils,AV.nils,AV.nils,AV.str (ze.op a32.1),AV.int .i64 (ze.v a32.1).1,AV.int .i64 (ze.v a32.1).2.1,AV.str (ze.v a32.1).2.2,AV.str (ze.s a32.1),AV.sl Sh.expr (ze.l a32.1),AV.str []],
  AV.kb true]) []))))))) (Tr.chk (aN a27 [83,69,76,69,67,84]) (Tr.br a35.1 (Tr.chk (zK a36 [42]) (Tr.chk (zK a38 [70,82,79,77]) (Tr.chk (ah a40) (Tr.chk (ck a42 [87,72,69,82,69]) (Tr.br (bif !a43.2.2.2.1 then true else a43.2.2.1 != a4) (Tr.re (AV.tup [AV.agg
  [AV.str [],AV.str [],AV.str [],AV.nils,AV.nils,AV.str [],AV.nils,AV.nils,AV.str [],AV.int .i64 0,AV.int .i64 0,AV.str [],AV.str [],AV.nils,AV.nils,AV.nils,AV.str [],AV.int .i64 0,AV.int .i64 0,AV.str [],AV.str [],AV.nils,AV.str []],AV.kb false]) []) (Tr.chk (jF a44) (Tr.br (!a45.2) (Tr.re (AV.tup [AV.agg
  [AV.str [],AV.str [],AV.str [],AV.nils,AV.nils,AV.str [],AV.nils,AV.nils,AV.str [],AV.int .i64 0,AV.int .i64 0,AV.str [],AV.str [],AV.nils,AV.nils,AV.nils,AV.str [],AV.int .i64 0,AV.int .i64 0,AV.str [],AV.str [],AV.nils,AV.str []],AV.kb false]) []) (Tr.re (AV.tup [AV.agg
  [AV.str [115,101,108,101,99,116],AV.str a41.1,AV.str [],AV.nils,AV.nils,AV.str [],AV.nils,AV.nils,AV.str [],AV.int .i64 0,AV.int .i64 0,AV.str [],AV.str [],AV.nils,AV.nils,AV.nils,AV.str (ze.op a43.1),AV.int .i64 (ze.v a43.1).1,AV.int .i64 (ze.v a43.1).2.1,AV.str (ze.v a43.1).2.2,AV.str (ze.s a43.1),AV.sl Sh.expr (ze.l a43.1),AV.str []],
  AV.kb true]) [])))))))) (Tr.chk (aN a36 [71,82,65,78,84]) (Tr.br a46.1 (Tr.chk (jO a47 [82,69,65,68]) (Tr.br a48.1 Tr.err Tr.err)) (Tr.chk (aN a47 [82,69,86,79,75,69]) (Tr.br a49.1 (Tr.chk (jO a50 [82,69,65,68]) (Tr.br a51.1 Tr.err Tr.err)) (Tr.chk (aN a50 [77,73,71,82,65,84,69]) (Tr.br a52.1
  (Tr.chk (On a53 ([],[],[],[],[],0,0,[],[],[],0,0,[],[],[],())) (Tr.br (bif !a54.1.2.2.1 then true else a54.1.2.1 != a4) (Tr.re (AV.tup [AV.agg [AV.str [],AV.str [],AV.str [],AV.nils,AV.nils,AV.str [],AV.nils,AV.nils,AV.str [],AV.int .i64 0,AV.int .i64 0,AV.str [],AV.str [],AV.nils,AV.nils,AV.nils,AV.str [],
  AV.int .i64 0,AV.int .i64 0,AV.str [],AV.str [],AV.nils,AV.str []],AV.kb false]) []) (Tr.chk (jF a55) (Tr.br (!a56.2) (Tr.re (AV.tup [AV.agg [AV.str [],AV.str [],AV.str [],AV.nils,AV.nils,AV.str [],AV.nils,AV.nils,AV.str [],AV.int .i64 0,AV.int .i64 0,AV.str [],AV.str [],AV.nils,AV.nils,AV.nils,
  AV.str [],AV.int .i64 0,AV.int .i64 0,AV.str [],AV.str [],AV.nils,AV.str []],AV.kb false]) []) (Tr.re (AV.tup [AV.agg [AV.str a54.2.1,AV.str a54.2.2.1,AV.str a54.2.2.2.1,AV.vec 0,AV.nils,AV.str a54.2.2.2.2.2.1,AV.nils,AV.nils,AV.str (ze.op a54.2.2.2.2.2.2.1),AV.int .i64 (ze.v a54.2.2.2.2.2.2.1).1,AV.int .i64 (ze.v a54.2.2.2.2.2.2.1).2.1,
  AV.str (ze.v a54.2.2.2.2.2.2.1).2.2,AV.str (ze.s a54.2.2.2.2.2.2.1),AV.sl Sh.expr (ze.l a54.2.2.2.2.2.2.1),AV.nils,AV.nils,AV.str a54.2.2.2.2.2.2.2.1,AV.int .i64 a54.2.2.2.2.2.2.2.2.1,AV.int .i64 a54.2.2.2.2.2.2.2.2.2.1,AV.str a54.2.2.2.2.2.2.2.2.2.2.1,AV.str a54.2.2.2.2.2.2.2.2.2.2.2.1,AV.nils,AV.str a54.2.2.2.2.2.2.2.2.2.2.2.2.1],AV.kb true])
  [AO.vec Sh.str a54.2.2.2.2.1]))))) (Tr.br (bif !a52.2.2.2.1 then true else a52.2.2.1 != a4) (Tr.re (AV.tup [AV.agg [AV.str [],AV.str [],AV.str [],AV.nils,AV.nils,AV.str [],AV.nils,AV.nils,AV.str [],AV.int .i64 0,AV.int .i64 0,AV.str [],AV.str [],AV.nils,AV.nils,AV.nils,AV.str [],AV.int .i64 0,AV.int .i64 0,AV.str [],AV.str [],AV.nils,AV.str []],AV.kb false]) [])
  (Tr.chk true (Tr.br true (Tr.re (AV.tup [AV.agg [AV.str [],AV.str [],AV.str [],AV.nils,AV.nils,AV.str [],AV.nils,AV.nils,AV.str [],AV.int .i64 0,AV.int .i64 0,AV.str [],AV.str [],AV.nils,AV.nils,AV.nils,AV.str [],AV.int .i64 0,AV.int .i64 0,AV.str [],AV.str [],AV.nils,AV.str []],AV.kb false]) []) (Tr.re (AV.tup [AV.agg
  [AV.str [],AV.str [],AV.str [],AV.nils,AV.nils,AV.str [],AV.nils,AV.nils,AV.str [],AV.int .i64 0,AV.int .i64 0,AV.str [],AV.str [],AV.nils,AV.nils,AV.nils,AV.str [],AV.int .i64 0,AV.int .i64 0,AV.str [],AV.str [],AV.nils,AV.str []],AV.kb true]) [])))))))))))))))))))))))
def ziP:Db→Tr (Db ⊕ zV)
 | .h17 l4 z0 z1 jc0 jc1 jc2 jc5 jc8 jc9 jc10 jc11 jc12 jc16 jc17 jc18 jc19 jc20 jc22 lh_3=>
  let a0:=(z1.1,z1.2.1,z1.2.2.1,())
  let a1:=I1 a0
  let a2:=[a1.1]
  let a3:=(a1.2.1,a1.2.2.1,a1.2.2.2.1,())
  let a4:=bc a3 [44]
  let a5:=zU a0 [41]
  let a6:=(jc0,jc1,jc2,[],[],jc5,[],[],ze.mk jc8 (jc9,jc10,jc11) jc12 [],lh_3,[],ze.mk jc16 (jc17,jc18,jc19) jc20 [],jc22)
  let a7:=mF a6
  Tr.br z1.2.2.1
  (Tr.chk (G1 a0) (Tr.chk (decide (lh_3.length+a2.length≤1073741824)) (Tr.chk (aN a3 [44]) (Tr.to (Db.h17b l4 a4.1 z0 a4.2 jc0 jc1 jc2 jc5 jc8 jc9 jc10 jc11 jc12 jc16 jc17 jc18 jc19 jc20 jc22 (lh_3++a2))))))
  (Tr.chk (zK a0 [41]) (Tr.br (bif !a5.2.2.1 then true else a5.2.1 != (↑l4.length:Int)) (Tr.re (AV.tup [AV.agg [AV.str [],AV.str [],AV.str [],AV.nils,AV.nils,AV.str [],AV.nils,AV.nils,AV.str [],AV.int .i64 0,AV.int .i64 0,AV.str [],AV.str [],AV.nils,AV.nils,AV.nils,AV.str [],AV.int .i64 0,AV.int .i64 0,AV.str [],AV.str [],AV.nils,AV.str []],AV.kb false]) [])
  (Tr.chk (jF a6) (Tr.br (!a7.2) (Tr.re (AV.tup [AV.agg [AV.str [],AV.str [],AV.str [],AV.nils,AV.nils,AV.str [],AV.nils,AV.nils,AV.str [],AV.int .i64 0,AV.int .i64 0,AV.str [],AV.str [],AV.nils,AV.nils,AV.nils,AV.str [],AV.int .i64 0,AV.int .i64 0,AV.str [],AV.str [],AV.nils,AV.str []],AV.kb false]) []) (Tr.re (AV.tup [AV.agg
  [AV.str jc0,AV.str jc1,AV.str jc2,AV.nils,AV.nils,AV.str jc5,AV.nils,AV.nils,AV.str jc8,AV.int .i64 jc9,AV.int .i64 jc10,AV.str jc11,AV.str jc12,AV.nils,AV.vec 0,AV.nils,AV.str jc16,AV.int .i64 jc17,AV.int .i64 jc18,AV.str jc19,AV.str jc20,AV.nils,AV.str jc22],AV.kb true]) [AO.vec zf lh_3])))))
 | .h25 l4 _ z1 z2=>
  let a0:=(z1.1,z1.2.1,z1.2.2.1,())
  let a1:=aJ a0
  let a2:=da a0 [87,72,69,82,69]
  let a3:=(z2.1,z2.2.1,z2.2.2.1,[],[],z2.2.2.2.1,[],[],ze.mk z2.2.2.2.2.1 (z2.2.2.2.2.2.1,z2.2.2.2.2.2.2.1,z2.2.2.2.2.2.2.2.1) z2.2.2.2.2.2.2.2.2.1 [],[],[],zB a2.1,z2.2.2.2.2.2.2.2.2.2.2.2.2.2.2.1)
  let a4:=mF a3
  Tr.br z1.2.2.1 (Tr.chk (ah a0) (Tr.chk (zK (a1.2.1,a1.2.2.1,a1.2.2.2.1,()) [61]) Tr.err))
  (Tr.chk (ck a0 [87,72,69,82,69]) (Tr.br (bif !a2.2.2.2.1 then true else a2.2.2.1 != (↑l4.length:Int)) (Tr.re (AV.tup [AV.agg [AV.str [],AV.str [],AV.str [],AV.nils,AV.nils,AV.str [],AV.nils,AV.nils,AV.str [],AV.int .i64 0,AV.int .i64 0,AV.str [],AV.str [],AV.nils,AV.nils,AV.nils,AV.str [],AV.int .i64 0,AV.int .i64 0,AV.str [],AV.str [],AV.nils,AV.str []],
  AV.kb false]) []) (Tr.chk (jF a3) (Tr.br (!a4.2) (Tr.re (AV.tup [AV.agg [AV.str [],AV.str [],AV.str [],AV.nils,AV.nils,AV.str [],AV.nils,AV.nils,AV.str [],AV.int .i64 0,AV.int .i64 0,AV.str [],AV.str [],AV.nils,AV.nils,AV.nils,AV.str [],AV.int .i64 0,AV.int .i64 0,AV.str [],AV.str [],AV.nils,AV.str []],AV.kb false]) []) (Tr.re (AV.tup [AV.agg
  [AV.str z2.1,AV.str z2.2.1,AV.str z2.2.2.1,AV.nils,AV.nils,AV.str z2.2.2.2.1,AV.nils,AV.nils,AV.str z2.2.2.2.2.1,AV.int .i64 z2.2.2.2.2.2.1,AV.int .i64 z2.2.2.2.2.2.2.1,AV.str z2.2.2.2.2.2.2.2.1,AV.str z2.2.2.2.2.2.2.2.2.1,AV.nils,AV.nils,AV.nils,AV.str (ze.op a2.1),AV.int .i64 (ze.v a2.1).1,AV.int .i64 (ze.v a2.1).2.1,
  AV.str (ze.v a2.1).2.2,AV.str (ze.s a2.1),AV.sl Sh.expr (ze.l a2.1),AV.str z2.2.2.2.2.2.2.2.2.2.2.2.2.2.2.1],AV.kb true]) [])))))
 | .h17b l4 b8 z0 z1 jc0 jc1 jc2 jc5 jc8 jc9 jc10 jc11 jc12 jc16 jc17 jc18 jc19 jc20 jc22 lh_3=>
  let a0:=(z1.1,z1.2.1,z1.2.2.1,())
  let a1:=I1 a0
  let a2:=[a1.1]
  let a3:=(a1.2.1,a1.2.2.1,a1.2.2.2.1,())
  let a4:=bc a3 [44]
  let a5:=zU a0 [41]
  let a6:=(jc0,jc1,jc2,[],[],jc5,[],[],ze.mk jc8 (jc9,jc10,jc11) jc12 [],lh_3,[],ze.mk jc16 (jc17,jc18,jc19) jc20 [],jc22)
  let a7:=mF a6
  Tr.br (bif b8 then z1.2.2.1 else false)
  (Tr.chk (G1 a0) (Tr.chk (decide (lh_3.length+a2.length≤1073741824)) (Tr.chk (aN a3 [44]) (Tr.to (Db.h17b l4 a4.1 z0 a4.2 jc0 jc1 jc2 jc5 jc8 jc9 jc10 jc11 jc12 jc16 jc17 jc18 jc19 jc20 jc22 (lh_3++a2))))))
  (Tr.chk (zK a0 [41]) (Tr.br (bif !a5.2.2.1 then true else a5.2.1 != (↑l4.length:Int)) (Tr.re (AV.tup [AV.agg [AV.str [],AV.str [],AV.str [],AV.nils,AV.nils,AV.str [],AV.nils,AV.nils,AV.str [],AV.int .i64 0,AV.int .i64 0,AV.str [],AV.str [],AV.nils,AV.nils,AV.nils,AV.str [],AV.int .i64 0,AV.int .i64 0,AV.str [],AV.str [],AV.nils,AV.str []],AV.kb false]) [])
  (Tr.chk (jF a6) (Tr.br (!a7.2) (Tr.re (AV.tup [AV.agg [AV.str [],AV.str [],AV.str [],AV.nils,AV.nils,AV.str [],AV.nils,AV.nils,AV.str [],AV.int .i64 0,AV.int .i64 0,AV.str [],AV.str [],AV.nils,AV.nils,AV.nils,AV.str [],AV.int .i64 0,AV.int .i64 0,AV.str [],AV.str [],AV.nils,AV.str []],AV.kb false]) []) (Tr.re (AV.tup [AV.agg
  [AV.str jc0,AV.str jc1,AV.str jc2,AV.nils,AV.nils,AV.str jc5,AV.nils,AV.nils,AV.str jc8,AV.int .i64 jc9,AV.int .i64 jc10,AV.str jc11,AV.str jc12,AV.nils,AV.vec 0,AV.nils,AV.str jc16,AV.int .i64 jc17,AV.int .i64 jc18,AV.str jc19,AV.str jc20,AV.nils,AV.str jc22],AV.kb true]) [AO.vec zf lh_3])))))
def w6 (x0:Sem Sh.str):=zT [zp,Sh.bool] ziP 100000000 (zh9 x0)
def Oi (x0:Sem Sh.str):=(w6 x0).isSome
def bK (x0:Sem Sh.str):=o2 (w6 x0)
def zar:=FT [Sh.str] [zp,Sh.bool] fun x=>w6 x.1
theorem VX:FK 62 zar:=vH.T1 (f:=Tryz.f62) (keep:=zeo) (e:=zgM)

def TE:=L3.add 62 zar
theorem Ai:zm TE:=vH.add VX
end

noncomputable def zh2 (x0:Sem Sh.str):Tr (Empty ⊕ zV):=
 Tr.chk (Oi x0)
 (Tr.re
  (AV.agg [AV.str (bK x0).1.1,AV.str (bK x0).1.2.1,AV.str (bK x0).1.2.2.1,AV.sl Sh.str (bK x0).1.2.2.2.1,AV.sl zi (bK x0).1.2.2.2.2.1,AV.str (bK x0).1.2.2.2.2.2.1,AV.sl Sh.str (bK x0).1.2.2.2.2.2.2.1,AV.sl (Sh.str.pr Sh.str) (bK x0).1.2.2.2.2.2.2.2.1,AV.str (ze.op (bK x0).1.2.2.2.2.2.2.2.2.1),
  AV.int .i64 (ze.v (bK x0).1.2.2.2.2.2.2.2.2.1).1,AV.int .i64 (ze.v (bK x0).1.2.2.2.2.2.2.2.2.1).2.1,AV.str (ze.v (bK x0).1.2.2.2.2.2.2.2.2.1).2.2,AV.str (ze.s (bK x0).1.2.2.2.2.2.2.2.2.1),AV.sl Sh.expr (ze.l (bK x0).1.2.2.2.2.2.2.2.2.1),AV.sl zf (bK x0).1.2.2.2.2.2.2.2.2.2.1,AV.sl (Sh.str.pr Sh.expr) (bK x0).1.2.2.2.2.2.2.2.2.2.2.1,
  AV.str (ze.op (bK x0).1.2.2.2.2.2.2.2.2.2.2.2.1),AV.int .i64 (ze.v (bK x0).1.2.2.2.2.2.2.2.2.2.2.2.1).1,AV.int .i64 (ze.v (bK x0).1.2.2.2.2.2.2.2.2.2.2.2.1).2.1,AV.str (ze.v (bK x0).1.2.2.2.2.2.2.2.2.2.2.2.1).2.2,AV.str (ze.s (bK x0).1.2.2.2.2.2.2.2.2.2.2.2.1),AV.sl Sh.expr (ze.l (bK x0).1.2.2.2.2.2.2.2.2.2.2.2.1),
  AV.str (bK x0).1.2.2.2.2.2.2.2.2.2.2.2.2])
  [])
noncomputable def zeB (x0:Sem Sh.str):=zT [zp] t0 100000000 (zh2 x0)
noncomputable def UA:=FT [Sh.str] [zp] fun x=>zeB x.1
theorem KP:FK 32 UA:=Ai.T1 (f:=Tryz.f32) (keep:=k0) (e:=e0)

noncomputable def TG:=TE.add 32 UA
theorem iT:zm TG:=Ai.add KP

noncomputable def Sk:zD:=zS (List.replicate 1 none) (bU BJ Tryz.f133 (List.replicate 1 none))
theorem Pr:FK 133 Sk:=ap _ oD (aL (by kernel_rfl))

noncomputable def SK:zD:=zS (List.replicate 2 none) (bU BJ Tryz.f202 (List.replicate 2 none))
theorem PQ:FK 202 SK:=ap _ oD (aL (by kernel_rfl))

noncomputable def FQ:=BJ.addL [(133,Sk),(202,SK)]
theorem vo:zm FQ:=oD.addL <| fc Pr <| fc PQ <|  gZ

noncomputable def Sm:zD:=zS (List.replicate 3 none) (bU FQ Tryz.f134 (List.replicate 3 none))
theorem Pt:FK 134 Sm:=ap _ vo (aL (by kernel_rfl))

noncomputable def vp:=FQ.add 134 Sm
theorem vq:zm vp:=vo.add Pt

abbrev MY:=jL [(1,[0,1,2,3,8]),(4,[0,1,2,3,8,9])]
inductive rW where
 | h1 (i1:Int) (i2:Int) (i3f_0_0:Int) (i8:Int) (lh_0:List (Sem zf.sl))
 | h4 (i1:Int) (i2:Int) (i3f_0_0:Int) (i8:Int) (i9:Int) (lh_0:List (Sem zf.sl))
abbrev DD:rW→Nat×St
 | .h1 i1 i2 i3f_0_0 i8 lh_0=>(1,⟨tm 53 [(0,AV.vec 0),(1,AV.int .i64 i1),(2,AV.int .i64 i2),(3,AV.clo (Fn.func 134) [AV.agg [AV.int .i64 i3f_0_0]] []),(8,AV.int .i64 i8)],[AO.vec zf.sl lh_0]⟩)
 | .h4 i1 i2 i3f_0_0 i8 i9 lh_0=>(4,⟨tm 53 [(0,AV.vec 0),(1,AV.int .i64 i1),(2,AV.int .i64 i2),(3,AV.clo (Fn.func 134) [AV.agg [AV.int .i64 i3f_0_0]] []),(8,AV.int .i64 i8),(9,AV.int .i64 i9)],[AO.vec zf.sl lh_0]⟩)
theorem Yh:zA vp.P 248 Tryz.f248 4:=aL (by kernel_rfl)
noncomputable def HW (l:List (List (Sem zf))) (a:Int) (b:Int) (k:Int):Tr (rW ⊕ zV):=
 Tr.to (rW.h1 a b k (IntKind.i64.wrap (a+1)) l)
theorem Xg (l:List (List (Sem zf))) (a:Int) (b:Int) (k:Int):rn vp 1 MY Tryz.f248 [AV.vec 0,AV.int .i64 a,AV.int .i64 b,AV.clo (Fn.func 134) [AV.agg [AV.int .i64 k]] []] [AO.vec (Sh.sl zf) l]=(HW l a b k).map (lf Tryz.f248 DD):=by kernel_rfl
noncomputable def n9:rW→Tr (rW ⊕ zV)
 | .h1 i1 i2 i3f_0_0 i8 lh_0=>
  Tr.br (decide (i8 < i2)) (Tr.to (rW.h4 i1 i2 i3f_0_0 i8 i8 lh_0))
  (Tr.re (AV.tup []) [AO.vec zf.sl lh_0])
 | .h4 i1 i2 i3f_0_0 i8 i9 lh_0=>
  let a0:=decide (i9.toNat < lh_0.length)
  let a1:=IntKind.i64.wrap (i9 - 1)
  let a2:=zF a1 lh_0.length
  let a3:=decide (a1.toNat < lh_0.length)
  let a4:=decide (i3f_0_0 < 0)
  let a5:=lh_0.getD i9.toNat (zj zf.sl)
  let a6:=(↑(length a5):Int)
  let a7:=bif a4 then true else decide (i3f_0_0 ≥ a6)
  let a8:=lh_0.getD a1.toNat (zj zf.sl)
  let a9:=(↑(length a8):Int)
  let a10:=bif a4 then true else decide (i3f_0_0 ≥ a9)
  let a11:=bif a10 then true else zF i3f_0_0 (length a8)
  let a12:=getD a8 i3f_0_0.toNat (zj zf)
  let a13:=getD a5 i3f_0_0.toNat (zj zf)
  let a14:=bif a7 then bif a10 then aS (0,0,[]) (0,0,[]) else aS (0,0,[]) a12 else bif a10 then aS a13 (0,0,[]) else aS a13 a12
  let a15:=lh_0.set i9.toNat a8
  Tr.chk (bif decide (i9 > i1) then zF i9 lh_0.length&&(a0&&(a2&&(a3&&bif a7 then a11 else zF i3f_0_0 (length a5)&&a11))) else true)
  (Tr.br (bif decide (i9 > i1) then decide (a14 < 0) else false) (Tr.chk a2 (Tr.chk a3 (Tr.chk (zF i9 lh_0.length) (Tr.chk a0 (Tr.chk (zF i9 lh_0.length) (Tr.chk a0 (Tr.chk (zF a1 a15.length) (Tr.chk (decide (a1.toNat < a15.length)) (Tr.to (rW.h4 i1 i2 i3f_0_0 i8 a1 (a15.set a1.toNat a5))))))))))) (Tr.to (rW.h1 i1 i2 i3f_0_0 (IntKind.i64.wrap (i8+1)) lh_0)))
theorem Ys:∀ s,run vp 1 MY (Func.results Tryz.f248).toList 400 (zy Tryz.f248 (DD s).1) (DD s).2=(n9 s).map (lf Tryz.f248 DD):=by intro s; cases s <;> kernel_rfl
noncomputable def Gj (l:List (List (Sem zf))) (a:Int) (b:Int) (k:Int):=bW n9 100000000 (HW l a b k)


def C1 (r:Option zV):Option (List (List (Sem zf))):=match r with
 | some (.tup [],[.vec (.sl wv) l])=>some l
 | _=>none
theorem nG {r:Option zV} (h:(C1 r).isSome=true):r=some (.tup [],[.vec (.sl zf) ((C1 r).getD [])]):=by
 unfold C1 at h ⊢
 split at h
 ·rfl
 ·cases h
noncomputable def rq (l:List (List (Sem zf))) (a b k:Int):=C1 (Gj l a b k)
noncomputable def Tb:cz [none,none,none,none]:=fun x h=>match x,h with
 | (.vec 0,.int .i64 a,.int .i64 b,.clo (.func 134) [.agg [.int .i64 k]] [],_),[.vec (.sl wv) l]=>.chk ((rq l a b k).isSome) (.ok (.tup [],[.vec (.sl zf) ((rq l a b k).getD [])]))
 | _,_=>.err
noncomputable def SO:zD:=zS [none,none,none,none] Tb
theorem PT:FK 248 SO:=by
 refine gD (ι:=List (List (Sem zf))×Int×Int×Int) (args:=fun y=>[AV.vec 0,AV.int .i64 y.2.1,AV.int .i64 y.2.2.1,AV.clo (Fn.func 134) [AV.agg [AV.int .i64 y.2.2.2]] []]) (heap:=fun y=>[AO.vec zf.sl y.1]) (i:=fun y=>HW y.1 y.2.1 y.2.2.1 y.2.2.2) (t:=n9) (e:=DD) (n:=100000000) (n0:=1) vq Yh (fun _=>rfl) (fun y=>Xg _ _ _ _) Ys (fun x h res hv=>?_)
 unfold Tb at hv
 split at hv
 ·rename_i a b k u l
  simp only [Tr.val] at hv
  split at hv
  ·rename_i h1
   simp only [aq] at hv
   subst hv
   exact ⟨(l,a,b,k),rfl,rfl,nG h1⟩
  ·cases hv
 ·simp at hv

noncomputable def vt:=vp.add 248 SO
theorem vu:zm vt:=vq.add PT
noncomputable section

abbrev M1:=jL [(1,[0,1,2,3,10])]
inductive yp where
 | h1 (i1:Int) (i2:Int) (i3:Int) (i10:Int) (lh_0:List (Sem zf.sl))
abbrev DG:yp→Nat×St
 | .h1 i1 i2 i3 i10 lh_0=>(1,⟨tm 38 [(0,AV.vec 0),(1,AV.int .i64 i1),(2,AV.int .i64 i2),(3,AV.int .i64 i3),(10,AV.int .i64 i10)],[AO.vec zf.sl lh_0]⟩)
theorem Yj:zA vt.P 293 Tryz.f293 5:=aL (by kernel_rfl)
def Ms (l:List (List (Sem zf))) (a:Int) (b:Int) (n:Int) (_:Int):Tr (yp ⊕ zV):=
 Tr.to (yp.h1 a b n 0 l)
theorem Xm (l:List (List (Sem zf))) (a:Int) (b:Int) (n:Int) (k:Int):rn vt 1 M1 Tryz.f293 [AV.vec 0,AV.int .i64 a,AV.int .i64 b,AV.int .i64 n,AV.clo (Fn.func 134) [AV.agg [AV.int .i64 k]] []] [AO.vec (Sh.sl zf) l]=(Ms l a b n k).map (lf Tryz.f293 DG):=by kernel_rfl
def A0:yp→Tr (yp ⊕ zV)
 | .h1 i1 i2 i3 i10 lh_0=>
  let a0:=IntKind.i64.wrap (i2+i10)
  let a1:=IntKind.i64.wrap (i1+i10)
  let a2:=zF a1 lh_0.length
  let a3:=decide (a1.toNat < lh_0.length)
  let a4:=lh_0.set a1.toNat (lh_0.getD a0.toNat (zj zf.sl))
  Tr.br (decide (i10 < i3))
  (Tr.chk (zF a0 lh_0.length) (Tr.chk (decide (a0.toNat < lh_0.length)) (Tr.chk a2 (Tr.chk a3 (Tr.chk a2 (Tr.chk a3 (Tr.chk (zF a0 a4.length) (Tr.chk (decide (a0.toNat < a4.length)) (Tr.to (yp.h1 i1 i2 i3 (IntKind.i64.wrap (i10+1)) (a4.set a0.toNat (lh_0.getD a1.toNat (zj zf.sl)))))))))))))
  (Tr.re (AV.tup []) [AO.vec zf.sl lh_0])
theorem Yv:∀ s,run vt 1 M1 (Func.results Tryz.f293).toList 400 (zy Tryz.f293 (DG s).1) (DG s).2=(A0 s).map (lf Tryz.f293 DG):=by intro s; cases s <;> kernel_rfl
def zfY (l:List (List (Sem zf))) (a:Int) (b:Int) (n:Int) (k:Int):=bW A0 100000000 (Ms l a b n k)

def G9 (l:List (List (Sem zf))) (a b n k:Int):=C1 (zfY l a b n k)
def Td:cz [none,none,none,none,none]:=fun x h=>match x,h with
 | (.vec 0,.int .i64 a,.int .i64 b,.int .i64 n,.clo (.func 134) [.agg [.int .i64 k]] [],_),[.vec (.sl wv) l]=>.chk ((G9 l a b n k).isSome) (.ok (.tup [],[.vec (.sl zf) ((G9 l a b n k).getD [])]))
 | _,_=>.err
def SV:zD:=zS [none,none,none,none,none] Td
theorem P0:FK 293 SV:=by
 refine gD (ι:=List (List (Sem zf))×Int×Int×Int×Int) (args:=fun y=>[AV.vec 0,AV.int .i64 y.2.1,AV.int .i64 y.2.2.1,AV.int .i64 y.2.2.2.1,AV.clo (Fn.func 134) [AV.agg [AV.int .i64 y.2.2.2.2]] []]) (heap:=fun y=>[AO.vec zf.sl y.1]) (i:=fun y=>Ms y.1 y.2.1 y.2.2.1 y.2.2.2.1 y.2.2.2.2) (t:=A0) (e:=DG) (n:=100000000) (n0:=1) vu Yj (fun _=>rfl) (fun y=>Xm _ _ _ _ _) Yv (fun x h res hv=>?_)
 unfold Td at hv
 split at hv
 ·rename_i a b n k u l
  simp only [Tr.val] at hv
  split at hv
  ·rename_i h1
   simp only [aq] at hv
   subst hv
   exact ⟨(l,a,b,n,k),rfl,rfl,nG h1⟩
  ·cases hv
 ·simp at hv

def DX:=vt.add 293 SV
theorem y7:zm DX:=vu.add P0
end
noncomputable section

abbrev M0:=jL [(2,[0,2,4,10,11])]
inductive ua where
 | h2 (i2:Int) (i4f_0_0:Int) (i10:Int) (i11:Int) (lh_0:List (Sem zf.sl))
abbrev DF:ua→Nat×St
 | .h2 i2 i4f_0_0 i10 i11 lh_0=>(2,⟨tm 58 [(0,AV.vec 0),(2,AV.int .i64 i2),(4,AV.clo (Fn.func 134) [AV.agg [AV.int .i64 i4f_0_0]] []),(10,AV.int .i64 i10),(11,AV.int .i64 i11)],[AO.vec zf.sl lh_0]⟩)
theorem Yi:zA DX.P 277 Tryz.f277 5:=aL (by kernel_rfl)
def HX (l:List (List (Sem zf))) (a:Int) (m:Int) (b:Int) (k:Int):Tr (ua ⊕ zV):=
 Tr.to (ua.h2 m k (IntKind.i64.wrap (m - a)) (IntKind.i64.wrap (b - m)) l)
theorem Xl (l:List (List (Sem zf))) (a:Int) (m:Int) (b:Int) (k:Int):rn DX 1 M0 Tryz.f277 [AV.vec 0,AV.int .i64 a,AV.int .i64 m,AV.int .i64 b,AV.clo (Fn.func 134) [AV.agg [AV.int .i64 k]] []] [AO.vec (Sh.sl zf) l]=(HX l a m b k).map (lf Tryz.f277 DF):=by kernel_rfl
def xC:ua→Tr (ua ⊕ zV)
 | .h2 i2 i4f_0_0 i10 i11 lh_0=>
  let a0:=IntKind.i64.wrap (i2 - i10)
  let a1:=G9 lh_0 a0 i2 i11 i4f_0_0
  let a2:=G9 lh_0 a0 (IntKind.i64.wrap (IntKind.i64.wrap (i2+i11) - i10)) i10 i4f_0_0
  let a3:=G9 lh_0 a0 i2 i10 i4f_0_0
  Tr.br (i10 != i11)
  (Tr.br (decide (i10 > i11)) (Tr.chk a1.isSome (Tr.to (ua.h2 i2 i4f_0_0 (IntKind.i64.wrap (i10 - i11)) i11 (a1.getD [])))) (Tr.chk a2.isSome (Tr.to (ua.h2 i2 i4f_0_0 i10 (IntKind.i64.wrap (i11 - i10)) (a2.getD [])))))
  (Tr.chk a3.isSome (Tr.re (AV.tup []) [AO.vec zf.sl (a3.getD [])]))
theorem Yu:∀ s,run DX 1 M0 (Func.results Tryz.f277).toList 400 (zy Tryz.f277 (DF s).1) (DF s).2=(xC s).map (lf Tryz.f277 DF):=by intro s; cases s <;> kernel_rfl
def YP (l:List (List (Sem zf))) (a:Int) (m:Int) (b:Int) (k:Int):=bW xC 100000000 (HX l a m b k)

def Kq (l:List (List (Sem zf))) (a m b k:Int):=C1 (YP l a m b k)
def Tc:cz [none,none,none,none,none]:=fun x h=>match x,h with
 | (.vec 0,.int .i64 a,.int .i64 m,.int .i64 b,.clo (.func 134) [.agg [.int .i64 k]] [],_),[.vec (.sl wv) l]=>.chk ((Kq l a m b k).isSome) (.ok (.tup [],[.vec (.sl zf) ((Kq l a m b k).getD [])]))
 | _,_=>.err
def SS:zD:=zS [none,none,none,none,none] Tc
theorem PX:FK 277 SS:=by
 refine gD (ι:=List (List (Sem zf))×Int×Int×Int×Int) (args:=fun y=>[AV.vec 0,AV.int .i64 y.2.1,AV.int .i64 y.2.2.1,AV.int .i64 y.2.2.2.1,AV.clo (Fn.func 134) [AV.agg [AV.int .i64 y.2.2.2.2]] []]) (heap:=fun y=>[AO.vec zf.sl y.1]) (i:=fun y=>HX y.1 y.2.1 y.2.2.1 y.2.2.2.1 y.2.2.2.2) (t:=xC) (e:=DF) (n:=100000000) (n0:=1) y7 Yi (fun _=>rfl) (fun y=>Xl _ _ _ _ _) Yu (fun x h res hv=>?_)
 unfold Tc at hv
 split at hv
 ·rename_i a m b k u l
  simp only [Tr.val] at hv
  split at hv
  ·rename_i h1
   simp only [aq] at hv
   subst hv
   exact ⟨(l,a,m,b,k),rfl,rfl,nG h1⟩
  ·cases hv
 ·simp at hv

def HK:=DX.add 277 SS
theorem y8:zm HK:=y7.add PX
end
noncomputable section
abbrev SM:=List (List (Sem zf))→Int→Int→Int→Int→Option (List (List (Sem zf)))
def GSm (o:SM):cz [none,none,none,none,none]:=fun x h=>match x,h with
 | (.vec 0,.int .i64 a,.int .i64 m,.int .i64 b,.clo (.func 134) [.agg [.int .i64 k]] [],_),[.vec (.sl wv) l]=>.chk ((o l a m b k).isSome) (.ok (.tup [],[.vec (.sl zf) ((o l a m b k).getD [])]))
 | _,_=>.err
def FSm (o:SM):zD:=zS [none,none,none,none,none] (GSm o)
def uY (o:SM):bq:=HK.add 249 (FSm o)
theorem FO {o:SM} (h:FK 249 (FSm o)):zm (uY o):=y8.add h

abbrev MZ:=jL [(3,[0,1,4,10,11]),(9,[0,10,13]),(15,[0,2,4,14,15]),(21,[0,14,17]),(33,[0,1,2,3,4,18,19,20,21,22])]
inductive gh where
 | h3 (i1:Int) (i4f_0_0:Int) (i10:Int) (i11:Int) (lh_0:List (Sem zf.sl))
 | h15 (i2:Int) (i4f_0_0:Int) (i14:Int) (i15:Int) (lh_0:List (Sem zf.sl))
 | h33 (i1:Int) (i2:Int) (i3:Int) (i4f_0_0:Int) (i18:Int) (i19:Int) (i20:Int) (i21:Int) (i22:Int) (lh_0:List (Sem zf.sl))
 | h9 (i10:Int) (i13:Int) (lh_0:List (Sem zf.sl))
 | h21 (i14:Int) (i17:Int) (lh_0:List (Sem zf.sl))
abbrev DE:gh→Nat×St
 | .h3 i1 i4f_0_0 i10 i11 lh_0=>(3,⟨tm 220 [(0,AV.vec 0),(1,AV.int .i64 i1),(4,AV.clo (Fn.func 134) [AV.agg [AV.int .i64 i4f_0_0]] []),(10,AV.int .i64 i10),(11,AV.int .i64 i11)],[AO.vec zf.sl lh_0]⟩)
 | .h15 i2 i4f_0_0 i14 i15 lh_0=>(15,⟨tm 220 [(0,AV.vec 0),(2,AV.int .i64 i2),(4,AV.clo (Fn.func 134) [AV.agg [AV.int .i64 i4f_0_0]] []),(14,AV.int .i64 i14),(15,AV.int .i64 i15)],[AO.vec zf.sl lh_0]⟩)
 | .h33 i1 i2 i3 i4f_0_0 i18 i19 i20 i21 i22 lh_0=>(33,⟨tm 220 [(0,AV.vec 0),(1,AV.int .i64 i1),(2,AV.int .i64 i2),(3,AV.int .i64 i3),(4,AV.clo (Fn.func 134) [AV.agg [AV.int .i64 i4f_0_0]] []),(18,AV.int .i64 i18),(19,AV.int .i64 i19),(20,AV.int .i64 i20),(21,AV.int .i64 i21),(22,AV.int .i64 i22)],[AO.vec zf.sl lh_0]⟩)
 | .h9 i10 i13 lh_0=>(9,⟨tm 220 [(0,AV.vec 0),(10,AV.int .i64 i10),(13,AV.int .i64 i13)],[AO.vec zf.sl lh_0]⟩)
 | .h21 i14 i17 lh_0=>(21,⟨tm 220 [(0,AV.vec 0),(14,AV.int .i64 i14),(17,AV.int .i64 i17)],[AO.vec zf.sl lh_0]⟩)
theorem Ca (o:SM):zA (uY o).P 249 Tryz.f249 5:=aL (by kernel_rfl)
def su (_:SM) (l:List (List (Sem zf))) (a:Int) (m:Int) (b:Int) (k:Int):Tr (gh ⊕ zV):=
 let a0:=IntKind.i64.wrap (IntKind.u64.wrap (IntKind.i64.wrap (a+b)) / 2)
 let a1:=IntKind.i64.wrap (a0+m)
 let a2:=IntKind.i64.wrap (a1 - 1)
 Tr.br (IntKind.i64.wrap (m - a)==1) (Tr.to (gh.h3 a k m b l))
 (Tr.br (IntKind.i64.wrap (b - m)==1) (Tr.to (gh.h15 m k a m l))
  (Tr.chk true (Tr.br (decide (m > a0)) (Tr.to (gh.h33 a m b k a0 a1 (IntKind.i64.wrap (a1 - b)) a0 a2 l)) (Tr.to (gh.h33 a m b k a0 a1 a m a2 l)))))
theorem Xh (o:SM) (l:List (List (Sem zf))) (a:Int) (m:Int) (b:Int) (k:Int):rn (uY o) 1 MZ Tryz.f249 [AV.vec 0,AV.int .i64 a,AV.int .i64 m,AV.int .i64 b,AV.clo (Fn.func 134) [AV.agg [AV.int .i64 k]] []] [AO.vec (Sh.sl zf) l]=(su o l a m b k).map (lf Tryz.f249 DE):=by kernel_rfl
def du (o:SM):gh→Tr (gh ⊕ zV)
 | .h3 i1 i4f_0_0 i10 i11 lh_0=>
  let a0:=IntKind.i64.wrap (IntKind.u64.wrap (IntKind.i64.wrap (i10+i11)) / 2)
  let a1:=decide (i4f_0_0 < 0)
  let a2:=lh_0.getD a0.toNat (zj zf.sl)
  let a3:=(↑(length a2):Int)
  let a4:=bif a1 then true else decide (i4f_0_0 ≥ a3)
  let a5:=lh_0.getD i1.toNat (zj zf.sl)
  let a6:=(↑(length a5):Int)
  let a7:=bif a1 then true else decide (i4f_0_0 ≥ a6)
  let a8:=bif a7 then true else zF i4f_0_0 (length a5)
  let a9:=getD a5 i4f_0_0.toNat (zj zf)
  let a10:=getD a2 i4f_0_0.toNat (zj zf)
  let a11:=bif a4 then bif a7 then aS (0,0,[]) (0,0,[]) else aS (0,0,[]) a9 else bif a7 then aS a10 (0,0,[]) else aS a10 a9
  Tr.br (decide (i10 < i11))
  (Tr.chk true (Tr.chk (zF a0 lh_0.length) (Tr.chk (decide (a0.toNat < lh_0.length)) (Tr.chk (zF i1 lh_0.length) (Tr.chk (decide (i1.toNat < lh_0.length)) (Tr.chk (bif a4 then a8 else zF i4f_0_0 (length a2)&&a8) (Tr.br (decide (a11 < 0)) (Tr.to (gh.h3 i1 i4f_0_0 (IntKind.i64.wrap (a0+1)) i11 lh_0)) (Tr.to (gh.h3 i1 i4f_0_0 i10 a0 lh_0)))))))))
  (Tr.to (gh.h9 i10 i1 lh_0))
 | .h15 i2 i4f_0_0 i14 i15 lh_0=>
  let a0:=IntKind.i64.wrap (IntKind.u64.wrap (IntKind.i64.wrap (i14+i15)) / 2)
  let a1:=decide (i4f_0_0 < 0)
  let a2:=lh_0.getD i2.toNat (zj zf.sl)
  let a3:=(↑(length a2):Int)
  let a4:=bif a1 then true else decide (i4f_0_0 ≥ a3)
  let a5:=lh_0.getD a0.toNat (zj zf.sl)
  let a6:=(↑(length a5):Int)
  let a7:=bif a1 then true else decide (i4f_0_0 ≥ a6)
  let a8:=bif a7 then true else zF i4f_0_0 (length a5)
  let a9:=getD a5 i4f_0_0.toNat (zj zf)
  let a10:=getD a2 i4f_0_0.toNat (zj zf)
  let a11:=bif a4 then bif a7 then aS (0,0,[]) (0,0,[]) else aS (0,0,[]) a9 else bif a7 then aS a10 (0,0,[]) else aS a10 a9
  Tr.br (decide (i14 < i15))
  (Tr.chk true (Tr.chk (zF i2 lh_0.length) (Tr.chk (decide (i2.toNat < lh_0.length)) (Tr.chk (zF a0 lh_0.length) (Tr.chk (decide (a0.toNat < lh_0.length)) (Tr.chk (bif a4 then a8 else zF i4f_0_0 (length a2)&&a8) (Tr.br (!decide (a11 < 0)) (Tr.to (gh.h15 i2 i4f_0_0 (IntKind.i64.wrap (a0+1)) i15 lh_0)) (Tr.to (gh.h15 i2 i4f_0_0 i14 a0 lh_0)))))))))
  (Tr.to (gh.h21 i14 i2 lh_0))
 | .h33 i1 i2 i3 i4f_0_0 i18 i19 i20 i21 i22 lh_0=>
  let a0:=IntKind.i64.wrap (IntKind.u64.wrap (IntKind.i64.wrap (i20+i21)) / 2)
  let a1:=IntKind.i64.wrap (i22 - a0)
  let a2:=decide (i4f_0_0 < 0)
  let a3:=lh_0.getD a1.toNat (zj zf.sl)
  let a4:=(↑(length a3):Int)
  let a5:=bif a2 then true else decide (i4f_0_0 ≥ a4)
  let a6:=lh_0.getD a0.toNat (zj zf.sl)
  let a7:=(↑(length a6):Int)
  let a8:=bif a2 then true else decide (i4f_0_0 ≥ a7)
  let a9:=bif a8 then true else zF i4f_0_0 (length a6)
  let a10:=getD a6 i4f_0_0.toNat (zj zf)
  let a11:=getD a3 i4f_0_0.toNat (zj zf)
  let a12:=bif a5 then bif a8 then aS (0,0,[]) (0,0,[]) else aS (0,0,[]) a10 else bif a8 then aS a11 (0,0,[]) else aS a11 a10
  let a13:=IntKind.i64.wrap (i19 - i20)
  let a14:=Kq lh_0 i20 i2 a13 i4f_0_0
  let a15:=bif decide (i1 < i20) then decide (i20 < i18) else false
  let a16:=a14.getD []
  let a17:=o a16 i1 i20 i18 i4f_0_0
  let a18:=bif decide (i18 < a13) then decide (a13 < i3) else false
  let a19:=a17.getD []
  let a20:=o a19 i18 a13 i3 i4f_0_0
  let a21:=o a16 i18 a13 i3 i4f_0_0
  let a22:=o lh_0 i1 i20 i18 i4f_0_0
  let a23:=a22.getD []
  let a24:=o a23 i18 a13 i3 i4f_0_0
  let a25:=o lh_0 i18 a13 i3 i4f_0_0
  Tr.br (decide (i20 < i21))
  (Tr.chk true (Tr.chk (zF a1 lh_0.length) (Tr.chk (decide (a1.toNat < lh_0.length)) (Tr.chk (zF a0 lh_0.length) (Tr.chk (decide (a0.toNat < lh_0.length)) (Tr.chk (bif a5 then a9 else zF i4f_0_0 (length a3)&&a9) (Tr.br (!decide (a12 < 0)) (Tr.to (gh.h33 i1 i2 i3 i4f_0_0 i18 i19 (IntKind.i64.wrap (a0+1)) i21 i22 lh_0))
  (Tr.to (gh.h33 i1 i2 i3 i4f_0_0 i18 i19 i20 a0 i22 lh_0)))))))))
  (Tr.br (bif decide (i20 < i2) then decide (i2 < a13) else false) (Tr.chk a14.isSome (Tr.br a15 (Tr.chk a17.isSome (Tr.br a18 (Tr.chk a20.isSome (Tr.re (AV.tup []) [AO.vec zf.sl (a20.getD [])])) (Tr.re (AV.tup []) [AO.vec zf.sl a19]))) (Tr.br a18 (Tr.chk a21.isSome (Tr.re (AV.tup []) [AO.vec zf.sl (a21.getD [])])) (Tr.re (AV.tup []) [AO.vec zf.sl a16])))) (Tr.br a15
  (Tr.chk a22.isSome (Tr.br a18 (Tr.chk a24.isSome (Tr.re (AV.tup []) [AO.vec zf.sl (a24.getD [])])) (Tr.re (AV.tup []) [AO.vec zf.sl a23]))) (Tr.br a18 (Tr.chk a25.isSome (Tr.re (AV.tup []) [AO.vec zf.sl (a25.getD [])])) (Tr.re (AV.tup []) [AO.vec zf.sl lh_0]))))
 | .h9 i10 i13 lh_0=>
  let a0:=IntKind.i64.wrap (i10 - 1)
  let a1:=IntKind.i64.wrap (i13+1)
  let a2:=decide (i13.toNat < lh_0.length)
  let a3:=lh_0.set i13.toNat (lh_0.getD a1.toNat (zj zf.sl))
  Tr.br (decide (i13 < a0))
  (Tr.chk (zF a1 lh_0.length) (Tr.chk (decide (a1.toNat < lh_0.length)) (Tr.chk (zF i13 lh_0.length) (Tr.chk a2 (Tr.chk (zF i13 lh_0.length) (Tr.chk a2 (Tr.chk (zF a1 a3.length) (Tr.chk (decide (a1.toNat < a3.length)) (Tr.to (gh.h9 i10 a1 (a3.set a1.toNat (lh_0.getD i13.toNat (zj zf.sl)))))))))))))
  (Tr.re (AV.tup []) [AO.vec zf.sl lh_0])
 | .h21 i14 i17 lh_0=>
  let a0:=IntKind.i64.wrap (i17 - 1)
  let a1:=decide (i17.toNat < lh_0.length)
  let a2:=lh_0.set i17.toNat (lh_0.getD a0.toNat (zj zf.sl))
  Tr.br (decide (i17 > i14))
  (Tr.chk (zF a0 lh_0.length) (Tr.chk (decide (a0.toNat < lh_0.length)) (Tr.chk (zF i17 lh_0.length) (Tr.chk a1 (Tr.chk (zF i17 lh_0.length) (Tr.chk a1 (Tr.chk (zF a0 a2.length) (Tr.chk (decide (a0.toNat < a2.length)) (Tr.to (gh.h21 i14 a0 (a2.set a0.toNat (lh_0.getD i17.toNat (zj zf.sl)))))))))))))
  (Tr.re (AV.tup []) [AO.vec zf.sl lh_0])
theorem Yt (o:SM):∀ s,run (uY o) 1 MZ (Func.results Tryz.f249).toList 400 (zy Tryz.f249 (DE s).1) (DE s).2=(du o s).map (lf Tryz.f249 DE):=by intro s; cases s <;> kernel_rfl

def smS (o:SM):SM:=fun l a m b k=>C1 (bW (du o) 100000000 (su o l a m b k))
def xz:Nat→SM
 | 0=>fun _ _ _ _ _=>none
 | n+1=>smS (xz n)
theorem Hm:∀ n,FK 249 (FSm (xz n))
 | 0=>fA (E:=HK) ⟨Tryz.f249,(Ca (xz 0)).1,(Ca (xz 0)).2.1,(Ca (xz 0)).2.2.1⟩ fun x h0 res h=>by
  exfalso
  unfold GSm at h
  split at h
  ·simp [xz,Tr.val] at h
  ·simp at h
 | n+1=>by
  refine gD (E:=uY (xz n)) (ι:=List (List (Sem zf))×Int×Int×Int×Int) (args:=fun y=>[AV.vec 0,AV.int .i64 y.2.1,AV.int .i64 y.2.2.1,AV.int .i64 y.2.2.2.1,AV.clo (Fn.func 134) [AV.agg [AV.int .i64 y.2.2.2.2]] []]) (heap:=fun y=>[AO.vec zf.sl y.1]) (i:=fun y=>su (xz n) y.1 y.2.1 y.2.2.1 y.2.2.2.1 y.2.2.2.2) (t:=du (xz n)) (e:=DE) (n:=100000000) (n0:=1) (FO (Hm n)) (Ca (xz n)) (fun _=>rfl) (fun y=>Xh _ _ _ _ _ _) (Yt (xz n)) (fun x h res hv=>?_)
  unfold GSm at hv
  split at hv
  ·rename_i a m b k u l
   simp only [Tr.val] at hv
   split at hv
   ·rename_i h1
    simp only [aq] at hv
    subst hv
    exact ⟨(l,a,m,b,k),rfl,rfl,nG h1⟩
   ·cases hv
  ·simp at hv
def SP:zD:=FSm (xz 16)
theorem PU:FK 249 SP:=Hm 16

def DY:=HK.add 249 SP
theorem y9:zm DY:=y8.add PU
end
noncomputable section

abbrev MX:=jL [(2,[0,1,2,6,7,8]),(7,[0,1,2,6]),(9,[0,1,2,6,7,8])]
inductive lS where
 | h2 (i1:Int) (i2f_0_0:Int) (i6:Int) (i7:Int) (i8:Int) (lh_0:List (Sem zf.sl))
 | h7 (i1:Int) (i2f_0_0:Int) (i6:Int) (lh_0:List (Sem zf.sl))
 | h9 (i1:Int) (i2f_0_0:Int) (i6:Int) (i7:Int) (i8:Int) (lh_0:List (Sem zf.sl))
abbrev DB:lS→Nat×St
 | .h2 i1 i2f_0_0 i6 i7 i8 lh_0=>(2,⟨tm 63 [(0,AV.vec 0),(1,AV.int .i64 i1),(2,AV.clo (Fn.func 134) [AV.agg [AV.int .i64 i2f_0_0]] []),(6,AV.int .i64 i6),(7,AV.int .i64 i7),(8,AV.int .i64 i8)],[AO.vec zf.sl lh_0]⟩)
 | .h7 i1 i2f_0_0 i6 lh_0=>(7,⟨tm 63 [(0,AV.vec 0),(1,AV.int .i64 i1),(2,AV.clo (Fn.func 134) [AV.agg [AV.int .i64 i2f_0_0]] []),(6,AV.int .i64 i6)],[AO.vec zf.sl lh_0]⟩)
 | .h9 i1 i2f_0_0 i6 i7 i8 lh_0=>(9,⟨tm 63 [(0,AV.vec 0),(1,AV.int .i64 i1),(2,AV.clo (Fn.func 134) [AV.agg [AV.int .i64 i2f_0_0]] []),(6,AV.int .i64 i6),(7,AV.int .i64 i7),(8,AV.int .i64 i8)],[AO.vec zf.sl lh_0]⟩)
theorem Yf:zA DY.P 201 Tryz.f201 3:=aL (by kernel_rfl)
def Mq (l:List (List (Sem zf))) (n:Int) (k:Int):Tr (lS ⊕ zV):=
 Tr.to (lS.h2 n k 20 0 20 l)
theorem Xe (l:List (List (Sem zf))) (n:Int) (k:Int):rn DY 1 MX Tryz.f201 [AV.vec 0,AV.int .i64 n,AV.clo (Fn.func 134) [AV.agg [AV.int .i64 k]] []] [AO.vec (Sh.sl zf) l]=(Mq l n k).map (lf Tryz.f201 DB):=by kernel_rfl
def im:lS→Tr (lS ⊕ zV)
 | .h2 i1 i2f_0_0 i6 i7 i8 lh_0=>
  let a0:=rq lh_0 i7 i8 i2f_0_0
  let a1:=rq lh_0 i7 i1 i2f_0_0
  Tr.br (decide (i8≤i1)) (Tr.chk a0.isSome (Tr.to (lS.h2 i1 i2f_0_0 i6 i8 (IntKind.i64.wrap (i8+i6)) (a0.getD []))))
  (Tr.chk a1.isSome (Tr.to (lS.h7 i1 i2f_0_0 i6 (a1.getD []))))
 | .h7 i1 i2f_0_0 i6 lh_0=>
  Tr.br (decide (i6 < i1)) (Tr.to (lS.h9 i1 i2f_0_0 i6 0 (IntKind.i64.wrap (2 * i6)) lh_0))
  (Tr.re (AV.tup []) [AO.vec zf.sl lh_0])
 | .h9 i1 i2f_0_0 i6 i7 i8 lh_0=>
  let a0:=IntKind.i64.wrap (i7+i6)
  let a1:=xz 16 lh_0 i7 a0 i8 i2f_0_0
  let a2:=xz 16 lh_0 i7 a0 i1 i2f_0_0
  let a3:=IntKind.i64.wrap (i6 * 2)
  Tr.br (decide (i8≤i1)) (Tr.chk a1.isSome (Tr.to (lS.h9 i1 i2f_0_0 i6 i8 (IntKind.i64.wrap (i8+IntKind.i64.wrap (2 * i6))) (a1.getD []))))
  (Tr.br (decide (a0 < i1)) (Tr.chk a2.isSome (Tr.to (lS.h7 i1 i2f_0_0 a3 (a2.getD [])))) (Tr.to (lS.h7 i1 i2f_0_0 a3 lh_0)))
theorem Yq:∀ s,run DY 1 MX (Func.results Tryz.f201).toList 400 (zy Tryz.f201 (DB s).1) (DB s).2=(im s).map (lf Tryz.f201 DB):=by intro s; cases s <;> kernel_rfl
def Ux (l:List (List (Sem zf))) (n:Int) (k:Int):=bW im 100000000 (Mq l n k)

def Fa (l:List (List (Sem zf))) (n k:Int):=C1 (Ux l n k)
def S9:cz [none,none,none]:=fun x h=>match x,h with
 | (.vec 0,.int .i64 n,.clo (.func 134) [.agg [.int .i64 k]] [],_),[.vec (.sl wv) l]=>.chk ((Fa l n k).isSome) (.ok (.tup [],[.vec (.sl zf) ((Fa l n k).getD [])]))
 | _,_=>.err
def SJ:zD:=zS [none,none,none] S9
theorem PP:FK 201 SJ:=by
 refine gD (ι:=List (List (Sem zf))×Int×Int) (args:=fun y=>[AV.vec 0,AV.int .i64 y.2.1,AV.clo (Fn.func 134) [AV.agg [AV.int .i64 y.2.2]] []]) (heap:=fun y=>[AO.vec zf.sl y.1]) (i:=fun y=>Mq y.1 y.2.1 y.2.2) (t:=im) (e:=DB) (n:=100000000) (n0:=1) y9 Yf (fun _=>rfl) (fun y=>Xe _ _ _) Yq (fun x h res hv=>?_)
 unfold S9 at hv
 split at hv
 ·rename_i n k u l
  simp only [Tr.val] at hv
  split at hv
  ·rename_i h1
   simp only [aq] at hv
   subst hv
   exact ⟨(l,n,k),rfl,rfl,nG h1⟩
  ·cases hv
 ·simp at hv

def BK:=DY.add 201 SJ
theorem vw:zm BK:=y9.add PP
end

abbrev XK:=jL []
theorem Yb:zA BK.P 132 Tryz.f132 2:=aL (by kernel_rfl)
noncomputable def HV (l:List (List (Sem zf))) (k:Int):Tr (Empty ⊕ zV):=
 let a0:=Fa l (↑l.length:Int) k
 Tr.chk a0.isSome (Tr.re (AV.tup []) [AO.vec zf.sl (a0.getD [])])
theorem W8 (l:List (List (Sem zf))) (k:Int):rn BK 1 XK Tryz.f132 [AV.vec 0,AV.clo (Fn.func 134) [AV.agg [AV.int .i64 k]] []] [AO.vec (Sh.sl zf) l]=(HV l k).map (lf Tryz.f132 e0):=by kernel_rfl
noncomputable def G6 (l:List (List (Sem zf))) (k:Int):=bW t0 100000000 (HV l k)

noncomputable def rP (l:List (List (Sem zf))) (k:Int):=C1 (G6 l k)
noncomputable def S8:cz [none,none]:=fun x h=>match x,h with
 | (.vec 0,.clo (.func 134) [.agg [.int .i64 k]] [],_),[.vec (.sl wv) l]=>.chk ((rP l k).isSome) (.ok (.tup [],[.vec (.sl zf) ((rP l k).getD [])]))
 | _,_=>.err
noncomputable def Si:zD:=zS [none,none] S8
theorem Pp:FK 132 Si:=by
 refine gD (ι:=List (List (Sem zf))×Int) (args:=fun y=>[AV.vec 0,AV.clo (Fn.func 134) [AV.agg [AV.int .i64 y.2]] []]) (heap:=fun y=>[AO.vec zf.sl y.1]) (i:=fun y=>HV y.1 y.2) (t:=t0) (e:=e0) (n:=100000000) (n0:=1) vw Yb (fun _=>rfl) (fun y=>W8 _ _) (KG _ _ _ _ _) (fun x h res hv=>?_)
 unfold S8 at hv
 split at hv
 ·rename_i k u l
  simp only [Tr.val] at hv
  split at hv
  ·rename_i h1
   simp only [aq] at hv
   subst hv
   exact ⟨(l,k),rfl,rfl,nG h1⟩
  ·cases hv
 ·simp at hv

noncomputable def LP:=BK.add 132 Si
theorem FR:zm LP:=vw.add Pp
end Cad
