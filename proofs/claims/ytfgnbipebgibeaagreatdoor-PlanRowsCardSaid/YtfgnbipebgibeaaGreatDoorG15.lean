/- The document's reader: parts, passing. The document's reader: names. The document's reader: tokens. The document's reader: cut; names. The document's writer. The document's statements: texts. Functions on two variables to which pointers lead. The document's reader: MIGRATE. -/
import Derived.Test.YtfgnbipebgibeaaGreatDoorG14
import Derived.Test.YtfgnbipebgibeaaGreatDoorG06
namespace Cad
open Go Go.Proofs
noncomputable section
set_option maxHeartbeats 4000000

abbrev zES:Nat→zQ:=fun _=>{ }
theorem zM5:zF zcI.P 135 Tryz.f135 1:=by refine ⟨?_,?_,?_,?_⟩ <;> kernel_rfl
def zAv (x0:Sem (Sh.int IntKind.u8)):Tr (Empty ⊕ Raw):=
 Tr.chk (zc6 x0&&bif zdM x0 then true else zeC x0) (Tr.re (AV.bool (bif zdM x0 then true else bif zgc x0 then true else x0==95)) [])
theorem zO7 (x0:Sem (Sh.int IntKind.u8)):run zcI 0 zES (Func.results Tryz.f135).toList 400 (zq Tryz.f135) (zp (Func.ntmps Tryz.f135) [zx (Sh.int IntKind.u8) x0] [])=(zAv x0).map (lf Tryz.f135 e0):=by kernel_rfl
def zou (x0:Sem (Sh.int IntKind.u8)):Option (zo (List.map some [Sh.bool])):=zaj [Sh.bool] t0 100000000 (zAv x0)
def zjS (x0:Sem (Sh.int IntKind.u8)):Bool:=(zou x0).isSome
def zm0 (x0:Sem (Sh.int IntKind.u8)):Sem Sh.bool:=(fun r:zo (List.map some [Sh.bool])=>r.1) ((zou x0).getD (zad [Sh.bool]))
def zK2:zJ:=zG [Sh.int IntKind.u8] [Sh.bool] (fun x=>zjS x.1) fun x=>(zm0 x.1,())
theorem zIZ:FOk zcI.P zcI.gl 135 zK2:=zae (ks:=[Sh.int IntKind.u8]) (outs:=[Sh.bool]) (keep:=zES) (gas:=400) (n:=100000000) (e:=e0) (t:=t0) (i:=fun x=>zAv x.1) zhk zht zM5 (fun x=>zO7 x.1) (on0 _ _ _ _ _) (fun _=>by kernel_rfl) (fun _=>by kernel_rfl)

abbrev zx4:Nat→zQ:=fun j=>if j=3 then { slots:=[0,3,4] } else { }
inductive zqQ where
 | h3 (s0:TS) (l3:LS) (i4:Int)
abbrev zwn:zqQ→Nat×St
 | .h3 s0 l3 i4=>(3,⟨tm 18 [(0,AV.str s0),(3,AV.sl Sh.str l3),(4,AV.int .i64 i4)],[]⟩)
theorem zLG:zF zcI.P 133 Tryz.f133 1:=by refine ⟨?_,?_,?_,?_⟩ <;> kernel_rfl
def zxS (x0:TS):Tr (zqQ ⊕ Raw):=
 Tr.to
 (zqQ.h3 x0
  [[65,78,68],[79,82],[78,79,84],[73,83],[78,85,76,76],[84,82,85,69],[70,65,76,83,69],[67,82,69,65,84,69],[84,65,66,76,69],[75,69,89],[85,78,73,81,85,69],[82,69,70,69,82,69,78,67,69,83],[67,72,69,67,75],[68,82,79,80],[73,78,83,69,82,84],
  [73,78,84,79],[86,65,76,85,69,83],[85,80,68,65,84,69],[83,69,84],[87,72,69,82,69],[68,69,76,69,84,69],[70,82,79,77],[83,69,76,69,67,84],[71,82,65,78,84],[82,69,86,79,75,69],[82,69,65,68],[87,82,73,84,69],[79,78],[84,79],
  [77,73,71,82,65,84,69],[67,79,80,89],[74,79,73,78],[71,82,79,85,80],[66,89],[83,85,77],[73,78,84],[84,69,88,84],[66,79,79,76]]
  0)
def zma (s0:TS) (l3:LS) (i4:Int):Tr (zqQ ⊕ Raw):=
 Tr.br (decide (i4 < (↑l3.length:Int)))
 (Tr.chk (inB i4 l3.length) (Tr.br (l3.getD i4.toNat (zl Sh.str)==s0) (Tr.re (AV.kb true) []) (Tr.to (zqQ.h3 s0 l3 (IntKind.i64.wrap (i4+1))))))
 (Tr.re (AV.kb false) [])
theorem zPm (x0:TS):run zcI 0 zx4 (Func.results Tryz.f133).toList 400 (zq Tryz.f133) (zp (Func.ntmps Tryz.f133) [zx Sh.str x0] [])=(zxS x0).map (lf Tryz.f133 zwn):=by kernel_rfl
def zwp:zqQ→Tr (zqQ ⊕ Raw)
 | .h3 s0 l3 i4=>zma s0 l3 i4
theorem zPa:∀ s,run zcI 0 zx4 (Func.results Tryz.f133).toList 400 (zA Tryz.f133 (zwn s).1) (zwn s).2=(zwp s).map (lf Tryz.f133 zwn)
 | .h3 s0 l3 i4=>by kernel_rfl
def zzI (x0:TS):Option (zo (List.map some [Sh.bool])):=zaj [Sh.bool] zwp 100000000 (zxS x0)
def zm2 (x0:TS):Bool:=(zzI x0).isSome
def zsW (x0:TS):Sem Sh.bool:=(fun r:zo (List.map some [Sh.bool])=>r.1) ((zzI x0).getD (zad [Sh.bool]))
def zKS:zJ:=zG [Sh.str] [Sh.bool] (fun x=>zm2 x.1) fun x=>(zsW x.1,())
theorem zJo:FOk zcI.P zcI.gl 133 zKS:=zae (ks:=[Sh.str]) (outs:=[Sh.bool]) (keep:=zx4) (gas:=400) (n:=100000000) (e:=zwn) (t:=zwp) (i:=fun x=>zxS x.1) zhk zht zLG (fun x=>zPm x.1) zPa (fun _=>by kernel_rfl) (fun _=>by kernel_rfl)

abbrev zHk:Nat→zQ:=fun _=>{ }
theorem zPp:zF zcI.P 105 Tryz.f105 2:=by refine ⟨?_,?_,?_,?_⟩ <;> kernel_rfl
def zNs (_:zj zL) (x0:TS) (a0:Sem zt.sl×zj [CP.d zg,CP.d Sh.bool]) (a1:Sem Sh.bool×zj zL):Tr (Empty ⊕ Raw):=
 Tr.chk (zui a0 x0)
 (Tr.br a1.1 (Tr.re (AV.kb true) (zY zL (a1.2.1,IntKind.i64.wrap (a1.2.2.1+1),a1.2.2.2)))
  (Tr.re (AV.kb false) (zY zL a1.2)))
def zDT (y:zj zL) (x0:TS):Tr (Empty ⊕ Raw):=
 let a0:=(y.1,y.2.1,y.2.2.1,())
 let a1:=zw1 a0 x0
 zNs y x0 a0 a1
theorem zLw (y:zj zL) (x0:TS):run zcI 1 zHk (Func.results Tryz.f105).toList 400 (zq Tryz.f105) (zp (Func.ntmps Tryz.f105) [AV.ptr 0 0,zx Sh.str x0] (zY zL y))=(zDT y x0).map (lf Tryz.f105 e0):=by kernel_rfl
def zA3 (y:zj zL) (x0:TS):Option (zo (List.map some [Sh.bool])×zj zL):=zfE [Sh.bool] zL t0 100000000 (zDT y x0)
def zb7 (y:zj zL) (x0:TS):Bool:=(zA3 y x0).isSome
def zcU (y:zj zL) (x0:TS):(Sem Sh.bool)×zj zL:=(fun r:zo (List.map some [Sh.bool])×zj zL=>(r.1.1,r.2)) ((zA3 y x0).getD (zad [Sh.bool],zdv zL))
def zKp:zJ:=zk0 zL [Sh.str] [Sh.bool] zL (fun y x=>zb7 y x.1) fun y x=>(((zcU y x.1).1,()),(zcU y x.1).2)
theorem zI8:FOk zcI.P zcI.gl 105 zKp:=zgr (ps:=zL) (ks:=[Sh.str]) (outs:=[Sh.bool]) (keep:=zHk) (gas:=400) (n:=100000000) (e:=e0) (t:=t0) (i:=fun y x=>zDT y x.1) zhk zht zPp (fun y x=>zLw y x.1) (on0 _ _ _ _ _) (fun _ _=>by kernel_rfl) (fun _ _=>by kernel_rfl)

abbrev zGr:Nat→zQ:=fun j=>if j=6 then { slots:=[2,3,5] } else if j=11 then { slots:=[2,3,6] } else if j=16 then { slots:=[2,3,7] } else if j=21 then { slots:=[2,3,8] } else if j=26 then { slots:=[2,3,9] } else if j=31 then { slots:=[2,3,10] } else { }
inductive zec where
 | h6 (i5:Int) (z0:zj cpS) (z1:zj cpS)
 | h11 (i6:Int) (z0:zj cpS) (z1:zj cpS)
 | h16 (i7:Int) (z0:zj cpS) (z1:zj cpS)
 | h21 (i8:Int) (z0:zj cpS) (z1:zj cpS)
 | h26 (i9:Int) (z0:zj cpS) (z1:zj cpS)
 | h31 (i10:Int) (z0:zj cpS) (z1:zj cpS)
abbrev zHp:zec→Nat×St
 | .h6 i5 z0 z1=>(6,⟨tm 238 [(2,AV.ptr 0 0),(3,AV.ptr 1 0),(5,AV.int .i64 i5)],[AO.box (cpN [] cpS z0),AO.box (cpN [] cpS z1)]⟩)
 | .h11 i6 z0 z1=>(11,⟨tm 238 [(2,AV.ptr 0 0),(3,AV.ptr 1 0),(6,AV.int .i64 i6)],[AO.box (cpN [] cpS z0),AO.box (cpN [] cpS z1)]⟩)
 | .h16 i7 z0 z1=>(16,⟨tm 238 [(2,AV.ptr 0 0),(3,AV.ptr 1 0),(7,AV.int .i64 i7)],[AO.box (cpN [] cpS z0),AO.box (cpN [] cpS z1)]⟩)
 | .h21 i8 z0 z1=>(21,⟨tm 238 [(2,AV.ptr 0 0),(3,AV.ptr 1 0),(8,AV.int .i64 i8)],[AO.box (cpN [] cpS z0),AO.box (cpN [] cpS z1)]⟩)
 | .h26 i9 z0 z1=>(26,⟨tm 238 [(2,AV.ptr 0 0),(3,AV.ptr 1 0),(9,AV.int .i64 i9)],[AO.box (cpN [] cpS z0),AO.box (cpN [] cpS z1)]⟩)
 | .h31 i10 z0 z1=>(31,⟨tm 238 [(2,AV.ptr 0 0),(3,AV.ptr 1 0),(10,AV.int .i64 i10)],[AO.box (cpN [] cpS z0),AO.box (cpN [] cpS z1)]⟩)
theorem zTB:zF zcI.P 80 Tryz.f80 2:=by refine ⟨?_,?_,?_,?_⟩ <;> kernel_rfl
def zQH (x0:Sem zu) (x1:Sem zu) (a0:Bool) (a1:Bool) (a2:Bool) (a3:Bool) (a4:Bool) (a5:ze) (a6:ze) (a7:Bool) (a8:ze) (a9:ze):Tr (zec ⊕ Raw):=
 Tr.chk
 (bif a0 then true
 else bif a1 then true else bif a2 then true else bif a3 then true else bif a4 then true else zlR a5 a6&&bif a7 then true else zlR a8 a9)
 (Tr.br (bif a0 then true else bif a1 then true else bif a2 then true else bif a3 then true else bif a4 then true else bif a7 then true else !zqe a8 a9)
  (Tr.re (AV.kb false) [])
  (Tr.br (bif (↑(List.length x0.2.2.2.1):Int) != (↑(List.length x1.2.2.2.1):Int) then true else bif (↑(List.length x0.2.2.2.2.1):Int) != (↑(List.length x1.2.2.2.2.1):Int) then true else bif (↑(List.length x0.2.2.2.2.2.2.1):Int) != (↑(List.length x1.2.2.2.2.2.2.1):Int) then true else bif (↑(List.length x0.2.2.2.2.2.2.2.1):Int) != (↑(List.length x1.2.2.2.2.2.2.2.1):Int) then true
  else bif (↑(List.length x0.2.2.2.2.2.2.2.2.2.1):Int) != (↑(List.length x1.2.2.2.2.2.2.2.2.2.1):Int) then true else (↑(List.length x0.2.2.2.2.2.2.2.2.2.2.1):Int) != (↑(List.length x1.2.2.2.2.2.2.2.2.2.2.1):Int)) (Tr.re (AV.kb false) []) (Tr.to (zec.h6 0 (x0,()) (x1,())))))
def zMy (x0:Sem zu) (x1:Sem zu):Tr (zec ⊕ Raw):=
 let a0 := !x0.1==x1.1
 let a1 := !x0.2.1==x1.2.1
 let a2 := !x0.2.2.1==x1.2.2.1
 let a3 := !x0.2.2.2.2.2.1==x1.2.2.2.2.2.1
 let a4 := !x0.2.2.2.2.2.2.2.2.2.2.2.2==x1.2.2.2.2.2.2.2.2.2.2.2.2
 let a5:=zz x0.2.2.2.2.2.2.2.2.1
 let a6:=zz x1.2.2.2.2.2.2.2.2.1
 let a7 := !zqe a5 a6
 let a8:=zz x0.2.2.2.2.2.2.2.2.2.2.2.1
 let a9:=zz x1.2.2.2.2.2.2.2.2.2.2.2.1
 zQH x0 x1 a0 a1 a2 a3 a4 a5 a6 a7 a8 a9
def zHN (i5:Int) (z0:zj cpS) (z1:zj cpS) (a0:Int):Tr (zec ⊕ Raw):=
 Tr.br (decide (i5 < a0))
 (Tr.chk (inB i5 (List.length z0.1.2.2.2.1))
  (Tr.chk (inB i5 (List.length z1.1.2.2.2.1)) (Tr.br (!List.getD z0.1.2.2.2.1 i5.toNat (zl Sh.str)==List.getD z1.1.2.2.2.1 i5.toNat (zl Sh.str)) (Tr.re (AV.kb false) []) (Tr.to (zec.h6 (IntKind.i64.wrap (i5+1)) z0 z1)))))
 (Tr.to (zec.h11 0 z0 z1))
def zOL (i5:Int) (z0:zj cpS) (z1:zj cpS):Tr (zec ⊕ Raw):=
 let a0:=(↑(List.length z0.1.2.2.2.1):Int)
 zHN i5 z0 z1 a0
def zFw (i6:Int) (z0:zj cpS) (z1:zj cpS) (a0:Int) (a1:Sem zh) (a2:Sem zh):Tr (zec ⊕ Raw):=
 Tr.br (decide (i6 < a0))
 (Tr.chk (inB i6 (List.length z0.1.2.2.2.2.1))
  (Tr.chk (inB i6 (List.length z1.1.2.2.2.2.1)) (Tr.br (!(a1.1==a2.1&&(a1.2.1==a2.2.1&&(a1.2.2==a2.2.2&&true)))) (Tr.re (AV.kb false) []) (Tr.to (zec.h11 (IntKind.i64.wrap (i6+1)) z0 z1)))))
 (Tr.to (zec.h16 0 z0 z1))
def zIv (i6:Int) (z0:zj cpS) (z1:zj cpS):Tr (zec ⊕ Raw):=
 let a0:=(↑(List.length z0.1.2.2.2.2.1):Int)
 let a1:=List.getD z0.1.2.2.2.2.1 i6.toNat (zl zh)
 let a2:=List.getD z1.1.2.2.2.2.1 i6.toNat (zl zh)
 zFw i6 z0 z1 a0 a1 a2
def zGz (i7:Int) (z0:zj cpS) (z1:zj cpS) (a0:Int):Tr (zec ⊕ Raw):=
 Tr.br (decide (i7 < a0))
 (Tr.chk (inB i7 (List.length z0.1.2.2.2.2.2.2.1))
  (Tr.chk (inB i7 (List.length z1.1.2.2.2.2.2.2.1)) (Tr.br (!List.getD z0.1.2.2.2.2.2.2.1 i7.toNat (zl Sh.str)==List.getD z1.1.2.2.2.2.2.2.1 i7.toNat (zl Sh.str)) (Tr.re (AV.kb false) []) (Tr.to (zec.h16 (IntKind.i64.wrap (i7+1)) z0 z1)))))
 (Tr.to (zec.h21 0 z0 z1))
def zIp (i7:Int) (z0:zj cpS) (z1:zj cpS):Tr (zec ⊕ Raw):=
 let a0:=(↑(List.length z0.1.2.2.2.2.2.2.1):Int)
 zGz i7 z0 z1 a0
def zDl (i8:Int) (z0:zj cpS) (z1:zj cpS) (a0:Int) (a1:Sem zaT) (a2:Sem zaT):Tr (zec ⊕ Raw):=
 Tr.br (decide (i8 < a0))
 (Tr.chk (inB i8 (List.length z0.1.2.2.2.2.2.2.2.1))
  (Tr.chk (inB i8 (List.length z1.1.2.2.2.2.2.2.2.1)) (Tr.br (!(a1.1==a2.1&&(a1.2==a2.2&&true))) (Tr.re (AV.kb false) []) (Tr.to (zec.h21 (IntKind.i64.wrap (i8+1)) z0 z1)))))
 (Tr.to (zec.h26 0 z0 z1))
def zJh (i8:Int) (z0:zj cpS) (z1:zj cpS):Tr (zec ⊕ Raw):=
 let a0:=(↑(List.length z0.1.2.2.2.2.2.2.2.1):Int)
 let a1:=List.getD z0.1.2.2.2.2.2.2.2.1 i8.toNat (zl zaT)
 let a2:=List.getD z1.1.2.2.2.2.2.2.2.1 i8.toNat (zl zaT)
 zDl i8 z0 z1 a0 a1 a2
def zDe (i9:Int) (z0:zj cpS) (z1:zj cpS) (a0:Int) (a1:Sem zf) (a2:Sem zf):Tr (zec ⊕ Raw):=
 Tr.br (decide (i9 < a0))
 (Tr.chk (inB i9 (List.length z0.1.2.2.2.2.2.2.2.2.2.1))
  (Tr.chk (inB i9 (List.length z1.1.2.2.2.2.2.2.2.2.2.1)) (Tr.br (!(a1.1==a2.1&&(a1.2.1==a2.2.1&&(a1.2.2==a2.2.2&&true)))) (Tr.re (AV.kb false) []) (Tr.to (zec.h26 (IntKind.i64.wrap (i9+1)) z0 z1)))))
 (Tr.to (zec.h31 0 z0 z1))
def zHU (i9:Int) (z0:zj cpS) (z1:zj cpS):Tr (zec ⊕ Raw):=
 let a0:=(↑(List.length z0.1.2.2.2.2.2.2.2.2.2.1):Int)
 let a1:=List.getD z0.1.2.2.2.2.2.2.2.2.2.1 i9.toNat (zl zf)
 let a2:=List.getD z1.1.2.2.2.2.2.2.2.2.2.1 i9.toNat (zl zf)
 zDe i9 z0 z1 a0 a1 a2
def zGg (i10:Int) (z0:zj cpS) (z1:zj cpS) (a0:Int) (a1:Bool) (a2:Bool) (_:Sem zan) (_:Sem zan) (a5:Bool) (a6:ze) (a7:ze):Tr (zec ⊕ Raw):=
 Tr.br (decide (i10 < a0))
 (Tr.chk (a1&&(a2&&bif a5 then true else a1&&(a2&&zlR a6 a7)))
  (Tr.br (bif a5 then true else !zqe a6 a7) (Tr.re (AV.kb false) []) (Tr.to (zec.h31 (IntKind.i64.wrap (i10+1)) z0 z1))))
 (Tr.re (AV.kb true) [])
def zIM (i10:Int) (z0:zj cpS) (z1:zj cpS):Tr (zec ⊕ Raw):=
 let a0:=(↑(List.length z0.1.2.2.2.2.2.2.2.2.2.2.1):Int)
 let a1:=inB i10 (List.length z0.1.2.2.2.2.2.2.2.2.2.2.1)
 let a2:=inB i10 (List.length z1.1.2.2.2.2.2.2.2.2.2.2.1)
 let a3:=List.getD z0.1.2.2.2.2.2.2.2.2.2.2.1 i10.toNat (zl zan)
 let a4:=List.getD z1.1.2.2.2.2.2.2.2.2.2.2.1 i10.toNat (zl zan)
 let a5 := !a3.1==a4.1
 let a6:=zz a3.2
 let a7:=zz a4.2
 zGg i10 z0 z1 a0 a1 a2 a3 a4 a5 a6 a7
theorem zRC (x0:Sem zu) (x1:Sem zu):run zcI 0 zGr (Func.results Tryz.f80).toList 400 (zq Tryz.f80) (zp (Func.ntmps Tryz.f80) [zx zu x0,zx zu x1] [])=(zMy x0 x1).map (lf Tryz.f80 zHp):=by kernel_rfl
def zLD:zec→Tr (zec ⊕ Raw)
 | .h6 i5 z0 z1=>zOL i5 z0 z1
 | .h11 i6 z0 z1=>zIv i6 z0 z1
 | .h16 i7 z0 z1=>zIp i7 z0 z1
 | .h21 i8 z0 z1=>zJh i8 z0 z1
 | .h26 i9 z0 z1=>zHU i9 z0 z1
 | .h31 i10 z0 z1=>zIM i10 z0 z1
theorem zTo:∀ s,run zcI 0 zGr (Func.results Tryz.f80).toList 400 (zA Tryz.f80 (zHp s).1) (zHp s).2=(zLD s).map (lf Tryz.f80 zHp)
 | .h6 i5 z0 z1=>by kernel_rfl
 | .h11 i6 z0 z1=>by kernel_rfl
 | .h16 i7 z0 z1=>by kernel_rfl
 | .h21 i8 z0 z1=>by kernel_rfl
 | .h26 i9 z0 z1=>by kernel_rfl
 | .h31 i10 z0 z1=>by kernel_rfl
def zzZ (x0:Sem zu) (x1:Sem zu):Option (zo (List.map some [Sh.bool])):=zaj [Sh.bool] zLD 100000000 (zMy x0 x1)
def zBc (x0:Sem zu) (x1:Sem zu):Bool:=(zzZ x0 x1).isSome
def zDA (x0:Sem zu) (x1:Sem zu):Sem Sh.bool:=(fun r:zo (List.map some [Sh.bool])=>r.1) ((zzZ x0 x1).getD (zad [Sh.bool]))
def zVz:zJ:=zG [zu,zu] [Sh.bool] (fun x=>zBc x.1 x.2.1) fun x=>(zDA x.1 x.2.1,())
theorem zMV:FOk zcI.P zcI.gl 80 zVz:=zae (ks:=[zu,zu]) (outs:=[Sh.bool]) (keep:=zGr) (gas:=400) (n:=100000000) (e:=zHp) (t:=zLD) (i:=fun x=>zMy x.1 x.2.1) zhk zht zTB (fun x=>zRC x.1 x.2.1) zTo (fun _=>by kernel_rfl) (fun _=>by kernel_rfl)

def zel:Env:=((((zcI.add 135 zK2).add 133 zKS).add 105 zKp).add 80 zVz)
theorem zjn:zi zel:=(zi.addS (zi.addS (zi.addS (zi.addS zhk (zB.refl zcI) zIZ) ((zB.refl zcI).add _ _) zJo) (((zB.refl zcI).add _ _).add _ _) zI8) ((((zB.refl zcI).add _ _).add _ _).add _ _) zMV)
theorem zjH:zel.P.follows .mixedOrders=true:=(zm (zm (zm (zm zht _ _) _ _) _ _) _ _)
end
open Go Go.Proofs
noncomputable section
set_option maxHeartbeats 4000000

abbrev zyx:Nat→zQ:=fun j=>if j=2 then { slots:=[0,3] } else { }
inductive znH where
 | h2 (s0:TS) (i3:Int)
abbrev zwe:znH→Nat×St
 | .h2 s0 i3=>(2,⟨tm 28 [(0,AV.str s0),(3,AV.int .i64 i3)],[]⟩)
theorem zPA:zF zel.P 132 Tryz.f132 1:=by refine ⟨?_,?_,?_,?_⟩ <;> kernel_rfl
def zAt (x0:TS):Tr (znH ⊕ Raw):=
 Tr.to (znH.h2 x0 0)
def zqn (s0:TS) (i3:Int) (a0:Int) (a1:Bool) (a2:Bool) (a3:Int):Tr (znH ⊕ Raw):=
 Tr.br (decide (i3 < (↑(List.length s0):Int)))
 (Tr.chk (inB i3 (List.length s0)) (Tr.chk (zjS a0) (Tr.br (!zm0 a0) (Tr.re (AV.kb false) []) (Tr.to (znH.h2 s0 (IntKind.i64.wrap (i3+1)))))))
 (Tr.chk (bif a1 then bif a2 then inB 0 (List.length s0)&&zeC a3 else true else true)
  (Tr.re (AV.bool (bif a1 then bif a2 then zgc a3 else false else false)) []))
def zly (s0:TS) (i3:Int):Tr (znH ⊕ Raw):=
 let a0:=(↑(List.getD s0 i3.toNat 0).toNat:Int)
 let a1:=decide (1≤(↑(List.length s0):Int))
 let a2:=decide ((↑(List.length s0):Int)≤16)
 let a3:=(↑(List.getD s0 (Int.toNat 0) 0).toNat:Int)
 zqn s0 i3 a0 a1 a2 a3
theorem zMv (x0:TS):run zel 0 zyx (Func.results Tryz.f132).toList 400 (zq Tryz.f132) (zp (Func.ntmps Tryz.f132) [zx Sh.str x0] [])=(zAt x0).map (lf Tryz.f132 zwe):=by kernel_rfl
def zwV:znH→Tr (znH ⊕ Raw)
 | .h2 s0 i3=>zly s0 i3
theorem zN5:∀ s,run zel 0 zyx (Func.results Tryz.f132).toList 400 (zA Tryz.f132 (zwe s).1) (zwe s).2=(zwV s).map (lf Tryz.f132 zwe)
 | .h2 s0 i3=>by kernel_rfl
def zuK (x0:TS):Option (zo (List.map some [Sh.bool])):=zaj [Sh.bool] zwV 100000000 (zAt x0)
def zjz (x0:TS):Bool:=(zuK x0).isSome
def ziU (x0:TS):Sem Sh.bool:=(fun r:zo (List.map some [Sh.bool])=>r.1) ((zuK x0).getD (zad [Sh.bool]))
def zJT:zJ:=zG [Sh.str] [Sh.bool] (fun x=>zjz x.1) fun x=>(ziU x.1,())
theorem zHL:FOk zel.P zel.gl 132 zJT:=zae (ks:=[Sh.str]) (outs:=[Sh.bool]) (keep:=zyx) (gas:=400) (n:=100000000) (e:=zwe) (t:=zwV) (i:=fun x=>zAt x.1) zjn zjH zPA (fun x=>zMv x.1) zN5 (fun _=>by kernel_rfl) (fun _=>by kernel_rfl)

abbrev zDd:Nat→zQ:=fun _=>{ }
theorem zPe:zF zel.P 107 Tryz.f107 2:=by refine ⟨?_,?_,?_,?_⟩ <;> kernel_rfl
def zN3 (_:zj zL) (x0:TS) (a0:Sem zt.sl×zj [CP.d zg,CP.d Sh.bool]) (a1:Sem Sh.bool×zj zL):Tr (Empty ⊕ Raw):=
 Tr.chk (zb7 a0 x0)
 (Tr.br (!a1.1) (Tr.re (AV.tup []) [AO.box [AV.sl zt a1.2.1,AV.int .i64 a1.2.2.1,AV.kb false]])
  (Tr.re (AV.tup []) (zY zL a1.2)))
def zEt (y:zj zL) (x0:TS):Tr (Empty ⊕ Raw):=
 let a0:=(y.1,y.2.1,y.2.2.1,())
 let a1:=zcU a0 x0
 zN3 y x0 a0 a1
theorem zPu (y:zj zL) (x0:TS):run zel 1 zDd (Func.results Tryz.f107).toList 400 (zq Tryz.f107) (zp (Func.ntmps Tryz.f107) [AV.ptr 0 0,zx Sh.str x0] (zY zL y))=(zEt y x0).map (lf Tryz.f107 e0):=by kernel_rfl
def zBy (y:zj zL) (x0:TS):Option (zo (List.map some [])×zj zL):=zfE [] zL t0 100000000 (zEt y x0)
def zau (y:zj zL) (x0:TS):Bool:=(zBy y x0).isSome
def zaQ (y:zj zL) (x0:TS):zj zL:=(fun r:zo (List.map some [])×zj zL=>r.2) ((zBy y x0).getD (zad [],zdv zL))
def zKZ:zJ:=zk0 zL [Sh.str] [] zL (fun y x=>zau y x.1) fun y x=>((),zaQ y x.1)
theorem zIT:FOk zel.P zel.gl 107 zKZ:=zgr (ps:=zL) (ks:=[Sh.str]) (outs:=[]) (keep:=zDd) (gas:=400) (n:=100000000) (e:=e0) (t:=t0) (i:=fun y x=>zEt y x.1) zjn zjH zPe (fun y x=>zPu y x.1) (on0 _ _ _ _ _) (fun _ _=>by kernel_rfl) (fun _ _=>by kernel_rfl)

abbrev zDw:Nat→zQ:=fun _=>{ }
theorem zMh:zF zel.P 108 Tryz.f108 1:=by refine ⟨?_,?_,?_,?_⟩ <;> kernel_rfl
def zLQ (y:zj zL) (a0:Bool) (a1:Bool) (a2:Sem zt) (a3:Bool) (a4:Int) (a5:Int) (a6:Sem zt):Tr (Empty ⊕ Raw):=
 Tr.chk (bif a0 then a1&&bif a3 then a1&&zm2 a2.2 else true else true)
 (Tr.br (bif a0 then bif a3 then !zsW a2.2 else false else false)
  (Tr.chk (inB a5 (List.length y.1)) (Tr.re (AV.str a6.2) (zY zL (y.1,a4,y.2.2))))
  (Tr.re (AV.str []) [AO.box [AV.sl zt y.1,AV.int .i64 y.2.1,AV.kb false]]))
def zDM (y:zj zL):Tr (Empty ⊕ Raw):=
 let a0:=decide (y.2.1 < (↑(List.length y.1):Int))
 let a1:=inB y.2.1 (List.length y.1)
 let a2:=List.getD y.1 (Int.toNat y.2.1) (zl zt)
 let a3:=a2.1==1
 let a4:=IntKind.i64.wrap (y.2.1+1)
 let a5:=IntKind.i64.wrap (a4 - 1)
 let a6:=List.getD y.1 a5.toNat (zl zt)
 zLQ y a0 a1 a2 a3 a4 a5 a6
theorem zNu (y:zj zL):run zel 1 zDw (Func.results Tryz.f108).toList 400 (zq Tryz.f108) (zp (Func.ntmps Tryz.f108) [AV.ptr 0 0] (zY zL y))=(zDM y).map (lf Tryz.f108 e0):=by kernel_rfl
def zBt (y:zj zL):Option (zo (List.map some [Sh.str])×zj zL):=zfE [Sh.str] zL t0 100000000 (zDM y)
def zaF (y:zj zL):Bool:=(zBt y).isSome
def zaU (y:zj zL):(Sem Sh.str)×zj zL:=(fun r:zo (List.map some [Sh.str])×zj zL=>(r.1.1,r.2)) ((zBt y).getD (zad [Sh.str],zdv zL))
def zLf:zJ:=zk0 zL [] [Sh.str] zL (fun y _=>zaF y) fun y _=>(((zaU y).1,()),(zaU y).2)
theorem zI9:FOk zel.P zel.gl 108 zLf:=zgr (ps:=zL) (ks:=[]) (outs:=[Sh.str]) (keep:=zDw) (gas:=400) (n:=100000000) (e:=e0) (t:=t0) (i:=fun y x=>zDM y) zjn zjH zMh (fun y x=>zNu y) (on0 _ _ _ _ _) (fun _ _=>by kernel_rfl) (fun _ _=>by kernel_rfl)

def zen:Env:=(((zel.add 132 zJT).add 107 zKZ).add 108 zLf)
theorem zjJ:zi zen:=(zi.addS (zi.addS (zi.addS zjn (zB.refl zel) zHL) ((zB.refl zel).add _ _) zIT) (((zB.refl zel).add _ _).add _ _) zI9)
theorem zjO:zen.P.follows .mixedOrders=true:=(zm (zm (zm zjH _ _) _ _) _ _)
end
open Go Go.Proofs
noncomputable section
set_option maxHeartbeats 4000000

abbrev zx9:Nat→zQ:=fun j=>if j=6 then { slots:=[1,3] } else { }
inductive znZ where
 | h6 (i3:Int) (ja0:Sem zg) (ja1:TS)
abbrev zv9:znZ→Nat×St
 | .h6 i3 ja0 ja1=>(6,⟨tm 82 [(1,AV.ptr 0 0),(3,AV.int .i64 i3)],[AO.box [AV.int .i64 ja0,AV.str ja1]]⟩)
theorem zL6:zF zen.P 137 Tryz.f137 1:=by refine ⟨?_,?_,?_,?_⟩ <;> kernel_rfl
def zED (x0:Sem zt):Tr (znZ ⊕ Raw):=
 Tr.br (x0.1==1) (Tr.chk (zjz x0.2) (Tr.re (AV.bool (ziU x0.2)) []))
 (Tr.br (x0.1==2) (Tr.to (znZ.h6 0 x0.1 x0.2))
  (Tr.br (x0.1==3) Tr.err (Tr.br (x0.1==4) (Tr.re (AV.bool (bif x0.2==[40] then true else bif x0.2==[41] then true else bif x0.2==[44] then true else bif x0.2==[61] then true else bif x0.2==[60] then true else bif x0.2==[43] then true else bif x0.2==[45] then true else x0.2==[42])) []) (Tr.re (AV.kb false) []))))
def zD5 (i3:Int) (ja0:Sem zg) (ja1:TS) (a0:Int):Tr (znZ ⊕ Raw):=
 Tr.br (decide (i3 < (↑(List.length ja1):Int)))
 (Tr.chk (inB i3 (List.length ja1))
  (Tr.chk (zc6 a0) (Tr.br (!zdM a0) (Tr.re (AV.kb false) []) (Tr.to (znZ.h6 (IntKind.i64.wrap (i3+1)) ja0 ja1)))))
 (Tr.re (AV.bool (bif decide (1≤(↑(List.length ja1):Int)) then decide ((↑(List.length ja1):Int)≤19) else false)) [])
def zJM (i3:Int) (ja0:Sem zg) (ja1:TS):Tr (znZ ⊕ Raw):=
 let a0:=(↑(List.getD ja1 i3.toNat 0).toNat:Int)
 zD5 i3 ja0 ja1 a0
theorem zNi (x0:Sem zt):run zen 0 zx9 (Func.results Tryz.f137).toList 400 (zq Tryz.f137) (zp (Func.ntmps Tryz.f137) [zx zt x0] [])=(zED x0).map (lf Tryz.f137 zv9):=by kernel_rfl
def zDF:znZ→Tr (znZ ⊕ Raw)
 | .h6 i3 ja0 ja1=>zJM i3 ja0 ja1
theorem zOj:∀ s,run zen 0 zx9 (Func.results Tryz.f137).toList 400 (zA Tryz.f137 (zv9 s).1) (zv9 s).2=(zDF s).map (lf Tryz.f137 zv9)
 | .h6 i3 ja0 ja1=>by kernel_rfl
def zDR (x0:Sem zt):Option (zo (List.map some [Sh.bool])):=zaj [Sh.bool] zDF 100000000 (zED x0)
def zhZ (x0:Sem zt):Bool:=(zDR x0).isSome
def zlB (x0:Sem zt):Sem Sh.bool:=(fun r:zo (List.map some [Sh.bool])=>r.1) ((zDR x0).getD (zad [Sh.bool]))
def zLo:zJ:=zG [zt] [Sh.bool] (fun x=>zhZ x.1) fun x=>(zlB x.1,())
theorem zIx:FOk zen.P zen.gl 137 zLo:=zae (ks:=[zt]) (outs:=[Sh.bool]) (keep:=zx9) (gas:=400) (n:=100000000) (e:=zv9) (t:=zDF) (i:=fun x=>zED x.1) zjJ zjO zL6 (fun x=>zNi x.1) zOj (fun _=>by kernel_rfl) (fun _=>by kernel_rfl)

abbrev zEu:Nat→zQ:=fun _=>{ }
theorem zPz:zF zen.P 111 Tryz.f111 2:=by refine ⟨?_,?_,?_,?_⟩ <;> kernel_rfl
def zOa (_:zj zL) (x0:TS) (a0:Sem zt.sl×zj [CP.d zg,CP.d Sh.bool]) (a1:Sem Sh.bool×zj zL):Tr (Empty ⊕ Raw):=
 Tr.chk (zb7 a0 x0)
 (Tr.br (!a1.1) (Tr.re (AV.agg [AV.str [],AV.int .i64 0,AV.int .i64 0,AV.str [],AV.str [],AV.nils]) (zY zL a1.2))
  (Tr.br (x0==[87,72,69,82,69]) Tr.err (Tr.chk (zau (a1.2.1,a1.2.2.1,a1.2.2.2.1,()) [40]) Tr.err)))
def zDu (y:zj zL) (x0:TS):Tr (Empty ⊕ Raw):=
 let a0:=(y.1,y.2.1,y.2.2.1,())
 let a1:=zcU a0 x0
 zOa y x0 a0 a1
theorem zPE (y:zj zL) (x0:TS):run zen 1 zEu (Func.results Tryz.f111).toList 400 (zq Tryz.f111) (zp (Func.ntmps Tryz.f111) [AV.ptr 0 0,zx Sh.str x0] (zY zL y))=(zDu y x0).map (lf Tryz.f111 e0):=by kernel_rfl
def zBg (y:zj zL) (x0:TS):Option (zo (List.map some [Sh.expr])×zj zL):=zfE [Sh.expr] zL t0 100000000 (zDu y x0)
def zbY (y:zj zL) (x0:TS):Bool:=(zBg y x0).isSome
def zcG (y:zj zL) (x0:TS):(Sem Sh.expr)×zj zL:=(fun r:zo (List.map some [Sh.expr])×zj zL=>(r.1.1,r.2)) ((zBg y x0).getD (zad [Sh.expr],zdv zL))
def zJS:zJ:=zk0 zL [Sh.str] [Sh.expr] zL (fun y x=>zbY y x.1) fun y x=>(((zcG y x.1).1,()),(zcG y x.1).2)
theorem zIz:FOk zen.P zen.gl 111 zJS:=zgr (ps:=zL) (ks:=[Sh.str]) (outs:=[Sh.expr]) (keep:=zEu) (gas:=400) (n:=100000000) (e:=e0) (t:=t0) (i:=fun y x=>zDu y x.1) zjJ zjO zPz (fun y x=>zPE y x.1) (on0 _ _ _ _ _) (fun _ _=>by kernel_rfl) (fun _ _=>by kernel_rfl)

abbrev zKE:Nat→zQ:=fun _=>{ }
theorem zQ8:zF zen.P 79 Tryz.f79 1:=by refine ⟨?_,?_,?_,?_⟩ <;> kernel_rfl
def zJz (x0:TS):Tr (Empty ⊕ Raw):=
 Tr.chk (zjz x0&&bif ziU x0 then zm2 x0 else true) (Tr.re (AV.bool (bif ziU x0 then !zsW x0 else false)) [])
theorem zVZ (x0:TS):run zen 0 zKE (Func.results Tryz.f79).toList 400 (zq Tryz.f79) (zp (Func.ntmps Tryz.f79) [zx Sh.str x0] [])=(zJz x0).map (lf Tryz.f79 e0):=by kernel_rfl
def zoA (x0:TS):Option (zo (List.map some [Sh.bool])):=zaj [Sh.bool] t0 100000000 (zJz x0)
def zcX (x0:TS):Bool:=(zoA x0).isSome
def zdT (x0:TS):Sem Sh.bool:=(fun r:zo (List.map some [Sh.bool])=>r.1) ((zoA x0).getD (zad [Sh.bool]))
def zRf:zJ:=zG [Sh.str] [Sh.bool] (fun x=>zcX x.1) fun x=>(zdT x.1,())
theorem zM2:FOk zen.P zen.gl 79 zRf:=zae (ks:=[Sh.str]) (outs:=[Sh.bool]) (keep:=zKE) (gas:=400) (n:=100000000) (e:=e0) (t:=t0) (i:=fun x=>zJz x.1) zjJ zjO zQ8 (fun x=>zVZ x.1) (on0 _ _ _ _ _) (fun _=>by kernel_rfl) (fun _=>by kernel_rfl)

def zdY:Env:=(((zen.add 137 zLo).add 111 zJS).add 79 zRf)
theorem zjm:zi zdY:=(zi.addS (zi.addS (zi.addS zjJ (zB.refl zen) zIx) ((zB.refl zen).add _ _) zIz) (((zB.refl zen).add _ _).add _ _) zM2)
theorem zjQ:zdY.P.follows .mixedOrders=true:=(zm (zm (zm zjO _ _) _ _) _ _)
end
open Go Go.Proofs
noncomputable section
set_option maxHeartbeats 4000000

abbrev zEE:Nat→zQ:=fun j=>if j=3 then { slots:=[0,4,5] } else if j=11 then { slots:=[0,4,5,6,7,8] } else if j=15 then { slots:=[0,4,5,6,7,8] } else if j=20 then { slots:=[0,4,5,8] } else { }
inductive zbE where
 | h3 (s0:TS) (i5:Int)
 | h11 (s0:TS) (i5:Int) (i6:Int) (i7:Int) (ja0:Int) (ja1:List UInt8)
 | h15 (s0:TS) (i5:Int) (i6:Int) (i7:Int) (ja0:Int) (ja1:List UInt8)
 | h20 (s0:TS) (i5:Int) (ja0:Int) (ja1:List UInt8)
 | h3b (s0:TS) (i5:Int) (lh_0:LF)
 | h11b (s0:TS) (i5:Int) (i6:Int) (i7:Int) (lh_0:LF) (jb0:Int) (jb1:List UInt8)
 | h15b (s0:TS) (i5:Int) (i6:Int) (i7:Int) (lh_0:LF) (jb0:Int) (jb1:List UInt8)
 | h20b (s0:TS) (i5:Int) (lh_0:LF) (jb0:Int) (jb1:List UInt8)
abbrev zGP:zbE→Nat×St
 | .h3 s0 i5=>(3,⟨tm 131 [(0,AV.str s0),(4,AV.nils),(5,AV.int .i64 i5)],[]⟩)
 | .h11 s0 i5 i6 i7 ja0 ja1=>(11,⟨tm 131 [(0,AV.str s0),(4,AV.nils),(5,AV.int .i64 i5),(6,AV.int IntKind.u8 i6),(7,AV.int .i64 i7),(8,AV.ptr 0 0)],[AO.box [AV.int .i64 ja0,AV.str ja1]]⟩)
 | .h15 s0 i5 i6 i7 ja0 ja1=>(15,⟨tm 131 [(0,AV.str s0),(4,AV.nils),(5,AV.int .i64 i5),(6,AV.int IntKind.u8 i6),(7,AV.int .i64 i7),(8,AV.ptr 0 0)],[AO.box [AV.int .i64 ja0,AV.str ja1]]⟩)
 | .h20 s0 i5 ja0 ja1=>(20,⟨tm 131 [(0,AV.str s0),(4,AV.nils),(5,AV.int .i64 i5),(8,AV.ptr 0 0)],[AO.box [AV.int .i64 ja0,AV.str ja1]]⟩)
 | .h3b s0 i5 lh_0=>(3,⟨tm 131 [(0,AV.str s0),(4,AV.vec 0),(5,AV.int .i64 i5)],[AO.vec zt lh_0]⟩)
 | .h11b s0 i5 i6 i7 lh_0 jb0 jb1=>(11,⟨tm 131 [(0,AV.str s0),(4,AV.vec 0),(5,AV.int .i64 i5),(6,AV.int IntKind.u8 i6),(7,AV.int .i64 i7),(8,AV.ptr 1 0)],[AO.vec zt lh_0,AO.box [AV.int .i64 jb0,AV.str jb1]]⟩)
 | .h15b s0 i5 i6 i7 lh_0 jb0 jb1=>(15,⟨tm 131 [(0,AV.str s0),(4,AV.vec 0),(5,AV.int .i64 i5),(6,AV.int IntKind.u8 i6),(7,AV.int .i64 i7),(8,AV.ptr 1 0)],[AO.vec zt lh_0,AO.box [AV.int .i64 jb0,AV.str jb1]]⟩)
 | .h20b s0 i5 lh_0 jb0 jb1=>(20,⟨tm 131 [(0,AV.str s0),(4,AV.vec 0),(5,AV.int .i64 i5),(8,AV.ptr 1 0)],[AO.vec zt lh_0,AO.box [AV.int .i64 jb0,AV.str jb1]]⟩)
theorem zTl:zF zdY.P 81 Tryz.f81 1:=by refine ⟨?_,?_,?_,?_⟩ <;> kernel_rfl
def zMX (x0:TS):Tr (zbE ⊕ Raw):=
 Tr.to (zbE.h3 x0 0)
def zJv (s0:TS) (i5:Int) (a0:Int) (a1:Int) (a2:List UInt8) (a3:Sem zg×Sem Sh.str) (a4:LF):Tr (zbE ⊕ Raw):=
 Tr.br (decide (i5 < (↑(List.length s0):Int)))
 (Tr.chk (inB i5 (List.length s0))
  (Tr.br (bif a0==32 then true else a0==10) (Tr.to (zbE.h3 s0 a1)) (Tr.chk (decide (0≤i5)&&decide (i5≤a1)&&decide (a1≤(↑(List.length s0):Int))) (Tr.chk (zeC a0) (Tr.br (zgc a0) (Tr.to (zbE.h11 s0 a1 a0 i5 4 a2)) (Tr.chk (zc6 a0) (Tr.br (zdM a0) (Tr.to (zbE.h15 s0 a1 a0 i5 4 a2)) (Tr.br (a0==39) (Tr.to (zbE.h20 s0 a1 3 [])) (Tr.chk (zhZ a3)
  (Tr.br (!zlB a3) (Tr.re (AV.tup [AV.nils,AV.kb false]) []) (Tr.chk (decide (a4.length≤1073741824)) (Tr.to (zbE.h3b s0 a1 a4)))))))))))))
 (Tr.re (AV.tup [AV.nils,AV.bool true]) [])
def zLF (s0:TS) (i5:Int):Tr (zbE ⊕ Raw):=
 let a0:=(↑(List.getD s0 i5.toNat 0).toNat:Int)
 let a1:=IntKind.i64.wrap (i5+1)
 let a2:=List.take (a1.toNat - i5.toNat) (List.drop i5.toNat s0)
 let a3:=(4,a2)
 let a4:=[a3]
 zJv s0 i5 a0 a1 a2 a3 a4
def zEy (s0:TS) (i5:Int) (i6:Int) (i7:Int) (ja0:Int) (ja1:List UInt8) (a0:Bool) (a1:Int) (a2:List UInt8) (a3:Sem zg×Sem Sh.str) (a4:LF):Tr (zbE ⊕ Raw):=
 Tr.chk (bif a0 then inB i5 (List.length s0)&&zjS a1 else true)
 (Tr.br (bif a0 then zm0 a1 else false) (Tr.to (zbE.h11 s0 (IntKind.i64.wrap (i5+1)) i6 i7 ja0 ja1))
  (Tr.chk (decide (0≤i7)&&decide (i7≤i5)&&decide (i5≤(↑(List.length s0):Int))) (Tr.chk (zc6 i6) (Tr.br (zdM i6) (Tr.to (zbE.h15 s0 i5 i6 i7 1 a2)) (Tr.br (i6==39) (Tr.to (zbE.h20 s0 i5 3 [])) (Tr.chk (zhZ a3) (Tr.br (!zlB a3) (Tr.re (AV.tup [AV.nils,AV.kb false]) []) (Tr.chk (decide (a4.length≤1073741824)) (Tr.to (zbE.h3b s0 i5 a4))))))))))
def zHW (s0:TS) (i5:Int) (i6:Int) (i7:Int) (ja0:Int) (ja1:List UInt8):Tr (zbE ⊕ Raw):=
 let a0:=decide (i5 < (↑(List.length s0):Int))
 let a1:=(↑(List.getD s0 i5.toNat 0).toNat:Int)
 let a2:=List.take (i5.toNat - i7.toNat) (List.drop i7.toNat s0)
 let a3:=(1,a2)
 let a4:=[a3]
 zEy s0 i5 i6 i7 ja0 ja1 a0 a1 a2 a3 a4
def zDv (s0:TS) (i5:Int) (i6:Int) (i7:Int) (ja0:Int) (ja1:List UInt8) (a0:Bool) (a1:Int) (a2:Sem zg×Sem Sh.str) (a3:LF):Tr (zbE ⊕ Raw):=
 Tr.chk (bif a0 then inB i5 (List.length s0)&&zc6 a1 else true)
 (Tr.br (bif a0 then zdM a1 else false) (Tr.to (zbE.h15 s0 (IntKind.i64.wrap (i5+1)) i6 i7 ja0 ja1))
  (Tr.chk (decide (0≤i7)&&decide (i7≤i5)&&decide (i5≤(↑(List.length s0):Int))) (Tr.br (i6==39) (Tr.to (zbE.h20 s0 i5 3 [])) (Tr.chk (zhZ a2) (Tr.br (!zlB a2) (Tr.re (AV.tup [AV.nils,AV.kb false]) []) (Tr.chk (decide (a3.length≤1073741824)) (Tr.to (zbE.h3b s0 i5 a3))))))))
def zJO (s0:TS) (i5:Int) (i6:Int) (i7:Int) (ja0:Int) (ja1:List UInt8):Tr (zbE ⊕ Raw):=
 let a0:=decide (i5 < (↑(List.length s0):Int))
 let a1:=(↑(List.getD s0 i5.toNat 0).toNat:Int)
 let a2:=(2,List.take (i5.toNat - i7.toNat) (List.drop i7.toNat s0))
 let a3:=[a2]
 zDv s0 i5 i6 i7 ja0 ja1 a0 a1 a2 a3
def zEW (s0:TS) (i5:Int) (ja0:Int) (ja1:List UInt8) (a0:Bool) (a1:Int) (a2:Bool) (a3:Int) (a4:Bool) (a5:List UInt8) (a6:Str) (a7:LF):Tr (zbE ⊕ Raw):=
 Tr.chk (bif a0 then inB i5 (List.length s0)&&bif a2 then true else bif a4 then inB a3 (List.length s0) else true else true)
 (Tr.br (bif a0 then bif a2 then true else bif a4 then (↑(List.getD s0 a3.toNat 0).toNat:Int)==39 else false else false)
  (Tr.chk (decide (0≤i5)&&decide (i5≤a3)&&decide (a3≤(↑(List.length s0):Int))) (Tr.chk (decide (ja1.length+a5.length≤1099511627776)) (Tr.chk (inB i5 (List.length s0)) (Tr.br (a1==39) (Tr.to (zbE.h20 s0 (IntKind.i64.wrap (a3+1)) ja0 a6)) (Tr.to (zbE.h20 s0 a3 ja0 a6))))))
  (Tr.br (decide (i5 ≥ (↑(List.length s0):Int))) (Tr.re (AV.tup [AV.nils,AV.kb false]) []) (Tr.chk (zhZ (ja0,ja1)) (Tr.br (!zlB (ja0,ja1)) (Tr.re (AV.tup [AV.nils,AV.kb false]) []) (Tr.chk (decide (a7.length≤1073741824)) (Tr.to (zbE.h3b s0 a3 a7)))))))
def zIA (s0:TS) (i5:Int) (ja0:Int) (ja1:List UInt8):Tr (zbE ⊕ Raw):=
 let a0:=decide (i5 < (↑(List.length s0):Int))
 let a1:=(↑(List.getD s0 i5.toNat 0).toNat:Int)
 let a2:=a1 != 39
 let a3:=IntKind.i64.wrap (i5+1)
 let a4:=decide (a3 < (↑(List.length s0):Int))
 let a5:=List.take (a3.toNat - i5.toNat) (List.drop i5.toNat s0)
 let a6:=ja1++a5
 let a7:=[(ja0,ja1)]
 zEW s0 i5 ja0 ja1 a0 a1 a2 a3 a4 a5 a6 a7
def zC5 (s0:TS) (i5:Int) (lh_0:LF) (a0:Int) (a1:Int) (a2:List UInt8) (a3:Sem zg×Sem Sh.str) (a4:LF):Tr (zbE ⊕ Raw):=
 Tr.br (decide (i5 < (↑(List.length s0):Int)))
 (Tr.chk (inB i5 (List.length s0))
  (Tr.br (bif a0==32 then true else a0==10) (Tr.to (zbE.h3b s0 a1 lh_0)) (Tr.chk (decide (0≤i5)&&decide (i5≤a1)&&decide (a1≤(↑(List.length s0):Int))) (Tr.chk (zeC a0) (Tr.br (zgc a0) (Tr.to (zbE.h11b s0 a1 a0 i5 lh_0 4 a2)) (Tr.chk (zc6 a0) (Tr.br (zdM a0) (Tr.to (zbE.h15b s0 a1 a0 i5 lh_0 4 a2)) (Tr.br (a0==39) (Tr.to (zbE.h20b s0 a1 lh_0 3 []))
  (Tr.chk (zhZ a3) (Tr.br (!zlB a3) (Tr.re (AV.tup [AV.nils,AV.kb false]) []) (Tr.chk (decide (lh_0.length+a4.length≤1073741824)) (Tr.to (zbE.h3b s0 a1 (lh_0++a4))))))))))))))
 (Tr.re (AV.tup [AV.vec 0,AV.bool (decide ((↑lh_0.length:Int)≤400))]) [AO.vec zt lh_0])
def zHF (s0:TS) (i5:Int) (lh_0:LF):Tr (zbE ⊕ Raw):=
 let a0:=(↑(List.getD s0 i5.toNat 0).toNat:Int)
 let a1:=IntKind.i64.wrap (i5+1)
 let a2:=List.take (a1.toNat - i5.toNat) (List.drop i5.toNat s0)
 let a3:=(4,a2)
 let a4:=[a3]
 zC5 s0 i5 lh_0 a0 a1 a2 a3 a4
def zBX (s0:TS) (i5:Int) (i6:Int) (i7:Int) (lh_0:LF) (jb0:Int) (jb1:List UInt8) (a0:Bool) (a1:Int) (a2:List UInt8) (a3:Sem zg×Sem Sh.str) (a4:LF):Tr (zbE ⊕ Raw):=
 Tr.chk (bif a0 then inB i5 (List.length s0)&&zjS a1 else true)
 (Tr.br (bif a0 then zm0 a1 else false) (Tr.to (zbE.h11b s0 (IntKind.i64.wrap (i5+1)) i6 i7 lh_0 jb0 jb1))
  (Tr.chk (decide (0≤i7)&&decide (i7≤i5)&&decide (i5≤(↑(List.length s0):Int))) (Tr.chk (zc6 i6) (Tr.br (zdM i6) (Tr.to (zbE.h15b s0 i5 i6 i7 lh_0 1 a2)) (Tr.br (i6==39) (Tr.to (zbE.h20b s0 i5 lh_0 3 [])) (Tr.chk (zhZ a3) (Tr.br (!zlB a3) (Tr.re (AV.tup [AV.nils,AV.kb false]) [])
  (Tr.chk (decide (lh_0.length+a4.length≤1073741824)) (Tr.to (zbE.h3b s0 i5 (lh_0++a4)))))))))))
def zDz (s0:TS) (i5:Int) (i6:Int) (i7:Int) (lh_0:LF) (jb0:Int) (jb1:List UInt8):Tr (zbE ⊕ Raw):=
 let a0:=decide (i5 < (↑(List.length s0):Int))
 let a1:=(↑(List.getD s0 i5.toNat 0).toNat:Int)
 let a2:=List.take (i5.toNat - i7.toNat) (List.drop i7.toNat s0)
 let a3:=(1,a2)
 let a4:=[a3]
 zBX s0 i5 i6 i7 lh_0 jb0 jb1 a0 a1 a2 a3 a4
def zCw (s0:TS) (i5:Int) (i6:Int) (i7:Int) (lh_0:LF) (jb0:Int) (jb1:List UInt8) (a0:Bool) (a1:Int) (a2:Sem zg×Sem Sh.str) (a3:LF):Tr (zbE ⊕ Raw):=
 Tr.chk (bif a0 then inB i5 (List.length s0)&&zc6 a1 else true)
 (Tr.br (bif a0 then zdM a1 else false) (Tr.to (zbE.h15b s0 (IntKind.i64.wrap (i5+1)) i6 i7 lh_0 jb0 jb1))
  (Tr.chk (decide (0≤i7)&&decide (i7≤i5)&&decide (i5≤(↑(List.length s0):Int))) (Tr.br (i6==39) (Tr.to (zbE.h20b s0 i5 lh_0 3 [])) (Tr.chk (zhZ a2) (Tr.br (!zlB a2) (Tr.re (AV.tup [AV.nils,AV.kb false]) []) (Tr.chk (decide (lh_0.length+a3.length≤1073741824)) (Tr.to (zbE.h3b s0 i5 (lh_0++a3)))))))))
def zFJ (s0:TS) (i5:Int) (i6:Int) (i7:Int) (lh_0:LF) (jb0:Int) (jb1:List UInt8):Tr (zbE ⊕ Raw):=
 let a0:=decide (i5 < (↑(List.length s0):Int))
 let a1:=(↑(List.getD s0 i5.toNat 0).toNat:Int)
 let a2:=(2,List.take (i5.toNat - i7.toNat) (List.drop i7.toNat s0))
 let a3:=[a2]
 zCw s0 i5 i6 i7 lh_0 jb0 jb1 a0 a1 a2 a3
def zBL (s0:TS) (i5:Int) (lh_0:LF) (jb0:Int) (jb1:List UInt8) (a0:Bool) (a1:Int) (a2:Bool) (a3:Int) (a4:Bool) (a5:List UInt8) (a6:Str) (a7:LF):Tr (zbE ⊕ Raw):=
 Tr.chk (bif a0 then inB i5 (List.length s0)&&bif a2 then true else bif a4 then inB a3 (List.length s0) else true else true)
 (Tr.br (bif a0 then bif a2 then true else bif a4 then (↑(List.getD s0 a3.toNat 0).toNat:Int)==39 else false else false)
  (Tr.chk (decide (0≤i5)&&decide (i5≤a3)&&decide (a3≤(↑(List.length s0):Int))) (Tr.chk (decide (jb1.length+a5.length≤1099511627776)) (Tr.chk (inB i5 (List.length s0)) (Tr.br (a1==39) (Tr.to (zbE.h20b s0 (IntKind.i64.wrap (a3+1)) lh_0 jb0 a6)) (Tr.to (zbE.h20b s0 a3 lh_0 jb0 a6))))))
  (Tr.br (decide (i5 ≥ (↑(List.length s0):Int))) (Tr.re (AV.tup [AV.nils,AV.kb false]) []) (Tr.chk (zhZ (jb0,jb1)) (Tr.br (!zlB (jb0,jb1)) (Tr.re (AV.tup [AV.nils,AV.kb false]) []) (Tr.chk (decide (lh_0.length+a7.length≤1073741824)) (Tr.to (zbE.h3b s0 a3 (lh_0++a7))))))))
def zD4 (s0:TS) (i5:Int) (lh_0:LF) (jb0:Int) (jb1:List UInt8):Tr (zbE ⊕ Raw):=
 let a0:=decide (i5 < (↑(List.length s0):Int))
 let a1:=(↑(List.getD s0 i5.toNat 0).toNat:Int)
 let a2:=a1 != 39
 let a3:=IntKind.i64.wrap (i5+1)
 let a4:=decide (a3 < (↑(List.length s0):Int))
 let a5:=List.take (a3.toNat - i5.toNat) (List.drop i5.toNat s0)
 let a6:=jb1++a5
 let a7:=[(jb0,jb1)]
 zBL s0 i5 lh_0 jb0 jb1 a0 a1 a2 a3 a4 a5 a6 a7
theorem zSp (x0:TS):run zdY 0 zEE (Func.results Tryz.f81).toList 400 (zq Tryz.f81) (zp (Func.ntmps Tryz.f81) [zx Sh.str x0] [])=(zMX x0).map (lf Tryz.f81 zGP):=by kernel_rfl
def zLU:zbE→Tr (zbE ⊕ Raw)
 | .h3 s0 i5=>zLF s0 i5
 | .h11 s0 i5 i6 i7 ja0 ja1=>zHW s0 i5 i6 i7 ja0 ja1
 | .h15 s0 i5 i6 i7 ja0 ja1=>zJO s0 i5 i6 i7 ja0 ja1
 | .h20 s0 i5 ja0 ja1=>zIA s0 i5 ja0 ja1
 | .h3b s0 i5 lh_0=>zHF s0 i5 lh_0
 | .h11b s0 i5 i6 i7 lh_0 jb0 jb1=>zDz s0 i5 i6 i7 lh_0 jb0 jb1
 | .h15b s0 i5 i6 i7 lh_0 jb0 jb1=>zFJ s0 i5 i6 i7 lh_0 jb0 jb1
 | .h20b s0 i5 lh_0 jb0 jb1=>zD4 s0 i5 lh_0 jb0 jb1
theorem zUM:∀ s,run zdY 0 zEE (Func.results Tryz.f81).toList 400 (zA Tryz.f81 (zGP s).1) (zGP s).2=(zLU s).map (lf Tryz.f81 zGP)
 | .h3 s0 i5=>by kernel_rfl
 | .h11 s0 i5 i6 i7 ja0 ja1=>by kernel_rfl
 | .h15 s0 i5 i6 i7 ja0 ja1=>by kernel_rfl
 | .h20 s0 i5 ja0 ja1=>by kernel_rfl
 | .h3b s0 i5 lh_0=>by kernel_rfl
 | .h11b s0 i5 i6 i7 lh_0 jb0 jb1=>by kernel_rfl
 | .h15b s0 i5 i6 i7 lh_0 jb0 jb1=>by kernel_rfl
 | .h20b s0 i5 lh_0 jb0 jb1=>by kernel_rfl
def zE2 (x0:TS):Option (zo (List.map some [zt.sl,Sh.bool])):=zaj [zt.sl,Sh.bool] zLU 100000000 (zMX x0)
def zyv (x0:TS):Bool:=(zE2 x0).isSome
def znD (x0:TS):Sem zt.sl×Sem Sh.bool:=(fun r:zo (List.map some [zt.sl,Sh.bool])=>(r.1,r.2.1)) ((zE2 x0).getD (zad [zt.sl,Sh.bool]))
def zPT:zJ:=zG [Sh.str] [zt.sl,Sh.bool] (fun x=>zyv x.1) fun x=>((znD x.1).1,(znD x.1).2,())
theorem zMk:FOk zdY.P zdY.gl 81 zPT:=zae (ks:=[Sh.str]) (outs:=[zt.sl,Sh.bool]) (keep:=zEE) (gas:=400) (n:=100000000) (e:=zGP) (t:=zLU) (i:=fun x=>zMX x.1) zjm zjQ zTl (fun x=>zSp x.1) zUM (fun _=>by kernel_rfl) (fun _=>by kernel_rfl)

abbrev zGM:Nat→zQ:=fun _=>{ }
theorem zLz:zF zdY.P 127 Tryz.f127 2:=by refine ⟨?_,?_,?_,?_⟩ <;> kernel_rfl
def zGF (x0:Sem Sh.expr) (_:TS):Tr (Empty ⊕ Raw):=
 Tr.br (ze.op x0==[])
 (Tr.chk (zlR (zz x0) (ze.mk [] (0,0,[]) [] [])) (Tr.re (AV.tup [AV.str [],AV.bool (zqe (zz x0) (ze.mk [] (0,0,[]) [] []))]) [])) Tr.err
theorem zPs (x0:Sem Sh.expr) (x1:TS):run zdY 0 zGM (Func.results Tryz.f127).toList 400 (zq Tryz.f127) (zp (Func.ntmps Tryz.f127) [zx Sh.expr x0,zx Sh.str x1] [])=(zGF x0 x1).map (lf Tryz.f127 e0):=by kernel_rfl
def zAq (x0:Sem Sh.expr) (x1:TS):Option (zo (List.map some [Sh.str,Sh.bool])):=zaj [Sh.str,Sh.bool] t0 100000000 (zGF x0 x1)
def zuB (x0:Sem Sh.expr) (x1:TS):Bool:=(zAq x0 x1).isSome
def zvU (x0:Sem Sh.expr) (x1:TS):Sem Sh.str×Sem Sh.bool:=(fun r:zo (List.map some [Sh.str,Sh.bool])=>(r.1,r.2.1)) ((zAq x0 x1).getD (zad [Sh.str,Sh.bool]))
def zJV:zJ:=zG [Sh.expr,Sh.str] [Sh.str,Sh.bool] (fun x=>zuB x.1 x.2.1) fun x=>((zvU x.1 x.2.1).1,(zvU x.1 x.2.1).2,())
theorem zIu:FOk zdY.P zdY.gl 127 zJV:=zae (ks:=[Sh.expr,Sh.str]) (outs:=[Sh.str,Sh.bool]) (keep:=zGM) (gas:=400) (n:=100000000) (e:=e0) (t:=t0) (i:=fun x=>zGF x.1 x.2.1) zjm zjQ zLz (fun x=>zPs x.1 x.2.1) (on0 _ _ _ _ _) (fun _=>by kernel_rfl) (fun _=>by kernel_rfl)

abbrev zzq:Nat→zQ:=fun j=>if j=3 then { slots:=[0,4,5] } else { }
inductive zmr where
 | h3 (l0:LS) (s4:List UInt8) (i5:Int)
abbrev zwR:zmr→Nat×St
 | .h3 l0 s4 i5=>(3,⟨tm 37 [(0,AV.sl Sh.str l0),(4,AV.str s4),(5,AV.int .i64 i5)],[]⟩)
theorem zM1:zF zdY.P 131 Tryz.f131 1:=by refine ⟨?_,?_,?_,?_⟩ <;> kernel_rfl
def zGA (x0:Sem Sh.str.sl):Tr (zmr ⊕ Raw):=
 Tr.to (zmr.h3 x0 [] 0)
def zFT (l0:LS) (s4:List UInt8) (i5:Int) (a0:TS) (a1:Str) (a2:Int) (a3:Bool):Tr (zmr ⊕ Raw):=
 Tr.br (decide (i5 < (↑l0.length:Int)))
 (Tr.chk (inB i5 l0.length)
  (Tr.chk (zcX a0) (Tr.br (!zdT a0) (Tr.re (AV.tup [AV.str [],AV.kb false]) []) (Tr.br (decide (i5 > 0)) (Tr.chk (decide (s4.length+[32,44,32].length≤1099511627776)) (Tr.chk (inB i5 l0.length) (Tr.chk (decide (List.length a1+List.length a0≤1099511627776)) (Tr.to (zmr.h3 l0 (a1++a0) a2)))))
  (Tr.chk (inB i5 l0.length) (Tr.chk (decide (s4.length+List.length a0≤1099511627776)) (Tr.to (zmr.h3 l0 (s4++a0) a2))))))))
 (Tr.re (AV.tup [AV.str (bif a3 then s4 else s4),AV.bool (bif a3 then decide ((↑l0.length:Int)≤8) else false)]) [])
def zJw (l0:LS) (s4:List UInt8) (i5:Int):Tr (zmr ⊕ Raw):=
 let a0:=l0.getD i5.toNat (zl Sh.str)
 let a1:=s4++[32,44,32]
 let a2:=IntKind.i64.wrap (i5+1)
 let a3:=decide (1≤(↑l0.length:Int))
 zFT l0 s4 i5 a0 a1 a2 a3
theorem zLT (x0:Sem Sh.str.sl):run zdY 0 zzq (Func.results Tryz.f131).toList 400 (zq Tryz.f131) (zp (Func.ntmps Tryz.f131) [zx Sh.str.sl x0] [])=(zGA x0).map (lf Tryz.f131 zwR):=by kernel_rfl
def zHe:zmr→Tr (zmr ⊕ Raw)
 | .h3 l0 s4 i5=>zJw l0 s4 i5
theorem zOU:∀ s,run zdY 0 zzq (Func.results Tryz.f131).toList 400 (zA Tryz.f131 (zwR s).1) (zwR s).2=(zHe s).map (lf Tryz.f131 zwR)
 | .h3 l0 s4 i5=>by kernel_rfl
def zxc (x0:Sem Sh.str.sl):Option (zo (List.map some [Sh.str,Sh.bool])):=zaj [Sh.str,Sh.bool] zHe 100000000 (zGA x0)
def zxr (x0:Sem Sh.str.sl):Bool:=(zxc x0).isSome
def zvr (x0:Sem Sh.str.sl):Sem Sh.str×Sem Sh.bool:=(fun r:zo (List.map some [Sh.str,Sh.bool])=>(r.1,r.2.1)) ((zxc x0).getD (zad [Sh.str,Sh.bool]))
def zKf:zJ:=zG [Sh.str.sl] [Sh.str,Sh.bool] (fun x=>zxr x.1) fun x=>((zvr x.1).1,(zvr x.1).2,())
theorem zJm:FOk zdY.P zdY.gl 131 zKf:=zae (ks:=[Sh.str.sl]) (outs:=[Sh.str,Sh.bool]) (keep:=zzq) (gas:=400) (n:=100000000) (e:=zwR) (t:=zHe) (i:=fun x=>zGA x.1) zjm zjQ zM1 (fun x=>zLT x.1) zOU (fun _=>by kernel_rfl) (fun _=>by kernel_rfl)

def zlA:Env:=(((zdY.add 81 zPT).add 127 zJV).add 131 zKf)
theorem ztE:zi zlA:=(zi.addS (zi.addS (zi.addS zjm (zB.refl zdY) zMk) ((zB.refl zdY).add _ _) zIu) (((zB.refl zdY).add _ _).add _ _) zJm)
theorem zs8:zlA.P.follows .mixedOrders=true:=(zm (zm (zm zjQ _ _) _ _) _ _)
end
open Go Go.Proofs
noncomputable section
set_option maxHeartbeats 4000000
abbrev zJH:List CP:=[.d .str,.d .str,.d .str,.nil,.nil,.d .str,.nil,.nil,.d .str,.d zg,.d zg,.d .str,.d .str,.nil,.d (.sl zf),.nil,.d .str,.d zg,.d zg,.d .str,.d .str,.nil,.d .str]
abbrev zIH:List CP:=[.d .str,.d .str,.d .str,.nil,.nil,.d .str,.nil,.nil,.d .str,.d zg,.d zg,.d .str,.d .str,.nil,.nil,.d (.sl zan),.d .expr,.d .str]

abbrev zFF:Nat→zQ:=fun j=>if j=15 then { slots:=[1,3,5,12,13] } else if j=27 then { slots:=[1,3,5,8,9,14,15] } else { }
inductive zrx where
 | h15 (s12:List UInt8) (i13:Int) (z0:zj cpS) (z1:zj zce) (z2:zj zJH)
 | h27 (s8:TS) (b9:Sem Sh.bool) (s14:List UInt8) (i15:Int) (z0:zj cpS) (z1:zj zce) (z2:zj zIH)
abbrev zGp:zrx→Nat×St
 | .h15 s12 i13 z0 z1 z2=>(15,⟨tm 430 [(1,AV.ptr 0 0),(3,AV.ptr 1 0),(5,AV.ptr 2 0),(12,AV.str s12),(13,AV.int .i64 i13)],[AO.box (cpN [] cpS z0),AO.box (cpN [] zce z1),AO.box (cpN [] zJH z2)]⟩)
 | .h27 s8 b9 s14 i15 z0 z1 z2=>(27,⟨tm 430 [(1,AV.ptr 0 0),(3,AV.ptr 1 0),(5,AV.ptr 2 0),(8,AV.str s8),(9,AV.bool b9),(14,AV.str s14),(15,AV.int .i64 i15)],[AO.box (cpN [] cpS z0),AO.box (cpN [] zce z1),AO.box (cpN [] zIH z2)]⟩)
theorem zUC:zF zlA.P 78 Tryz.f78 1:=by refine ⟨?_,?_,?_,?_⟩ <;> kernel_rfl
def zVt (x0:Sem zu) (a0:ze) (a1:ze) (a2:Sem Sh.str×Sem Sh.bool) (a3:Str) (a4:Str) (a5:Str) (a6:Str) (a7:Str) (a8:Str) (a9:Sem Sh.str×Sem Sh.bool) (a10:Str) (a11:Str) (a12:Sem Sh.str×Sem Sh.bool) (a13:Bool) (a14:Sem Sh.bool) (a15:Str) (a16:Str) (a17:Str) (a18:Str) (a19:Str) (a20:Str) (a21:Str) (a22:Bool) (a23:Sem Sh.bool) (a24:Str) (a25:Str) (a26:Str) (a27:Bool) (a28:Str) (a29:TS) (a30:Str) (a31:Bool) (a32:Str) (a33:TS) (a34:Str) (a35:Str) (a36:Str) (a37:Str) (a38:Str) (a39:Str) (a40:Str) (a41:Str) (a42:Str):Tr (zrx ⊕ Raw):=
 Tr.chk (zuB a0 [])
 (Tr.chk (zuB a1 [87,72,69,82,69])
  (Tr.br (x0.1==[99,114,101,97,116,101]) Tr.err (Tr.br (x0.1==[100,114,111,112]) (Tr.chk (decide ([68,82,79,80,32,84,65,66,76,69,32].length+List.length x0.2.1≤1099511627776)) (Tr.re (AV.tup [AV.str ([68,82,79,80,32,84,65,66,76,69,32]++x0.2.1),AV.agg
  [AV.str x0.1,AV.str x0.2.1,AV.str [],AV.nils,AV.nils,AV.str [],AV.nils,AV.nils,AV.str [],AV.int .i64 0,AV.int .i64 0,AV.str [],AV.str [],AV.nils,AV.nils,AV.nils,AV.str [],AV.int .i64 0,AV.int .i64 0,AV.str [],AV.str [],AV.nils,AV.str []],AV.kb true]) [])) (Tr.br (x0.1==[105,110,115,101,114,116]) (Tr.to
  (zrx.h15 [] 0 (x0,()) ([],[],[],[],[],0,0,[],[],[],0,0,[],[],[],()) (x0.1,x0.2.1,[],[],[],0,0,[],[],x0.2.2.2.2.2.2.2.2.2.1,[],0,0,[],[],[],()))) (Tr.br (x0.1==[117,112,100,97,116,101]) (Tr.to (zrx.h27 a2.1 a2.2 [] 0 (x0,()) ([],[],[],[],[],0,0,[],[],[],0,0,[],[],[],()) (x0.1,x0.2.1,[],[],[],0,0,[],[],x0.2.2.2.2.2.2.2.2.2.2.1,
  x0.2.2.2.2.2.2.2.2.2.2.2.1,[],()))) (Tr.br (x0.1==[100,101,108,101,116,101]) (Tr.chk (decide ([68,69,76,69,84,69,32,70,82,79,77,32].length+List.length x0.2.1≤1099511627776)) (Tr.chk (decide (List.length a3+List.length a2.1≤1099511627776)) (Tr.re (AV.tup [AV.str (a3++a2.1),AV.agg
  [AV.str x0.1,AV.str x0.2.1,AV.str [],AV.nils,AV.nils,AV.str [],AV.nils,AV.nils,AV.str [],AV.int .i64 0,AV.int .i64 0,AV.str [],AV.str [],AV.nils,AV.nils,AV.nils,AV.str (ze.op x0.2.2.2.2.2.2.2.2.2.2.2.1),AV.int .i64 (ze.v x0.2.2.2.2.2.2.2.2.2.2.2.1).1,AV.int .i64 (ze.v x0.2.2.2.2.2.2.2.2.2.2.2.1).2.1,AV.str (ze.v x0.2.2.2.2.2.2.2.2.2.2.2.1).2.2,
  AV.str (ze.s x0.2.2.2.2.2.2.2.2.2.2.2.1),AV.sl Sh.expr (ze.l x0.2.2.2.2.2.2.2.2.2.2.2.1),AV.str []],AV.bool a2.2]) []))) (Tr.br (x0.1==[115,101,108,101,99,116]) (Tr.chk (decide ([83,69,76,69,67,84,32,42,32,70,82,79,77,32].length+List.length x0.2.1≤1099511627776)) (Tr.chk (decide (List.length a4+List.length a2.1≤1099511627776)) (Tr.re (AV.tup
  [AV.str (a4++a2.1),AV.agg [AV.str x0.1,AV.str x0.2.1,AV.str [],AV.nils,AV.nils,AV.str [],AV.nils,AV.nils,AV.str [],AV.int .i64 0,AV.int .i64 0,AV.str [],AV.str [],AV.nils,AV.nils,AV.nils,AV.str (ze.op x0.2.2.2.2.2.2.2.2.2.2.2.1),AV.int .i64 (ze.v x0.2.2.2.2.2.2.2.2.2.2.2.1).1,AV.int .i64 (ze.v x0.2.2.2.2.2.2.2.2.2.2.2.1).2.1,
  AV.str (ze.v x0.2.2.2.2.2.2.2.2.2.2.2.1).2.2,AV.str (ze.s x0.2.2.2.2.2.2.2.2.2.2.2.1),AV.sl Sh.expr (ze.l x0.2.2.2.2.2.2.2.2.2.2.2.1),AV.str []],AV.bool a2.2]) []))) (Tr.br (x0.1==[99,111,112,121]) (Tr.chk (zxr x0.2.2.2.1) (Tr.chk (decide ([77,73,71,82,65,84,69,32,67,79,80,89,32].length+List.length x0.2.1≤1099511627776))
  (Tr.chk (decide (List.length a5+[32,70,82,79,77,32].length≤1099511627776)) (Tr.chk (decide (List.length a6+List.length x0.2.2.1≤1099511627776)) (Tr.chk (decide (List.length a7+[32,40,32].length≤1099511627776)) (Tr.chk (decide (List.length a8+List.length a9.1≤1099511627776)) (Tr.chk (decide (List.length a10+[32,41].length≤1099511627776))
  (Tr.chk (decide (List.length a11+List.length a12.1≤1099511627776)) (Tr.br a9.2 (Tr.br a12.2 (Tr.chk a13 (Tr.re (AV.tup [AV.str (a11++a12.1),AV.agg [AV.str x0.1,AV.str x0.2.1,AV.str x0.2.2.1,AV.sl Sh.str x0.2.2.2.1,AV.nils,AV.str [],AV.nils,AV.nils,AV.str (ze.op x0.2.2.2.2.2.2.2.2.1),AV.int .i64 (ze.v x0.2.2.2.2.2.2.2.2.1).1,AV.int .i64 (ze.v x0.2.2.2.2.2.2.2.2.1).2.1,
  AV.str (ze.v x0.2.2.2.2.2.2.2.2.1).2.2,AV.str (ze.s x0.2.2.2.2.2.2.2.2.1),AV.sl Sh.expr (ze.l x0.2.2.2.2.2.2.2.2.1),AV.nils,AV.nils,AV.str [],AV.int .i64 0,AV.int .i64 0,AV.str [],AV.str [],AV.nils,AV.str []],AV.bool a14]) [])) (Tr.re (AV.tup [AV.str (a11++a12.1),AV.agg [AV.str x0.1,AV.str x0.2.1,AV.str x0.2.2.1,AV.sl Sh.str x0.2.2.2.1,AV.nils,AV.str [],
  AV.nils,AV.nils,AV.str (ze.op x0.2.2.2.2.2.2.2.2.1),AV.int .i64 (ze.v x0.2.2.2.2.2.2.2.2.1).1,AV.int .i64 (ze.v x0.2.2.2.2.2.2.2.2.1).2.1,AV.str (ze.v x0.2.2.2.2.2.2.2.2.1).2.2,AV.str (ze.s x0.2.2.2.2.2.2.2.2.1),AV.sl Sh.expr (ze.l x0.2.2.2.2.2.2.2.2.1),AV.nils,AV.nils,AV.str [],AV.int .i64 0,AV.int .i64 0,AV.str [],AV.str [],AV.nils,AV.str []],AV.kb false])
  [])) (Tr.re (AV.tup [AV.str (a11++a12.1),AV.agg [AV.str x0.1,AV.str x0.2.1,AV.str x0.2.2.1,AV.sl Sh.str x0.2.2.2.1,AV.nils,AV.str [],AV.nils,AV.nils,AV.str (ze.op x0.2.2.2.2.2.2.2.2.1),AV.int .i64 (ze.v x0.2.2.2.2.2.2.2.2.1).1,AV.int .i64 (ze.v x0.2.2.2.2.2.2.2.2.1).2.1,AV.str (ze.v x0.2.2.2.2.2.2.2.2.1).2.2,AV.str (ze.s x0.2.2.2.2.2.2.2.2.1),
  AV.sl Sh.expr (ze.l x0.2.2.2.2.2.2.2.2.1),AV.nils,AV.nils,AV.str [],AV.int .i64 0,AV.int .i64 0,AV.str [],AV.str [],AV.nils,AV.str []],AV.kb false]) [])))))))))) (Tr.br (x0.1==[106,111,105,110]) (Tr.chk (decide ([77,73,71,82,65,84,69,32,74,79,73,78,32].length+List.length x0.2.1≤1099511627776))
  (Tr.chk (decide (List.length a15+[32,70,82,79,77,32].length≤1099511627776)) (Tr.chk (decide (List.length a16+List.length x0.2.2.1≤1099511627776)) (Tr.chk (decide (List.length a17+[32,44,32].length≤1099511627776)) (Tr.chk (decide (List.length a18+List.length x0.2.2.2.2.2.2.2.2.2.2.2.2≤1099511627776))
  (Tr.chk (decide (List.length a19+[32,79,78,32].length≤1099511627776)) (Tr.chk (decide (List.length a20+List.length x0.2.2.2.2.2.1≤1099511627776)) (Tr.chk (decide (List.length a21+List.length a12.1≤1099511627776)) (Tr.br a12.2 (Tr.chk a13 (Tr.br a14 (Tr.chk a22 (Tr.br a23 (Tr.chk (zcX x0.2.2.2.2.2.1) (Tr.re (AV.tup [AV.str (a21++a12.1),AV.agg
  [AV.str x0.1,AV.str x0.2.1,AV.str x0.2.2.1,AV.nils,AV.nils,AV.str x0.2.2.2.2.2.1,AV.nils,AV.nils,AV.str (ze.op x0.2.2.2.2.2.2.2.2.1),AV.int .i64 (ze.v x0.2.2.2.2.2.2.2.2.1).1,AV.int .i64 (ze.v x0.2.2.2.2.2.2.2.2.1).2.1,AV.str (ze.v x0.2.2.2.2.2.2.2.2.1).2.2,AV.str (ze.s x0.2.2.2.2.2.2.2.2.1),AV.sl Sh.expr (ze.l x0.2.2.2.2.2.2.2.2.1),AV.nils,AV.nils,AV.str [],
  AV.int .i64 0,AV.int .i64 0,AV.str [],AV.str [],AV.nils,AV.str x0.2.2.2.2.2.2.2.2.2.2.2.2],AV.bool (zdT x0.2.2.2.2.2.1)]) [])) (Tr.re (AV.tup [AV.str (a21++a12.1),AV.agg [AV.str x0.1,AV.str x0.2.1,AV.str x0.2.2.1,AV.nils,AV.nils,AV.str x0.2.2.2.2.2.1,AV.nils,AV.nils,AV.str (ze.op x0.2.2.2.2.2.2.2.2.1),AV.int .i64 (ze.v x0.2.2.2.2.2.2.2.2.1).1,
  AV.int .i64 (ze.v x0.2.2.2.2.2.2.2.2.1).2.1,AV.str (ze.v x0.2.2.2.2.2.2.2.2.1).2.2,AV.str (ze.s x0.2.2.2.2.2.2.2.2.1),AV.sl Sh.expr (ze.l x0.2.2.2.2.2.2.2.2.1),AV.nils,AV.nils,AV.str [],AV.int .i64 0,AV.int .i64 0,AV.str [],AV.str [],AV.nils,AV.str x0.2.2.2.2.2.2.2.2.2.2.2.2],AV.kb false]) []))) (Tr.re (AV.tup [AV.str (a21++a12.1),AV.agg
  [AV.str x0.1,AV.str x0.2.1,AV.str x0.2.2.1,AV.nils,AV.nils,AV.str x0.2.2.2.2.2.1,AV.nils,AV.nils,AV.str (ze.op x0.2.2.2.2.2.2.2.2.1),AV.int .i64 (ze.v x0.2.2.2.2.2.2.2.2.1).1,AV.int .i64 (ze.v x0.2.2.2.2.2.2.2.2.1).2.1,AV.str (ze.v x0.2.2.2.2.2.2.2.2.1).2.2,AV.str (ze.s x0.2.2.2.2.2.2.2.2.1),AV.sl Sh.expr (ze.l x0.2.2.2.2.2.2.2.2.1),AV.nils,AV.nils,AV.str [],
  AV.int .i64 0,AV.int .i64 0,AV.str [],AV.str [],AV.nils,AV.str x0.2.2.2.2.2.2.2.2.2.2.2.2],AV.kb false]) []))) (Tr.re (AV.tup [AV.str (a21++a12.1),AV.agg [AV.str x0.1,AV.str x0.2.1,AV.str x0.2.2.1,AV.nils,AV.nils,AV.str x0.2.2.2.2.2.1,AV.nils,AV.nils,AV.str (ze.op x0.2.2.2.2.2.2.2.2.1),AV.int .i64 (ze.v x0.2.2.2.2.2.2.2.2.1).1,
  AV.int .i64 (ze.v x0.2.2.2.2.2.2.2.2.1).2.1,AV.str (ze.v x0.2.2.2.2.2.2.2.2.1).2.2,AV.str (ze.s x0.2.2.2.2.2.2.2.2.1),AV.sl Sh.expr (ze.l x0.2.2.2.2.2.2.2.2.1),AV.nils,AV.nils,AV.str [],AV.int .i64 0,AV.int .i64 0,AV.str [],AV.str [],AV.nils,AV.str x0.2.2.2.2.2.2.2.2.2.2.2.2],AV.kb false]) [])))))))))) (Tr.br (x0.1==[103,114,111,117,112])
  (Tr.br ((↑(List.length x0.2.2.2.1):Int) != 2) (Tr.re (AV.tup [AV.str [],AV.agg [AV.str x0.1,AV.str x0.2.1,AV.str x0.2.2.1,AV.sl Sh.str x0.2.2.2.1,AV.nils,AV.str [],AV.nils,AV.nils,AV.str (ze.op x0.2.2.2.2.2.2.2.2.1),AV.int .i64 (ze.v x0.2.2.2.2.2.2.2.2.1).1,AV.int .i64 (ze.v x0.2.2.2.2.2.2.2.2.1).2.1,
  AV.str (ze.v x0.2.2.2.2.2.2.2.2.1).2.2,AV.str (ze.s x0.2.2.2.2.2.2.2.2.1),AV.sl Sh.expr (ze.l x0.2.2.2.2.2.2.2.2.1),AV.nils,AV.nils,AV.str [],AV.int .i64 0,AV.int .i64 0,AV.str [],AV.str [],AV.nils,AV.str []],AV.kb false]) []) (Tr.chk (decide ([77,73,71,82,65,84,69,32,71,82,79,85,80,32].length+List.length x0.2.1≤1099511627776))
  (Tr.chk (decide (List.length a24+[32,70,82,79,77,32].length≤1099511627776)) (Tr.chk (decide (List.length a25+List.length x0.2.2.1≤1099511627776)) (Tr.chk (decide (List.length a26+[32,66,89,32].length≤1099511627776)) (Tr.chk a27 (Tr.chk (decide (List.length a28+List.length a29≤1099511627776))
  (Tr.chk (decide (List.length a30+[32,83,85,77,32].length≤1099511627776)) (Tr.chk a31 (Tr.chk (decide (List.length a32+List.length a33≤1099511627776)) (Tr.chk (decide (List.length a34+List.length a12.1≤1099511627776)) (Tr.br a12.2 (Tr.chk a13 (Tr.br a14 (Tr.chk a27 (Tr.chk (zcX a29) (Tr.br (zdT a29) (Tr.chk a31 (Tr.chk (zcX a33) (Tr.re (AV.tup [AV.str (a34++a12.1),
  AV.agg [AV.str x0.1,AV.str x0.2.1,AV.str x0.2.2.1,AV.sl Sh.str x0.2.2.2.1,AV.nils,AV.str [],AV.nils,AV.nils,AV.str (ze.op x0.2.2.2.2.2.2.2.2.1),AV.int .i64 (ze.v x0.2.2.2.2.2.2.2.2.1).1,AV.int .i64 (ze.v x0.2.2.2.2.2.2.2.2.1).2.1,AV.str (ze.v x0.2.2.2.2.2.2.2.2.1).2.2,AV.str (ze.s x0.2.2.2.2.2.2.2.2.1),AV.sl Sh.expr (ze.l x0.2.2.2.2.2.2.2.2.1),AV.nils,AV.nils,
  AV.str [],AV.int .i64 0,AV.int .i64 0,AV.str [],AV.str [],AV.nils,AV.str []],AV.bool (zdT a33)]) []))) (Tr.re (AV.tup [AV.str (a34++a12.1),AV.agg [AV.str x0.1,AV.str x0.2.1,AV.str x0.2.2.1,AV.sl Sh.str x0.2.2.2.1,AV.nils,AV.str [],AV.nils,AV.nils,AV.str (ze.op x0.2.2.2.2.2.2.2.2.1),AV.int .i64 (ze.v x0.2.2.2.2.2.2.2.2.1).1,
  AV.int .i64 (ze.v x0.2.2.2.2.2.2.2.2.1).2.1,AV.str (ze.v x0.2.2.2.2.2.2.2.2.1).2.2,AV.str (ze.s x0.2.2.2.2.2.2.2.2.1),AV.sl Sh.expr (ze.l x0.2.2.2.2.2.2.2.2.1),AV.nils,AV.nils,AV.str [],AV.int .i64 0,AV.int .i64 0,AV.str [],AV.str [],AV.nils,AV.str []],AV.kb false]) [])))) (Tr.re (AV.tup [AV.str (a34++a12.1),AV.agg
  [AV.str x0.1,AV.str x0.2.1,AV.str x0.2.2.1,AV.sl Sh.str x0.2.2.2.1,AV.nils,AV.str [],AV.nils,AV.nils,AV.str (ze.op x0.2.2.2.2.2.2.2.2.1),AV.int .i64 (ze.v x0.2.2.2.2.2.2.2.2.1).1,AV.int .i64 (ze.v x0.2.2.2.2.2.2.2.2.1).2.1,AV.str (ze.v x0.2.2.2.2.2.2.2.2.1).2.2,AV.str (ze.s x0.2.2.2.2.2.2.2.2.1),
  AV.sl Sh.expr (ze.l x0.2.2.2.2.2.2.2.2.1),AV.nils,AV.nils,AV.str [],AV.int .i64 0,AV.int .i64 0,AV.str [],AV.str [],AV.nils,AV.str []],AV.kb false]) []))) (Tr.re (AV.tup [AV.str (a34++a12.1),AV.agg [AV.str x0.1,AV.str x0.2.1,AV.str x0.2.2.1,AV.sl Sh.str x0.2.2.2.1,AV.nils,AV.str [],AV.nils,AV.nils,AV.str (ze.op x0.2.2.2.2.2.2.2.2.1),
  AV.int .i64 (ze.v x0.2.2.2.2.2.2.2.2.1).1,AV.int .i64 (ze.v x0.2.2.2.2.2.2.2.2.1).2.1,AV.str (ze.v x0.2.2.2.2.2.2.2.2.1).2.2,AV.str (ze.s x0.2.2.2.2.2.2.2.2.1),AV.sl Sh.expr (ze.l x0.2.2.2.2.2.2.2.2.1),AV.nils,AV.nils,AV.str [],AV.int .i64 0,AV.int .i64 0,AV.str [],AV.str [],AV.nils,AV.str []],AV.kb false]) []))))))))))))) (Tr.br (x0.1==[114,101,97,100])
  (Tr.chk (decide ([71,82,65,78,84,32,82,69,65,68,32,79,78,32].length+List.length x0.2.1≤1099511627776)) (Tr.chk (decide (List.length a35+[32,84,79,32].length≤1099511627776)) (Tr.chk (decide (List.length a36+List.length x0.2.2.2.2.2.2.2.2.2.2.2.2≤1099511627776)) (Tr.chk a22 (Tr.re (AV.tup [AV.str (a36++x0.2.2.2.2.2.2.2.2.2.2.2.2),AV.agg
  [AV.str x0.1,AV.str x0.2.1,AV.str [],AV.nils,AV.nils,AV.str [],AV.nils,AV.nils,AV.str [],AV.int .i64 0,AV.int .i64 0,AV.str [],AV.str [],AV.nils,AV.nils,AV.nils,AV.str [],AV.int .i64 0,AV.int .i64 0,AV.str [],AV.str [],AV.nils,AV.str x0.2.2.2.2.2.2.2.2.2.2.2.2],AV.bool a23]) []))))) (Tr.br (x0.1==[119,114,105,116,101])
  (Tr.chk (decide ([71,82,65,78,84,32,87,82,73,84,69,32,79,78,32].length+List.length x0.2.1≤1099511627776)) (Tr.chk (decide (List.length a37+[32,84,79,32].length≤1099511627776)) (Tr.chk (decide (List.length a38+List.length x0.2.2.2.2.2.2.2.2.2.2.2.2≤1099511627776)) (Tr.chk a22 (Tr.re (AV.tup [AV.str (a38++x0.2.2.2.2.2.2.2.2.2.2.2.2),AV.agg
  [AV.str x0.1,AV.str x0.2.1,AV.str [],AV.nils,AV.nils,AV.str [],AV.nils,AV.nils,AV.str [],AV.int .i64 0,AV.int .i64 0,AV.str [],AV.str [],AV.nils,AV.nils,AV.nils,AV.str [],AV.int .i64 0,AV.int .i64 0,AV.str [],AV.str [],AV.nils,AV.str x0.2.2.2.2.2.2.2.2.2.2.2.2],AV.bool a23]) []))))) (Tr.br (x0.1==[117,110,114,101,97,100])
  (Tr.chk (decide ([82,69,86,79,75,69,32,82,69,65,68,32,79,78,32].length+List.length x0.2.1≤1099511627776)) (Tr.chk (decide (List.length a39+[32,70,82,79,77,32].length≤1099511627776)) (Tr.chk (decide (List.length a40+List.length x0.2.2.2.2.2.2.2.2.2.2.2.2≤1099511627776)) (Tr.chk a22 (Tr.re (AV.tup [AV.str (a40++x0.2.2.2.2.2.2.2.2.2.2.2.2),AV.agg
  [AV.str x0.1,AV.str x0.2.1,AV.str [],AV.nils,AV.nils,AV.str [],AV.nils,AV.nils,AV.str [],AV.int .i64 0,AV.int .i64 0,AV.str [],AV.str [],AV.nils,AV.nils,AV.nils,AV.str [],AV.int .i64 0,AV.int .i64 0,AV.str [],AV.str [],AV.nils,AV.str x0.2.2.2.2.2.2.2.2.2.2.2.2],AV.bool a23]) []))))) (Tr.br (x0.1==[117,110,119,114,105,116,101]) (Tr.chk
  (decide ([82,69,86,79,75,69,32,87,82,73,84,69,32,79,78,32].length+List.length x0.2.1≤1099511627776)) (Tr.chk (decide (List.length a41+[32,70,82,79,77,32].length≤1099511627776)) (Tr.chk (decide (List.length a42+List.length x0.2.2.2.2.2.2.2.2.2.2.2.2≤1099511627776)) (Tr.chk a22 (Tr.re (AV.tup [AV.str (a42++x0.2.2.2.2.2.2.2.2.2.2.2.2),AV.agg
  [AV.str x0.1,AV.str x0.2.1,AV.str [],AV.nils,AV.nils,AV.str [],AV.nils,AV.nils,AV.str [],AV.int .i64 0,AV.int .i64 0,AV.str [],AV.str [],AV.nils,AV.nils,AV.nils,AV.str [],AV.int .i64 0,AV.int .i64 0,AV.str [],AV.str [],AV.nils,AV.str x0.2.2.2.2.2.2.2.2.2.2.2.2],AV.bool a23]) []))))) (Tr.re (AV.tup [AV.str [],AV.agg
  [AV.str x0.1,AV.str x0.2.1,AV.str [],AV.nils,AV.nils,AV.str [],AV.nils,AV.nils,AV.str [],AV.int .i64 0,AV.int .i64 0,AV.str [],AV.str [],AV.nils,AV.nils,AV.nils,AV.str [],AV.int .i64 0,AV.int .i64 0,AV.str [],AV.str [],AV.nils,AV.str []],AV.kb false]) [])))))))))))))))
def zMw (x0:Sem zu):Tr (zrx ⊕ Raw):=
 let a0:=zz x0.2.2.2.2.2.2.2.2.1
 let a1:=zz x0.2.2.2.2.2.2.2.2.2.2.2.1
 let a2:=zvU a1 [87,72,69,82,69]
 let a3:=[68,69,76,69,84,69,32,70,82,79,77,32]++x0.2.1
 let a4:=[83,69,76,69,67,84,32,42,32,70,82,79,77,32]++x0.2.1
 let a5:=[77,73,71,82,65,84,69,32,67,79,80,89,32]++x0.2.1
 let a6:=a5++[32,70,82,79,77,32]
 let a7:=a6++x0.2.2.1
 let a8:=a7++[32,40,32]
 let a9:=zvr x0.2.2.2.1
 let a10:=a8++a9.1
 let a11:=a10++[32,41]
 let a12:=zvU a0 []
 let a13:=zcX x0.2.2.1
 let a14:=zdT x0.2.2.1
 let a15:=[77,73,71,82,65,84,69,32,74,79,73,78,32]++x0.2.1
 let a16:=a15++[32,70,82,79,77,32]
 let a17:=a16++x0.2.2.1
 let a18:=a17++[32,44,32]
 let a19:=a18++x0.2.2.2.2.2.2.2.2.2.2.2.2
 let a20:=a19++[32,79,78,32]
 let a21:=a20++x0.2.2.2.2.2.1
 let a22:=zcX x0.2.2.2.2.2.2.2.2.2.2.2.2
 let a23:=zdT x0.2.2.2.2.2.2.2.2.2.2.2.2
 let a24:=[77,73,71,82,65,84,69,32,71,82,79,85,80,32]++x0.2.1
 let a25:=a24++[32,70,82,79,77,32]
 let a26:=a25++x0.2.2.1
 let a27:=inB 0 (List.length x0.2.2.2.1)
 let a28:=a26++[32,66,89,32]
 let a29:=List.getD x0.2.2.2.1 (Int.toNat 0) (zl Sh.str)
 let a30:=a28++a29
 let a31:=inB 1 (List.length x0.2.2.2.1)
 let a32:=a30++[32,83,85,77,32]
 let a33:=List.getD x0.2.2.2.1 (Int.toNat 1) (zl Sh.str)
 let a34:=a32++a33
 let a35:=[71,82,65,78,84,32,82,69,65,68,32,79,78,32]++x0.2.1
 let a36:=a35++[32,84,79,32]
 let a37:=[71,82,65,78,84,32,87,82,73,84,69,32,79,78,32]++x0.2.1
 let a38:=a37++[32,84,79,32]
 let a39:=[82,69,86,79,75,69,32,82,69,65,68,32,79,78,32]++x0.2.1
 let a40:=a39++[32,70,82,79,77,32]
 let a41:=[82,69,86,79,75,69,32,87,82,73,84,69,32,79,78,32]++x0.2.1
 let a42:=a41++[32,70,82,79,77,32]
 zVt x0 a0 a1 a2 a3 a4 a5 a6 a7 a8 a9 a10 a11 a12 a13 a14 a15 a16 a17 a18 a19 a20 a21 a22 a23 a24 a25 a26 a27 a28 a29 a30 a31 a32 a33 a34 a35 a36 a37 a38 a39 a40 a41 a42
def zDx (s12:List UInt8) (i13:Int) (z0:zj cpS) (_:zj zce) (z2:zj zJH) (a0:Int) (a1:Str) (a2:Str) (a3:Str):Tr (zrx ⊕ Raw):=
 Tr.br (decide (i13 < a0)) (Tr.chk (inB i13 (List.length z0.1.2.2.2.2.2.2.2.2.2.1)) Tr.err)
 (Tr.chk (decide ([73,78,83,69,82,84,32,73,78,84,79,32].length+List.length z0.1.2.1≤1099511627776))
  (Tr.chk (decide (List.length a1+[32,86,65,76,85,69,83,32,40,32].length≤1099511627776)) (Tr.chk (decide (List.length a2+s12.length≤1099511627776)) (Tr.chk (decide (List.length a3+[32,41].length≤1099511627776)) (Tr.br (decide (1≤a0)) (Tr.re (AV.tup [AV.str (a3++[32,41]),AV.agg
  [AV.str z2.1,AV.str z2.2.1,AV.str z2.2.2.1,AV.nils,AV.nils,AV.str z2.2.2.2.1,AV.nils,AV.nils,AV.str z2.2.2.2.2.1,AV.int .i64 z2.2.2.2.2.2.1,AV.int .i64 z2.2.2.2.2.2.2.1,AV.str z2.2.2.2.2.2.2.2.1,AV.str z2.2.2.2.2.2.2.2.2.1,AV.nils,AV.sl zf z2.2.2.2.2.2.2.2.2.2.1,AV.nils,AV.str z2.2.2.2.2.2.2.2.2.2.2.1,AV.int .i64 z2.2.2.2.2.2.2.2.2.2.2.2.1,
  AV.int .i64 z2.2.2.2.2.2.2.2.2.2.2.2.2.1,AV.str z2.2.2.2.2.2.2.2.2.2.2.2.2.2.1,AV.str z2.2.2.2.2.2.2.2.2.2.2.2.2.2.2.1,AV.nils,AV.str z2.2.2.2.2.2.2.2.2.2.2.2.2.2.2.2.1],AV.bool (decide (a0≤12))]) []) (Tr.re (AV.tup [AV.str (a3++[32,41]),AV.agg [AV.str z2.1,AV.str z2.2.1,AV.str z2.2.2.1,AV.nils,AV.nils,AV.str z2.2.2.2.1,AV.nils,AV.nils,
  AV.str z2.2.2.2.2.1,AV.int .i64 z2.2.2.2.2.2.1,AV.int .i64 z2.2.2.2.2.2.2.1,AV.str z2.2.2.2.2.2.2.2.1,AV.str z2.2.2.2.2.2.2.2.2.1,AV.nils,AV.sl zf z2.2.2.2.2.2.2.2.2.2.1,AV.nils,AV.str z2.2.2.2.2.2.2.2.2.2.2.1,AV.int .i64 z2.2.2.2.2.2.2.2.2.2.2.2.1,AV.int .i64 z2.2.2.2.2.2.2.2.2.2.2.2.2.1,AV.str z2.2.2.2.2.2.2.2.2.2.2.2.2.2.1,AV.str z2.2.2.2.2.2.2.2.2.2.2.2.2.2.2.1,
  AV.nils,AV.str z2.2.2.2.2.2.2.2.2.2.2.2.2.2.2.2.1],AV.kb false]) []))))))
def zH1 (s12:List UInt8) (i13:Int) (z0:zj cpS) (z1:zj zce) (z2:zj zJH):Tr (zrx ⊕ Raw):=
 let a0:=(↑(List.length z0.1.2.2.2.2.2.2.2.2.2.1):Int)
 let a1:=[73,78,83,69,82,84,32,73,78,84,79,32]++z0.1.2.1
 let a2:=a1++[32,86,65,76,85,69,83,32,40,32]
 let a3:=a2++s12
 zDx s12 i13 z0 z1 z2 a0 a1 a2 a3
def zFY (s8:TS) (b9:Sem Sh.bool) (s14:List UInt8) (i15:Int) (z0:zj cpS) (_:zj zce) (z2:zj zIH) (a0:Int) (a1:Bool) (a2:Sem zan) (a3:Str) (a4:Str) (a5:Str):Tr (zrx ⊕ Raw):=
 Tr.br (decide (i15 < a0))
 (Tr.chk a1
  (Tr.chk (zcX a2.1) (Tr.br (!zdT a2.1) (Tr.re (AV.tup [AV.str [],AV.agg [AV.str z2.1,AV.str z2.2.1,AV.str z2.2.2.1,AV.nils,AV.nils,AV.str z2.2.2.2.1,AV.nils,AV.nils,AV.str z2.2.2.2.2.1,AV.int .i64 z2.2.2.2.2.2.1,AV.int .i64 z2.2.2.2.2.2.2.1,AV.str z2.2.2.2.2.2.2.2.1,AV.str z2.2.2.2.2.2.2.2.2.1,AV.nils,AV.nils,
  AV.sl (Sh.str.pr Sh.expr) z2.2.2.2.2.2.2.2.2.2.1,AV.str (ze.op z2.2.2.2.2.2.2.2.2.2.2.1),AV.int .i64 (ze.v z2.2.2.2.2.2.2.2.2.2.2.1).1,AV.int .i64 (ze.v z2.2.2.2.2.2.2.2.2.2.2.1).2.1,AV.str (ze.v z2.2.2.2.2.2.2.2.2.2.2.1).2.2,AV.str (ze.s z2.2.2.2.2.2.2.2.2.2.2.1),AV.sl Sh.expr (ze.l z2.2.2.2.2.2.2.2.2.2.2.1),AV.str z2.2.2.2.2.2.2.2.2.2.2.2.1],AV.kb false]) [])
  (Tr.chk a1 Tr.err))))
 (Tr.chk (decide ([85,80,68,65,84,69,32].length+List.length z0.1.2.1≤1099511627776))
  (Tr.chk (decide (List.length a3+[32,83,69,84,32].length≤1099511627776)) (Tr.chk (decide (List.length a4+s14.length≤1099511627776)) (Tr.chk (decide (List.length a5+List.length s8≤1099511627776)) (Tr.br b9 (Tr.br (decide (1≤a0)) (Tr.re (AV.tup [AV.str (a5++s8),AV.agg [AV.str z2.1,AV.str z2.2.1,AV.str z2.2.2.1,AV.nils,AV.nils,AV.str z2.2.2.2.1,AV.nils,AV.nils,
  AV.str z2.2.2.2.2.1,AV.int .i64 z2.2.2.2.2.2.1,AV.int .i64 z2.2.2.2.2.2.2.1,AV.str z2.2.2.2.2.2.2.2.1,AV.str z2.2.2.2.2.2.2.2.2.1,AV.nils,AV.nils,AV.sl (Sh.str.pr Sh.expr) z2.2.2.2.2.2.2.2.2.2.1,AV.str (ze.op z2.2.2.2.2.2.2.2.2.2.2.1),AV.int .i64 (ze.v z2.2.2.2.2.2.2.2.2.2.2.1).1,AV.int .i64 (ze.v z2.2.2.2.2.2.2.2.2.2.2.1).2.1,AV.str (ze.v z2.2.2.2.2.2.2.2.2.2.2.1).2.2,
  AV.str (ze.s z2.2.2.2.2.2.2.2.2.2.2.1),AV.sl Sh.expr (ze.l z2.2.2.2.2.2.2.2.2.2.2.1),AV.str z2.2.2.2.2.2.2.2.2.2.2.2.1],AV.bool (decide (a0≤8))]) []) (Tr.re (AV.tup [AV.str (a5++s8),AV.agg [AV.str z2.1,AV.str z2.2.1,AV.str z2.2.2.1,AV.nils,AV.nils,AV.str z2.2.2.2.1,AV.nils,AV.nils,AV.str z2.2.2.2.2.1,AV.int .i64 z2.2.2.2.2.2.1,AV.int .i64 z2.2.2.2.2.2.2.1,
  AV.str z2.2.2.2.2.2.2.2.1,AV.str z2.2.2.2.2.2.2.2.2.1,AV.nils,AV.nils,AV.sl (Sh.str.pr Sh.expr) z2.2.2.2.2.2.2.2.2.2.1,AV.str (ze.op z2.2.2.2.2.2.2.2.2.2.2.1),AV.int .i64 (ze.v z2.2.2.2.2.2.2.2.2.2.2.1).1,AV.int .i64 (ze.v z2.2.2.2.2.2.2.2.2.2.2.1).2.1,AV.str (ze.v z2.2.2.2.2.2.2.2.2.2.2.1).2.2,
  AV.str (ze.s z2.2.2.2.2.2.2.2.2.2.2.1),AV.sl Sh.expr (ze.l z2.2.2.2.2.2.2.2.2.2.2.1),AV.str z2.2.2.2.2.2.2.2.2.2.2.2.1],AV.kb false]) [])) (Tr.re (AV.tup [AV.str (a5++s8),AV.agg [AV.str z2.1,AV.str z2.2.1,AV.str z2.2.2.1,AV.nils,AV.nils,AV.str z2.2.2.2.1,AV.nils,AV.nils,AV.str z2.2.2.2.2.1,AV.int .i64 z2.2.2.2.2.2.1,AV.int .i64 z2.2.2.2.2.2.2.1,
  AV.str z2.2.2.2.2.2.2.2.1,AV.str z2.2.2.2.2.2.2.2.2.1,AV.nils,AV.nils,AV.sl (Sh.str.pr Sh.expr) z2.2.2.2.2.2.2.2.2.2.1,AV.str (ze.op z2.2.2.2.2.2.2.2.2.2.2.1),AV.int .i64 (ze.v z2.2.2.2.2.2.2.2.2.2.2.1).1,AV.int .i64 (ze.v z2.2.2.2.2.2.2.2.2.2.2.1).2.1,AV.str (ze.v z2.2.2.2.2.2.2.2.2.2.2.1).2.2,AV.str (ze.s z2.2.2.2.2.2.2.2.2.2.2.1),
  AV.sl Sh.expr (ze.l z2.2.2.2.2.2.2.2.2.2.2.1),AV.str z2.2.2.2.2.2.2.2.2.2.2.2.1],AV.kb false]) []))))))
def zI0 (s8:TS) (b9:Sem Sh.bool) (s14:List UInt8) (i15:Int) (z0:zj cpS) (z1:zj zce) (z2:zj zIH):Tr (zrx ⊕ Raw):=
 let a0:=(↑(List.length z0.1.2.2.2.2.2.2.2.2.2.2.1):Int)
 let a1:=inB i15 (List.length z0.1.2.2.2.2.2.2.2.2.2.2.1)
 let a2:=List.getD z0.1.2.2.2.2.2.2.2.2.2.2.1 i15.toNat (zl zan)
 let a3:=[85,80,68,65,84,69,32]++z0.1.2.1
 let a4:=a3++[32,83,69,84,32]
 let a5:=a4++s14
 zFY s8 b9 s14 i15 z0 z1 z2 a0 a1 a2 a3 a4 a5
theorem zQ0 (x0:Sem zu):run zlA 0 zFF (Func.results Tryz.f78).toList 400 (zq Tryz.f78) (zp (Func.ntmps Tryz.f78) [zx zu x0] [])=(zMw x0).map (lf Tryz.f78 zGp):=by kernel_rfl
def zOz:zrx→Tr (zrx ⊕ Raw)
 | .h15 s12 i13 z0 z1 z2=>zH1 s12 i13 z0 z1 z2
 | .h27 s8 b9 s14 i15 z0 z1 z2=>zI0 s8 b9 s14 i15 z0 z1 z2
theorem zSd:∀ s,run zlA 0 zFF (Func.results Tryz.f78).toList 400 (zA Tryz.f78 (zGp s).1) (zGp s).2=(zOz s).map (lf Tryz.f78 zGp)
 | .h15 s12 i13 z0 z1 z2=>by kernel_rfl
 | .h27 s8 b9 s14 i15 z0 z1 z2=>by kernel_rfl
def zxQ (x0:Sem zu):Option (zo (List.map some [Sh.str,zu,Sh.bool])):=zaj [Sh.str,zu,Sh.bool] zOz 100000000 (zMw x0)
def zww (x0:Sem zu):Bool:=(zxQ x0).isSome
def zoE (x0:Sem zu):Sem Sh.str×Sem zu×Sem Sh.bool:=(fun r:zo (List.map some [Sh.str,zu,Sh.bool])=>(r.1,r.2.1,r.2.2.1)) ((zxQ x0).getD (zad [Sh.str,zu,Sh.bool]))
def zUj:zJ:=zG [zu] [Sh.str,zu,Sh.bool] (fun x=>zww x.1) fun x=>((zoE x.1).1,(zoE x.1).2.1,(zoE x.1).2.2,())
theorem zMa:FOk zlA.P zlA.gl 78 zUj:=zae (ks:=[zu]) (outs:=[Sh.str,zu,Sh.bool]) (keep:=zFF) (gas:=400) (n:=100000000) (e:=zGp) (t:=zOz) (i:=fun x=>zMw x.1) ztE zs8 zUC (fun x=>zQ0 x.1) zSd (fun _=>by kernel_rfl) (fun _=>by kernel_rfl)

def znA:Env:=(zlA.add 78 zUj)
theorem zte:zi znA:=(zi.addS ztE (zB.refl zlA) zMa)
theorem ztj:znA.P.follows .mixedOrders=true:=(zm zs8 _ _)
end
open Go Go.Proofs
noncomputable section
set_option maxHeartbeats 4000000

abbrev zK8:Nat→zQ:=fun _=>{ }
theorem zUd:zF znA.P 39 Tryz.f39 1:=by refine ⟨?_,?_,?_,?_⟩ <;> kernel_rfl
def zV0 (x0:Sem zu) (a0:Sem Sh.str×Sem (Sh.str.pr (Sh.str.pr (Sh.str.sl.pr (zh.sl.pr (Sh.str.pr (Sh.str.sl.pr (zaT.sl.pr (Sh.expr.pr (zf.sl.pr (zan.sl.pr (Sh.expr.pr Sh.str)))))))))))) (a1:Sem Sh.str×Sem zu×Sem Sh.bool) (a2:Bool) (a3:Bool) (a4:Sem Sh.str×Sem (Sh.str.pr (Sh.str.pr (Sh.str.sl.pr (zh.sl.pr (Sh.str.pr (Sh.str.sl.pr (zaT.sl.pr (Sh.expr.pr (zf.sl.pr (zan.sl.pr (Sh.expr.pr Sh.str)))))))))))) (a5:Sem zt.sl×Sem Sh.bool):Tr (Empty ⊕ Raw):=
 Tr.chk (zww a0)
 (Tr.chk (bif a2 then true else zcX x0.2.1&&bif a3 then true else zBc a4 a0)
  (Tr.br (bif a2 then true else bif a3 then true else !zDA a4 a0) (Tr.re (AV.tup [AV.str [],AV.kb false]) []) (Tr.chk (zyv a1.1) (Tr.br (!a5.2) (Tr.re (AV.tup [AV.str [],AV.kb false]) []) (Tr.re (AV.tup [AV.str a1.1,AV.kb true]) [])))))
def zMJ (x0:Sem zu):Tr (Empty ⊕ Raw):=
 let a0:=(x0.1,x0.2.1,x0.2.2.1,x0.2.2.2.1,x0.2.2.2.2.1,x0.2.2.2.2.2.1,x0.2.2.2.2.2.2.1,x0.2.2.2.2.2.2.2.1,zz x0.2.2.2.2.2.2.2.2.1,x0.2.2.2.2.2.2.2.2.2.1,x0.2.2.2.2.2.2.2.2.2.2.1,zz x0.2.2.2.2.2.2.2.2.2.2.2.1,x0.2.2.2.2.2.2.2.2.2.2.2.2)
 let a1:=zoE a0
 let a2 := !a1.2.2
 let a3 := !zdT x0.2.1
 let a4:=(a1.2.1.1,a1.2.1.2.1,a1.2.1.2.2.1,a1.2.1.2.2.2.1,a1.2.1.2.2.2.2.1,a1.2.1.2.2.2.2.2.1,a1.2.1.2.2.2.2.2.2.1,a1.2.1.2.2.2.2.2.2.2.1,zz a1.2.1.2.2.2.2.2.2.2.2.1,a1.2.1.2.2.2.2.2.2.2.2.2.1,a1.2.1.2.2.2.2.2.2.2.2.2.2.1,zz a1.2.1.2.2.2.2.2.2.2.2.2.2.2.1,a1.2.1.2.2.2.2.2.2.2.2.2.2.2.2)
 let a5:=znD a1.1
 zV0 x0 a0 a1 a2 a3 a4 a5
theorem zTh (x0:Sem zu):run znA 0 zK8 (Func.results Tryz.f39).toList 400 (zq Tryz.f39) (zp (Func.ntmps Tryz.f39) [zx zu x0] [])=(zMJ x0).map (lf Tryz.f39 e0):=by kernel_rfl
def zBp (x0:Sem zu):Option (zo (List.map some [Sh.str,Sh.bool])):=zaj [Sh.str,Sh.bool] t0 100000000 (zMJ x0)
def zh9 (x0:Sem zu):Bool:=(zBp x0).isSome
def ziA (x0:Sem zu):Sem Sh.str×Sem Sh.bool:=(fun r:zo (List.map some [Sh.str,Sh.bool])=>(r.1,r.2.1)) ((zBp x0).getD (zad [Sh.str,Sh.bool]))
def zP4:zJ:=zG [zu] [Sh.str,Sh.bool] (fun x=>zh9 x.1) fun x=>((ziA x.1).1,(ziA x.1).2,())
theorem zNV:FOk znA.P znA.gl 39 zP4:=zae (ks:=[zu]) (outs:=[Sh.str,Sh.bool]) (keep:=zK8) (gas:=400) (n:=100000000) (e:=e0) (t:=t0) (i:=fun x=>zMJ x.1) zte ztj zUd (fun x=>zTh x.1) (on0 _ _ _ _ _) (fun _=>by kernel_rfl) (fun _=>by kernel_rfl)

def zlb:Env:=(znA.add 39 zP4)
theorem ztn:zi zlb:=(zi.addS zte (zB.refl znA) zNV)
theorem zsh:zlb.P.follows .mixedOrders=true:=(zm ztj _ _)
end
open Go

theorem zfm.cells {C:Ctx} {w:World} {U:Nat→Prop} {ρ:Nat→Option Value} {hp:Nat→AO} {k:Nat} {cs cs':List AV} (hH:zfm C w U ρ hp) (hk:hp k=.box cs)
  (hr:∀ vals,RvL w U ρ cs vals→RvL w U ρ cs' vals):zfm C w U ρ (fun j=>if j=k then .box cs' else hp j):=by
 have hown:∀ id b,zW ρ id (if id=k then .box cs' else hp id) b→zW ρ id (hp id) b:=by
  intro id b ho
  by_cases hid:id=k
  ·subst hid
   rw [if_pos rfl] at ho
   rw [hk]
   obtain ⟨_,v,hv,hb⟩:=ho
   exact ⟨rfl,v,hv,hb⟩
  ·rw [if_neg hid] at ho; exact ho
 refine ⟨fun id=>?_,fun id1 id2 b o1 o2=>hH.inj id1 id2 b (hown _ _ o1) (hown _ _ o2),fun id b o=>hH.blk id b (hown _ _ o)⟩
 by_cases hid:id=k
 ·subst hid
  have h0:=hH.ob id
  rw [hk] at h0
  obtain ⟨b,T,vals,h1,h2,h3,h4,h5⟩:=h0
  simp only [if_true]
  exact ⟨b,T,vals,h1,h2,h3,hr _ h4,h5⟩
 ·simp only [if_neg hid]
  exact hH.ob id

def za4 (ps qs:List CP) (y:zj ps) (z:zj qs):List AO:=.box (zcH 2 ps y)::.box (zcH (2+zat ps) qs z)::(zdA ps y++zdA qs z)

theorem zjc (ps qs:List CP) (y:zj ps) (z:zj qs):(za4 ps qs y z).length=zat ps+zat qs+2:=by
 simp [za4,zaN]

theorem zfm.box2 {C:Ctx} {w:World} {U:Nat→Prop} {ρ:Nat→Option Value} {cs ds:List AV} {os:List AO} {ps qs:List CP} {y:zj ps} {z:zj qs} (hH:zfm C w U ρ (fun j=>((AO.box cs::AO.box ds::os).getD j .dead))) (hl:os.length=zat ps+zat qs)
  (hm:za8 (zft (.box cs::.box ds::os)) 2 ps cs=some y) (hm2:za8 (zft (.box cs::.box ds::os)) (2+zat ps) qs ds=some z):zfm C w U ρ (fun j=>(za4 ps qs y z).getD j .dead):=by
 have h1:=hH.cells (k:=0) (cs:=cs) (cs':=zcH 2 ps y) rfl (fun vals h=>(zc5 ps 2 cs y vals hm h).1)
 have h2:=h1.cells (k:=1) (cs:=ds) (cs':=zcH (2+zat ps) qs z) rfl (fun vals h=>(zc5 qs _ ds z vals hm2 h).1)
 obtain ⟨b0,T0,v0,_,_,_,r0,_⟩:=hH.ob 0
 obtain ⟨b1,T1,v1,_,_,_,r1,_⟩:=hH.ob 1
 have k1:=(zc5 ps 2 cs y v0.toList hm r0).2
 have k2:=(zc5 qs _ ds z v1.toList hm2 r1).2
 have e:(fun j=>(za4 ps qs y z).getD j .dead)=fun j=>if j=1 then .box (zcH (2+zat ps) qs z) else if j=0 then .box (zcH 2 ps y) else (AO.box cs::AO.box ds::os).getD j .dead:=by
  funext j
  match j with
  | 0=>rfl
  | 1=>rfl
  | j+2=>
   rw [if_neg (by omega),if_neg (by omega)]
   simp only [za4,List.getD_cons_succ]
   by_cases hj:j < zat ps
   ·have hj':j < (zdA ps y).length:=by rw [zaN]; exact hj
    have:=k1 j _ (List.getElem?_eq_getElem hj')
    simp only [zft,Nat.add_comm 2 j,List.getD_cons_succ] at this
    rw [this,List.getD_eq_getElem?_getD,List.getElem?_append_left hj',List.getElem?_eq_getElem hj']
    rfl
   ·by_cases hj2:j < zat ps+zat qs
    ·have hj':j - zat ps < (zdA qs z).length:=by rw [zaN]; omega
     have:=k2 (j - zat ps) _ (List.getElem?_eq_getElem hj')
     rw [show 2+zat ps+(j - zat ps)=j+2 by omega] at this
     simp only [zft,List.getD_cons_succ] at this
     rw [this,List.getD_eq_getElem?_getD,List.getElem?_append_right (by rw [zaN]; omega),zaN,List.getElem?_eq_getElem hj']
     rfl
    ·rw [List.getD_eq_getElem?_getD,List.getD_eq_getElem?_getD,List.getElem?_eq_none (by simp [zaN]; omega),List.getElem?_eq_none (by omega)]
 rw [e]
 exact h2

def zpg (ps qs:List CP) (outs:List Sh) (r:AV) (h:List AO):Option (zo (outs.map some)×zj ps×zj qs):=match h with
 | .box cs::.box ds::os=>if os.length=zat ps+zat qs then match zac [] outs r,za8 (zft (.box cs::.box ds::os)) 2 ps cs,za8 (zft (.box cs::.box ds::os)) (2+zat ps) qs ds with
   | some a,some y,some z=>some (a,y,z)
   | _,_,_=>none
  else none
 | _=>none

def zLu (ps qs:List CP) (ks outs:List Sh) (ps' qs':List CP) (c:zj ps→zj qs→zo (ks.map some)→Bool) (g:zj ps→zj qs→zo (ks.map some)→zo (outs.map some)×zj ps'×zj qs'):zdS (none::none::ks.map some):=fun x h=>match x.1,x.2.1,h with
 | .ptr 0 0,.ptr 1 0,.box cs::.box ds::os=>if os.length=zat ps+zat qs then match za8 (zft (.box cs::.box ds::os)) 2 ps cs,za8 (zft (.box cs::.box ds::os)) (2+zat ps) qs ds with
   | some y,some z=>.chk (c y z x.2.2) (.ok (znO outs (g y z x.2.2).1,za4 ps' qs' (g y z x.2.2).2.1 (g y z x.2.2).2.2))
   | _,_=>.err
  else .err
 | _,_,_=>.err

def zF3 (ps qs:List CP) (ks outs:List Sh) (ps' qs':List CP) (c:zj ps→zj qs→zo (ks.map some)→Bool) (g:zj ps→zj qs→zo (ks.map some)→zo (outs.map some)×zj ps'×zj qs'):zJ:=zai (none::none::ks.map some) (zLu ps qs ks outs ps' qs' c g)

theorem zF6 {E:Env} {k:FuncId} {f:Func} {ps qs:List CP} {ks outs:List Sh} {ps' qs':List CP} {c:zj ps→zj qs→zo (ks.map some)→Bool} {g:zj ps→zj qs→zo (ks.map some)→zo (outs.map some)×zj ps'×zj qs'} (hf:zF E.P k f (ks.length+2))
  (h:∀ y z x,c y z x=true→∀ C:Ctx,(∀ id,zat ps+zat qs+2≤id→C.ρ0 id=none)→Reach E C k (zq f) (zp f.ntmps (.ptr 0 0::.ptr 1 0::avs (ks.map some) x) (za4 ps qs y z)) (fun r h=>zpg ps' qs' outs r h=some (g y z x))):
  FOk E.P E.gl k (zF3 ps qs ks outs ps' qs' c g):=by
 refine zbC (by simpa using hf) fun x h0 res hx C hC=>?_
 obtain ⟨x0,x1,x⟩:=x
 unfold zLu at hx
 simp only at hx
 split at hx
 ·rename_i cs ds os
  split at hx
  ·rename_i hos
   split at hx
   ·rename_i y z hy hz
    simp only [Tr.val] at hx
    split at hx
    ·rename_i hc
     simp only [Option.some.injEq] at hx
     subst hx
     have hR:=h y z x hc C (fun id hid=>hC id (by simpa [hos] using hid))
     intro b cs' a w U ρ h1 h2 hcn hW
     have hH:zfm C w U ρ (fun j=>((AO.box cs::AO.box ds::os).getD j .dead)):=hcn.hp
     have hcn':Cn C (zp f.ntmps (.ptr 0 0::.ptr 1 0::avs (ks.map some) x) (za4 ps qs y z)) a w U ρ:=
      ⟨hcn.tm,hH.box2 hos hy hz,fun id hid=>hcn.new id (by have hid:(za4 ps qs y z).length≤id:=hid; rw [zjc] at hid; simpa [zp,hos] using hid),hcn.df,hcn.r0⟩
     obtain ⟨e,w',fr,⟨v,r,h',U',ρ',he,hq,hrv,hH',hnew,hr0,hWd⟩,hcm,hf',hl⟩:=hR b cs' a w U ρ h1 h2 hcn' hW
     unfold zpg at hq
     split at hq
     ·rename_i cs2 ds2 os2
      split at hq
      ·rename_i hos2
       split at hq
       ·rename_i a' y' z' ha' hy' hz'
        simp only [Option.some.injEq] at hq
        refine ⟨e,w',fr,⟨v,_,_,U',ρ',he,by rw [← hq],zs1 ha' hrv,hH'.box2 hos2 hy' hz',fun id hid=>hnew id (by rw [zjc] at hid; simpa [hos2] using hid),hr0,hWd⟩,hcm,hf',hl⟩
       ·cases hq
      ·cases hq
     ·cases hq
    ·simp at hx
   ·simp at hx
  ·simp at hx
 ·simp at hx

def zBF {σ:Type} (outs:List Sh) (ps' qs':List CP) (t:σ→Tr (σ ⊕ Raw)) (n:Nat) (i:Tr (σ ⊕ Raw)):Option (zo (outs.map some)×zj ps'×zj qs'):=(zbk t n i).bind fun r=>zpg ps' qs' outs r.1 r.2

theorem zOS {σ:Type} {E:Env} {k:FuncId} {f:Func} {ps qs:List CP} {ks outs:List Sh} {ps' qs':List CP} {keep:Nat→zQ} {gas n:Nat} {e:σ→Nat×St} {t:σ→Tr (σ ⊕ Raw)} {i:zj ps→zj qs→zo (ks.map some)→Tr (σ ⊕ Raw)} {c:zj ps→zj qs→zo (ks.map some)→Bool} {g:zj ps→zj qs→zo (ks.map some)→zo (outs.map some)×zj ps'×zj qs'}
  (hE:zi E) (hm:E.P.follows .mixedOrders=true) (hf:zF E.P k f (ks.length+2)) (hgo:∀ y z x,run E (zat ps+zat qs+2) keep f.results.toList gas (zq f) (zp f.ntmps (.ptr 0 0::.ptr 1 0::avs (ks.map some) x) (za4 ps qs y z))=(i y z x).map (lf f e))
  (hon:∀ s,run E (zat ps+zat qs+2) keep f.results.toList gas (zA f (e s).1) (e s).2=(t s).map (lf f e))
  (hc:∀ y z x,c y z x=(zBF outs ps' qs' t n (i y z x)).isSome) (hg:∀ y z x,g y z x=(zBF outs ps' qs' t n (i y z x)).getD (zad outs,zdv ps',zdv qs')):FOk E.P E.gl k (zF3 ps qs ks outs ps' qs' c g):=by
 refine zF6 hf fun y z x hcx C hC=>?_
 rw [hc,Option.isSome_iff_exists] at hcx
 obtain ⟨u,hu⟩:=hcx
 rw [hg,hu]
 unfold zBF at hu
 rw [Option.bind_eq_some_iff] at hu
 obtain ⟨r,h1,h2⟩:=hu
 exact zmE (Q:=fun r h=>zpg ps' qs' outs r h=some u) hE hm hf hC (n+1) _ _ r (by rw [zkv hon (hgo y z x)]; exact h1) h2

open Go Go.Proofs
noncomputable section
set_option maxHeartbeats 4000000
abbrev zgU:List CP:=[.d .str,.d .str,.d .str,.vec .str,.nil,.d .str,.nil,.nil,.d .expr,.nil,.nil,.d .str,.d zg,.d zg,.d .str,.d .str,.nil,.d .str]

abbrev zzw:Nat→zQ:=fun j=>if j=14 then { slots:=[0,1,4] } else if j=1000000 then { prom:=[(1,some 3,.str)] } else { }
inductive zga where
 | h14 (ja0:LF) (ja1:Sem zg) (bh_0_2:Sem Sh.bool) (jb0:List UInt8) (jb1:TS) (jb2:TS) (jb5:TS) (jb8:TS) (jb9:Sem zg) (jb10:Sem zg) (jb11:TS) (jb12:TS) (jb16:TS) (jb17:Sem zg) (jb18:Sem zg) (jb19:TS) (jb20:TS) (jb22:TS)
 | h14b (b4:Sem Sh.bool) (ja0:LF) (ja1:Sem zg) (bh_0_2:Sem Sh.bool) (jb0:List UInt8) (jb1:TS) (jb2:TS) (jb5:TS) (jb8:TS) (jb9:Sem zg) (jb10:Sem zg) (jb11:TS) (jb12:TS) (jb16:TS) (jb17:Sem zg) (jb18:Sem zg) (jb19:TS) (jb20:TS) (jb22:TS) (lh_2:LS)
abbrev zxz:zga→Nat×St
 | .h14 ja0 ja1 bh_0_2 jb0 jb1 jb2 jb5 jb8 jb9 jb10 jb11 jb12 jb16 jb17 jb18 jb19 jb20 jb22=>(14,⟨tm 117 [(0,AV.ptr 0 0),(1,AV.ptr 1 0),(4,AV.kb true)],[AO.box [AV.sl zt ja0,AV.int .i64 ja1,AV.bool bh_0_2],AO.box [AV.str jb0,AV.str jb1,AV.str jb2,AV.nils,AV.nils,AV.str jb5,AV.nils,AV.nils,AV.str jb8,AV.int .i64 jb9,AV.int .i64 jb10,AV.str jb11,AV.str jb12,AV.nils,AV.nils,AV.nils,AV.str jb16,AV.int .i64 jb17,AV.int .i64 jb18,AV.str jb19,AV.str jb20,AV.nils,AV.str jb22]]⟩)
 | .h14b b4 ja0 ja1 bh_0_2 jb0 jb1 jb2 jb5 jb8 jb9 jb10 jb11 jb12 jb16 jb17 jb18 jb19 jb20 jb22 lh_2=>(14,⟨tm 117 [(0,AV.ptr 0 0),(1,AV.ptr 1 0),(4,AV.bool b4)],[AO.box [AV.sl zt ja0,AV.int .i64 ja1,AV.bool bh_0_2],AO.box [AV.str jb0,AV.str jb1,AV.str jb2,AV.vec 2,AV.nils,AV.str jb5,AV.nils,AV.nils,AV.str jb8,AV.int .i64 jb9,AV.int .i64 jb10,AV.str jb11,AV.str jb12,AV.nils,AV.nils,AV.nils,AV.str jb16,AV.int .i64 jb17,AV.int .i64 jb18,AV.str jb19,AV.str jb20,AV.nils,AV.str jb22],AO.vec Sh.str lh_2]⟩)
theorem zOJ:zF zlb.P 114 Tryz.f114 2:=by refine ⟨?_,?_,?_,?_⟩ <;> kernel_rfl
def zOu (_:zj zL) (z:zj zce) (a0:Sem zt.sl×zj [CP.d zg,CP.d Sh.bool]) (a1:Sem Sh.bool×zj zL) (a2:Sem zt.sl×zj [CP.d zg,CP.d Sh.bool]) (a3:Sem Sh.str×zj zL) (a4:Sem zt.sl×zj [CP.d zg,CP.d Sh.bool]) (_:zj zL) (a6:Sem zt.sl×zj [CP.d zg,CP.d Sh.bool]) (a7:Sem Sh.str×zj zL) (a8:Sem zt.sl×zj [CP.d zg,CP.d Sh.bool]) (a9:zj zL) (_:zj zL) (a11:Sem zt.sl×zj [CP.d zg,CP.d Sh.bool]) (a12:Sem Sh.str×zj zL) (a13:Sem zt.sl×zj [CP.d zg,CP.d Sh.bool]) (_:zj zL) (a15:Sem zt.sl×zj [CP.d zg,CP.d Sh.bool]) (a16:Sem Sh.str×zj zL) (a17:Sem zt.sl×zj [CP.d zg,CP.d Sh.bool]) (a18:Sem Sh.expr×zj zL) (_:zj zL) (a20:Sem zt.sl×zj [CP.d zg,CP.d Sh.bool]) (_:Sem Sh.str×zj zL) (a22:LS) (a23:Sem zt.sl×zj [CP.d zg,CP.d Sh.bool]) (_:zj zL) (a25:Sem zt.sl×zj [CP.d zg,CP.d Sh.bool]) (_:Sem Sh.str×zj zL) (a27:LS) (a28:Sem zt.sl×zj [CP.d zg,CP.d Sh.bool]) (a29:Sem Sh.expr×zj zL) (a30:Sem Sh.expr×zj zL) (a31:Sem Sh.bool×zj zL) (a32:Sem zt.sl×zj [CP.d zg,CP.d Sh.bool]) (a33:Sem Sh.str×zj zL) (a34:Sem zt.sl×zj [CP.d zg,CP.d Sh.bool]) (_:zj zL) (a36:Sem zt.sl×zj [CP.d zg,CP.d Sh.bool]) (a37:Sem Sh.str×zj zL) (a38:Sem zt.sl×zj [CP.d zg,CP.d Sh.bool]) (a39:zj zL) (_:zj zL) (a41:Sem zt.sl×zj [CP.d zg,CP.d Sh.bool]) (a42:Sem Sh.str×zj zL) (a43:Sem zt.sl×zj [CP.d zg,CP.d Sh.bool]) (_:zj zL) (a45:Sem zt.sl×zj [CP.d zg,CP.d Sh.bool]) (a46:Sem Sh.str×zj zL) (a47:Sem zt.sl×zj [CP.d zg,CP.d Sh.bool]) (a48:Sem Sh.expr×zj zL) (_:zj zL) (a50:Sem zt.sl×zj [CP.d zg,CP.d Sh.bool]) (_:Sem Sh.str×zj zL) (a52:LS) (a53:Sem zt.sl×zj [CP.d zg,CP.d Sh.bool]) (_:zj zL) (a55:Sem zt.sl×zj [CP.d zg,CP.d Sh.bool]) (_:Sem Sh.str×zj zL) (a57:LS) (a58:Sem zt.sl×zj [CP.d zg,CP.d Sh.bool]) (a59:Sem Sh.expr×zj zL) (a60:Sem Sh.expr×zj zL) (a61:Sem Sh.bool×zj zL) (a62:Sem zt.sl×zj [CP.d zg,CP.d Sh.bool]) (a63:Sem Sh.str×zj zL) (a64:Sem zt.sl×zj [CP.d zg,CP.d Sh.bool]) (_:zj zL) (a66:Sem zt.sl×zj [CP.d zg,CP.d Sh.bool]) (a67:Sem Sh.str×zj zL) (a68:Sem zt.sl×zj [CP.d zg,CP.d Sh.bool]) (a69:zj zL) (_:zj zL) (a71:Sem zt.sl×zj [CP.d zg,CP.d Sh.bool]) (a72:Sem Sh.str×zj zL) (a73:Sem zt.sl×zj [CP.d zg,CP.d Sh.bool]) (_:zj zL) (a75:Sem zt.sl×zj [CP.d zg,CP.d Sh.bool]) (a76:Sem Sh.str×zj zL) (a77:Sem zt.sl×zj [CP.d zg,CP.d Sh.bool]) (a78:Sem Sh.expr×zj zL) (_:zj zL) (a80:Sem zt.sl×zj [CP.d zg,CP.d Sh.bool]) (_:Sem Sh.str×zj zL) (a82:LS) (a83:Sem zt.sl×zj [CP.d zg,CP.d Sh.bool]) (_:zj zL) (a85:Sem zt.sl×zj [CP.d zg,CP.d Sh.bool]) (_:Sem Sh.str×zj zL) (a87:LS) (a88:Sem zt.sl×zj [CP.d zg,CP.d Sh.bool]) (a89:Sem Sh.expr×zj zL) (a90:Sem Sh.expr×zj zL) (a91:Sem zt.sl×zj [CP.d zg,CP.d Sh.bool]) (a92:Sem Sh.str×zj zL) (a93:Sem zt.sl×zj [CP.d zg,CP.d Sh.bool]) (_:zj zL) (a95:Sem zt.sl×zj [CP.d zg,CP.d Sh.bool]) (a96:Sem Sh.str×zj zL) (a97:Sem zt.sl×zj [CP.d zg,CP.d Sh.bool]) (a98:zj zL) (_:zj zL) (a100:Sem zt.sl×zj [CP.d zg,CP.d Sh.bool]) (a101:Sem Sh.str×zj zL) (a102:Sem zt.sl×zj [CP.d zg,CP.d Sh.bool]) (_:zj zL) (a104:Sem zt.sl×zj [CP.d zg,CP.d Sh.bool]) (a105:Sem Sh.str×zj zL) (a106:Sem zt.sl×zj [CP.d zg,CP.d Sh.bool]) (a107:Sem Sh.expr×zj zL) (_:zj zL) (a109:Sem zt.sl×zj [CP.d zg,CP.d Sh.bool]) (_:Sem Sh.str×zj zL) (a111:LS) (a112:Sem zt.sl×zj [CP.d zg,CP.d Sh.bool]) (_:zj zL) (a114:Sem zt.sl×zj [CP.d zg,CP.d Sh.bool]) (_:Sem Sh.str×zj zL) (a116:LS) (a117:Sem zt.sl×zj [CP.d zg,CP.d Sh.bool]) (a118:Sem Sh.expr×zj zL) (a119:Sem Sh.expr×zj zL):Tr (zga ⊕ Raw):=
 Tr.chk (zb7 a0 [67,79,80,89])
 (Tr.br a1.1
  (Tr.chk (zaF a2) (Tr.chk (zau a4 [70,82,79,77]) (Tr.chk (zaF a6) (Tr.br true (Tr.chk (zau a8 [40]) (Tr.to (zga.h14 a9.1 a9.2.1 a9.2.2.1 [99,111,112,121] a3.1 a7.1 z.2.2.2.1 z.2.2.2.2.1 z.2.2.2.2.2.1 z.2.2.2.2.2.2.1 z.2.2.2.2.2.2.2.1 z.2.2.2.2.2.2.2.2.1 z.2.2.2.2.2.2.2.2.2.1 z.2.2.2.2.2.2.2.2.2.2.1 z.2.2.2.2.2.2.2.2.2.2.2.1
  z.2.2.2.2.2.2.2.2.2.2.2.2.1 z.2.2.2.2.2.2.2.2.2.2.2.2.2.1 z.2.2.2.2.2.2.2.2.2.2.2.2.2.2.1))) (Tr.br false (Tr.chk (zau a8 [44]) (Tr.chk (zaF a11) (Tr.chk (zau a13 [79,78]) (Tr.chk (zaF a15) (Tr.chk (zbY a17 [67,72,69,67,75]) (Tr.re (AV.tup []) (za4 zL zgU a18.2 ([99,111,112,121],a3.1,a7.1,[],a16.1,a18.1,z.2.2.2.2.2.2.2.2.2.1,
  z.2.2.2.2.2.2.2.2.2.2.1,z.2.2.2.2.2.2.2.2.2.2.2.1,z.2.2.2.2.2.2.2.2.2.2.2.2.1,z.2.2.2.2.2.2.2.2.2.2.2.2.2.1,a12.1,())))))))) (Tr.br false (Tr.chk (zau a8 [66,89]) (Tr.chk (zaF a20) (Tr.chk (decide (a22.length≤1073741824)) (Tr.chk (zau a23 [83,85,77]) (Tr.chk (zaF a25) (Tr.chk (decide (a22.length+a27.length≤1073741824)) (Tr.chk (zbY a28 [67,72,69,67,75])
  (Tr.re (AV.tup []) (za4 zL zgU a29.2 ([99,111,112,121],a3.1,a7.1,a22++a27,z.2.2.2.1,a29.1,z.2.2.2.2.2.2.2.2.2)))))))))) (Tr.chk (zbY a8 [67,72,69,67,75]) (Tr.re (AV.tup []) (za4 zL zgU a30.2 ([99,111,112,121],a3.1,a7.1,[],z.2.2.2.1,a30.1,z.2.2.2.2.2.2.2.2.2))))))))))
  (Tr.chk (zb7 a2 [74,79,73,78]) (Tr.br a31.1 (Tr.chk (zaF a32) (Tr.chk (zau a34 [70,82,79,77]) (Tr.chk (zaF a36) (Tr.br false (Tr.chk (zau a38 [40]) (Tr.to (zga.h14 a39.1 a39.2.1 a39.2.2.1 [106,111,105,110] a33.1 a37.1 z.2.2.2.1 z.2.2.2.2.1 z.2.2.2.2.2.1 z.2.2.2.2.2.2.1 z.2.2.2.2.2.2.2.1 z.2.2.2.2.2.2.2.2.1
  z.2.2.2.2.2.2.2.2.2.1 z.2.2.2.2.2.2.2.2.2.2.1 z.2.2.2.2.2.2.2.2.2.2.2.1 z.2.2.2.2.2.2.2.2.2.2.2.2.1 z.2.2.2.2.2.2.2.2.2.2.2.2.2.1 z.2.2.2.2.2.2.2.2.2.2.2.2.2.2.1))) (Tr.br true (Tr.chk (zau a38 [44]) (Tr.chk (zaF a41) (Tr.chk (zau a43 [79,78]) (Tr.chk (zaF a45) (Tr.chk (zbY a47 [67,72,69,67,75]) (Tr.re (AV.tup []) (za4 zL zgU a48.2
  ([106,111,105,110],a33.1,a37.1,[],a46.1,a48.1,z.2.2.2.2.2.2.2.2.2.1,z.2.2.2.2.2.2.2.2.2.2.1,z.2.2.2.2.2.2.2.2.2.2.2.1,z.2.2.2.2.2.2.2.2.2.2.2.2.1,z.2.2.2.2.2.2.2.2.2.2.2.2.2.1,a42.1,())))))))) (Tr.br false (Tr.chk (zau a38 [66,89]) (Tr.chk (zaF a50) (Tr.chk (decide (a52.length≤1073741824)) (Tr.chk (zau a53 [83,85,77]) (Tr.chk (zaF a55)
  (Tr.chk (decide (a52.length+a57.length≤1073741824)) (Tr.chk (zbY a58 [67,72,69,67,75]) (Tr.re (AV.tup []) (za4 zL zgU a59.2 ([106,111,105,110],a33.1,a37.1,a52++a57,z.2.2.2.1,a59.1,z.2.2.2.2.2.2.2.2.2)))))))))) (Tr.chk (zbY a38 [67,72,69,67,75]) (Tr.re (AV.tup []) (za4 zL zgU a60.2
  ([106,111,105,110],a33.1,a37.1,[],z.2.2.2.1,a60.1,z.2.2.2.2.2.2.2.2.2)))))))))) (Tr.chk (zb7 a32 [71,82,79,85,80]) (Tr.br a61.1 (Tr.chk (zaF a62) (Tr.chk (zau a64 [70,82,79,77]) (Tr.chk (zaF a66) (Tr.br false (Tr.chk (zau a68 [40]) (Tr.to (zga.h14 a69.1 a69.2.1 a69.2.2.1 [103,114,111,117,112] a63.1 a67.1 z.2.2.2.1 z.2.2.2.2.1
  z.2.2.2.2.2.1 z.2.2.2.2.2.2.1 z.2.2.2.2.2.2.2.1 z.2.2.2.2.2.2.2.2.1 z.2.2.2.2.2.2.2.2.2.1 z.2.2.2.2.2.2.2.2.2.2.1 z.2.2.2.2.2.2.2.2.2.2.2.1 z.2.2.2.2.2.2.2.2.2.2.2.2.1 z.2.2.2.2.2.2.2.2.2.2.2.2.2.1 z.2.2.2.2.2.2.2.2.2.2.2.2.2.2.1))) (Tr.br false (Tr.chk (zau a68 [44]) (Tr.chk (zaF a71) (Tr.chk (zau a73 [79,78]) (Tr.chk (zaF a75) (Tr.chk (zbY a77 [67,72,69,67,75])
  (Tr.re (AV.tup []) (za4 zL zgU a78.2 ([103,114,111,117,112],a63.1,a67.1,[],a76.1,a78.1,z.2.2.2.2.2.2.2.2.2.1,z.2.2.2.2.2.2.2.2.2.2.1,z.2.2.2.2.2.2.2.2.2.2.2.1,z.2.2.2.2.2.2.2.2.2.2.2.2.1,z.2.2.2.2.2.2.2.2.2.2.2.2.2.1,a72.1,())))))))) (Tr.br true (Tr.chk (zau a68 [66,89]) (Tr.chk (zaF a80) (Tr.chk (decide (a82.length≤1073741824))
  (Tr.chk (zau a83 [83,85,77]) (Tr.chk (zaF a85) (Tr.chk (decide (a82.length+a87.length≤1073741824)) (Tr.chk (zbY a88 [67,72,69,67,75]) (Tr.re (AV.tup []) (za4 zL zgU a89.2 ([103,114,111,117,112],a63.1,a67.1,a82++a87,z.2.2.2.1,a89.1,z.2.2.2.2.2.2.2.2.2)))))))))) (Tr.chk (zbY a68 [67,72,69,67,75]) (Tr.re (AV.tup []) (za4 zL zgU a90.2
  ([103,114,111,117,112],a63.1,a67.1,[],z.2.2.2.1,a90.1,z.2.2.2.2.2.2.2.2.2)))))))))) (Tr.chk (zaF a91) (Tr.chk (zau a93 [70,82,79,77]) (Tr.chk (zaF a95) (Tr.br (z.1==[99,111,112,121]) (Tr.chk (zau a97 [40]) (Tr.to (zga.h14 a98.1 a98.2.1 a98.2.2.1 z.1 a92.1 a96.1 z.2.2.2.1 z.2.2.2.2.1 z.2.2.2.2.2.1 z.2.2.2.2.2.2.1 z.2.2.2.2.2.2.2.1 z.2.2.2.2.2.2.2.2.1
  z.2.2.2.2.2.2.2.2.2.1 z.2.2.2.2.2.2.2.2.2.2.1 z.2.2.2.2.2.2.2.2.2.2.2.1 z.2.2.2.2.2.2.2.2.2.2.2.2.1 z.2.2.2.2.2.2.2.2.2.2.2.2.2.1 z.2.2.2.2.2.2.2.2.2.2.2.2.2.2.1))) (Tr.br (z.1==[106,111,105,110]) (Tr.chk (zau a97 [44]) (Tr.chk (zaF a100) (Tr.chk (zau a102 [79,78]) (Tr.chk (zaF a104) (Tr.chk (zbY a106 [67,72,69,67,75]) (Tr.re (AV.tup []) (za4 zL zgU a107.2
  (z.1,a92.1,a96.1,[],a105.1,a107.1,z.2.2.2.2.2.2.2.2.2.1,z.2.2.2.2.2.2.2.2.2.2.1,z.2.2.2.2.2.2.2.2.2.2.2.1,z.2.2.2.2.2.2.2.2.2.2.2.2.1,z.2.2.2.2.2.2.2.2.2.2.2.2.2.1,a101.1,())))))))) (Tr.br (z.1==[103,114,111,117,112]) (Tr.chk (zau a97 [66,89]) (Tr.chk (zaF a109) (Tr.chk (decide (a111.length≤1073741824)) (Tr.chk (zau a112 [83,85,77]) (Tr.chk (zaF a114)
  (Tr.chk (decide (a111.length+a116.length≤1073741824)) (Tr.chk (zbY a117 [67,72,69,67,75]) (Tr.re (AV.tup []) (za4 zL zgU a118.2 (z.1,a92.1,a96.1,a111++a116,z.2.2.2.1,a118.1,z.2.2.2.2.2.2.2.2.2)))))))))) (Tr.chk (zbY a97 [67,72,69,67,75]) (Tr.re (AV.tup []) (za4 zL zgU a119.2 (z.1,a92.1,a96.1,[],z.2.2.2.1,a119.1,z.2.2.2.2.2.2.2.2.2)))))))))))))))
def zHr (y:zj zL) (z:zj zce):Tr (zga ⊕ Raw):=
 let a0:=(y.1,y.2.1,y.2.2.1,())
 let a1:=zcU a0 [67,79,80,89]
 let a2:=(a1.2.1,a1.2.2.1,a1.2.2.2.1,())
 let a3:=zaU a2
 let a4:=(a3.2.1,a3.2.2.1,a3.2.2.2.1,())
 let a5:=zaQ a4 [70,82,79,77]
 let a6:=(a5.1,a5.2.1,a5.2.2.1,())
 let a7:=zaU a6
 let a8:=(a7.2.1,a7.2.2.1,a7.2.2.2.1,())
 let a9:=zaQ a8 [40]
 let a10:=zaQ a8 [44]
 let a11:=(a10.1,a10.2.1,a10.2.2.1,())
 let a12:=zaU a11
 let a13:=(a12.2.1,a12.2.2.1,a12.2.2.2.1,())
 let a14:=zaQ a13 [79,78]
 let a15:=(a14.1,a14.2.1,a14.2.2.1,())
 let a16:=zaU a15
 let a17:=(a16.2.1,a16.2.2.1,a16.2.2.2.1,())
 let a18:=zcG a17 [67,72,69,67,75]
 let a19:=zaQ a8 [66,89]
 let a20:=(a19.1,a19.2.1,a19.2.2.1,())
 let a21:=zaU a20
 let a22:=[a21.1]
 let a23:=(a21.2.1,a21.2.2.1,a21.2.2.2.1,())
 let a24:=zaQ a23 [83,85,77]
 let a25:=(a24.1,a24.2.1,a24.2.2.1,())
 let a26:=zaU a25
 let a27:=[a26.1]
 let a28:=(a26.2.1,a26.2.2.1,a26.2.2.2.1,())
 let a29:=zcG a28 [67,72,69,67,75]
 let a30:=zcG a8 [67,72,69,67,75]
 let a31:=zcU a2 [74,79,73,78]
 let a32:=(a31.2.1,a31.2.2.1,a31.2.2.2.1,())
 let a33:=zaU a32
 let a34:=(a33.2.1,a33.2.2.1,a33.2.2.2.1,())
 let a35:=zaQ a34 [70,82,79,77]
 let a36:=(a35.1,a35.2.1,a35.2.2.1,())
 let a37:=zaU a36
 let a38:=(a37.2.1,a37.2.2.1,a37.2.2.2.1,())
 let a39:=zaQ a38 [40]
 let a40:=zaQ a38 [44]
 let a41:=(a40.1,a40.2.1,a40.2.2.1,())
 let a42:=zaU a41
 let a43:=(a42.2.1,a42.2.2.1,a42.2.2.2.1,())
 let a44:=zaQ a43 [79,78]
 let a45:=(a44.1,a44.2.1,a44.2.2.1,())
 let a46:=zaU a45
 let a47:=(a46.2.1,a46.2.2.1,a46.2.2.2.1,())
 let a48:=zcG a47 [67,72,69,67,75]
 let a49:=zaQ a38 [66,89]
 let a50:=(a49.1,a49.2.1,a49.2.2.1,())
 let a51:=zaU a50
 let a52:=[a51.1]
 let a53:=(a51.2.1,a51.2.2.1,a51.2.2.2.1,())
 let a54:=zaQ a53 [83,85,77]
 let a55:=(a54.1,a54.2.1,a54.2.2.1,())
 let a56:=zaU a55
 let a57:=[a56.1]
 let a58:=(a56.2.1,a56.2.2.1,a56.2.2.2.1,())
 let a59:=zcG a58 [67,72,69,67,75]
 let a60:=zcG a38 [67,72,69,67,75]
 let a61:=zcU a32 [71,82,79,85,80]
 let a62:=(a61.2.1,a61.2.2.1,a61.2.2.2.1,())
 let a63:=zaU a62
 let a64:=(a63.2.1,a63.2.2.1,a63.2.2.2.1,())
 let a65:=zaQ a64 [70,82,79,77]
 let a66:=(a65.1,a65.2.1,a65.2.2.1,())
 let a67:=zaU a66
 let a68:=(a67.2.1,a67.2.2.1,a67.2.2.2.1,())
 let a69:=zaQ a68 [40]
 let a70:=zaQ a68 [44]
 let a71:=(a70.1,a70.2.1,a70.2.2.1,())
 let a72:=zaU a71
 let a73:=(a72.2.1,a72.2.2.1,a72.2.2.2.1,())
 let a74:=zaQ a73 [79,78]
 let a75:=(a74.1,a74.2.1,a74.2.2.1,())
 let a76:=zaU a75
 let a77:=(a76.2.1,a76.2.2.1,a76.2.2.2.1,())
 let a78:=zcG a77 [67,72,69,67,75]
 let a79:=zaQ a68 [66,89]
 let a80:=(a79.1,a79.2.1,a79.2.2.1,())
 let a81:=zaU a80
 let a82:=[a81.1]
 let a83:=(a81.2.1,a81.2.2.1,a81.2.2.2.1,())
 let a84:=zaQ a83 [83,85,77]
 let a85:=(a84.1,a84.2.1,a84.2.2.1,())
 let a86:=zaU a85
 let a87:=[a86.1]
 let a88:=(a86.2.1,a86.2.2.1,a86.2.2.2.1,())
 let a89:=zcG a88 [67,72,69,67,75]
 let a90:=zcG a68 [67,72,69,67,75]
 let a91:=(a61.2.1,a61.2.2.1,false,())
 let a92:=zaU a91
 let a93:=(a92.2.1,a92.2.2.1,a92.2.2.2.1,())
 let a94:=zaQ a93 [70,82,79,77]
 let a95:=(a94.1,a94.2.1,a94.2.2.1,())
 let a96:=zaU a95
 let a97:=(a96.2.1,a96.2.2.1,a96.2.2.2.1,())
 let a98:=zaQ a97 [40]
 let a99:=zaQ a97 [44]
 let a100:=(a99.1,a99.2.1,a99.2.2.1,())
 let a101:=zaU a100
 let a102:=(a101.2.1,a101.2.2.1,a101.2.2.2.1,())
 let a103:=zaQ a102 [79,78]
 let a104:=(a103.1,a103.2.1,a103.2.2.1,())
 let a105:=zaU a104
 let a106:=(a105.2.1,a105.2.2.1,a105.2.2.2.1,())
 let a107:=zcG a106 [67,72,69,67,75]
 let a108:=zaQ a97 [66,89]
 let a109:=(a108.1,a108.2.1,a108.2.2.1,())
 let a110:=zaU a109
 let a111:=[a110.1]
 let a112:=(a110.2.1,a110.2.2.1,a110.2.2.2.1,())
 let a113:=zaQ a112 [83,85,77]
 let a114:=(a113.1,a113.2.1,a113.2.2.1,())
 let a115:=zaU a114
 let a116:=[a115.1]
 let a117:=(a115.2.1,a115.2.2.1,a115.2.2.2.1,())
 let a118:=zcG a117 [67,72,69,67,75]
 let a119:=zcG a97 [67,72,69,67,75]
 zOu y z a0 a1 a2 a3 a4 a5 a6 a7 a8 a9 a10 a11 a12 a13 a14 a15 a16 a17 a18 a19 a20 a21 a22 a23 a24 a25 a26 a27 a28 a29 a30 a31 a32 a33 a34 a35 a36 a37 a38 a39 a40 a41 a42 a43 a44 a45 a46 a47 a48 a49 a50 a51 a52 a53 a54 a55 a56 a57 a58 a59 a60 a61 a62 a63 a64 a65 a66 a67 a68 a69 a70 a71 a72 a73 a74 a75 a76 a77 a78 a79 a80 a81 a82 a83 a84 a85 a86 a87 a88 a89 a90 a91 a92 a93 a94 a95 a96 a97 a98 a99 a100 a101 a102 a103 a104 a105 a106 a107 a108 a109 a110 a111 a112 a113 a114 a115 a116 a117 a118 a119
def zCS (_:LF) (_:Sem zg) (bh_0_2:Sem Sh.bool) (jb0:List UInt8) (jb1:TS) (jb2:TS) (jb5:TS) (jb8:TS) (jb9:Sem zg) (jb10:Sem zg) (jb11:TS) (jb12:TS) (jb16:TS) (jb17:Sem zg) (jb18:Sem zg) (jb19:TS) (jb20:TS) (jb22:TS) (a0:Sem zt.sl×zj [CP.d zg,CP.d Sh.bool]) (_:Sem Sh.str×zj zL) (a2:LS) (a3:Sem zt.sl×zj [CP.d zg,CP.d Sh.bool]) (a4:Sem Sh.bool×zj zL) (_:zj zL) (a6:Sem zt.sl×zj [CP.d zg,CP.d Sh.bool]) (a7:Sem Sh.expr×zj zL):Tr (zga ⊕ Raw):=
 Tr.br bh_0_2
 (Tr.chk (zaF a0)
  (Tr.chk (decide (a2.length≤1073741824)) (Tr.chk (zb7 a3 [44]) (Tr.to (zga.h14b a4.1 a4.2.1 a4.2.2.1 a4.2.2.2.1 jb0 jb1 jb2 jb5 jb8 jb9 jb10 jb11 jb12 jb16 jb17 jb18 jb19 jb20 jb22 a2)))))
 (Tr.chk (zau a0 [41])
  (Tr.chk (zbY a6 [67,72,69,67,75]) (Tr.re (AV.tup []) (za4 zL zgU a7.2 (jb0,jb1,jb2,[],jb5,a7.1,jb16,jb17,jb18,jb19,jb20,jb22,())))))
def zFc (ja0:LF) (ja1:Sem zg) (bh_0_2:Sem Sh.bool) (jb0:List UInt8) (jb1:TS) (jb2:TS) (jb5:TS) (jb8:TS) (jb9:Sem zg) (jb10:Sem zg) (jb11:TS) (jb12:TS) (jb16:TS) (jb17:Sem zg) (jb18:Sem zg) (jb19:TS) (jb20:TS) (jb22:TS):Tr (zga ⊕ Raw):=
 let a0:=(ja0,ja1,bh_0_2,())
 let a1:=zaU a0
 let a2:=[a1.1]
 let a3:=(a1.2.1,a1.2.2.1,a1.2.2.2.1,())
 let a4:=zcU a3 [44]
 let a5:=zaQ a0 [41]
 let a6:=(a5.1,a5.2.1,a5.2.2.1,())
 let a7:=zcG a6 [67,72,69,67,75]
 zCS ja0 ja1 bh_0_2 jb0 jb1 jb2 jb5 jb8 jb9 jb10 jb11 jb12 jb16 jb17 jb18 jb19 jb20 jb22 a0 a1 a2 a3 a4 a5 a6 a7
def zyD (b4:Sem Sh.bool) (_:LF) (_:Sem zg) (bh_0_2:Sem Sh.bool) (jb0:List UInt8) (jb1:TS) (jb2:TS) (jb5:TS) (jb8:TS) (jb9:Sem zg) (jb10:Sem zg) (jb11:TS) (jb12:TS) (jb16:TS) (jb17:Sem zg) (jb18:Sem zg) (jb19:TS) (jb20:TS) (jb22:TS) (lh_2:LS) (a0:Sem zt.sl×zj [CP.d zg,CP.d Sh.bool]) (_:Sem Sh.str×zj zL) (a2:LS) (a3:Sem zt.sl×zj [CP.d zg,CP.d Sh.bool]) (a4:Sem Sh.bool×zj zL) (_:zj zL) (a6:Sem zt.sl×zj [CP.d zg,CP.d Sh.bool]) (a7:Sem Sh.expr×zj zL):Tr (zga ⊕ Raw):=
 Tr.br (bif b4 then bh_0_2 else false)
 (Tr.chk (zaF a0)
  (Tr.chk (decide (lh_2.length+a2.length≤1073741824)) (Tr.chk (zb7 a3 [44]) (Tr.to (zga.h14b a4.1 a4.2.1 a4.2.2.1 a4.2.2.2.1 jb0 jb1 jb2 jb5 jb8 jb9 jb10 jb11 jb12 jb16 jb17 jb18 jb19 jb20 jb22 (lh_2++a2))))))
 (Tr.chk (zau a0 [41])
  (Tr.chk (zbY a6 [67,72,69,67,75]) (Tr.re (AV.tup []) (za4 zL zgU a7.2 (jb0,jb1,jb2,lh_2,jb5,a7.1,jb16,jb17,jb18,jb19,jb20,jb22,())))))
def zCr (b4:Sem Sh.bool) (ja0:LF) (ja1:Sem zg) (bh_0_2:Sem Sh.bool) (jb0:List UInt8) (jb1:TS) (jb2:TS) (jb5:TS) (jb8:TS) (jb9:Sem zg) (jb10:Sem zg) (jb11:TS) (jb12:TS) (jb16:TS) (jb17:Sem zg) (jb18:Sem zg) (jb19:TS) (jb20:TS) (jb22:TS) (lh_2:LS):Tr (zga ⊕ Raw):=
 let a0:=(ja0,ja1,bh_0_2,())
 let a1:=zaU a0
 let a2:=[a1.1]
 let a3:=(a1.2.1,a1.2.2.1,a1.2.2.2.1,())
 let a4:=zcU a3 [44]
 let a5:=zaQ a0 [41]
 let a6:=(a5.1,a5.2.1,a5.2.2.1,())
 let a7:=zcG a6 [67,72,69,67,75]
 zyD b4 ja0 ja1 bh_0_2 jb0 jb1 jb2 jb5 jb8 jb9 jb10 jb11 jb12 jb16 jb17 jb18 jb19 jb20 jb22 lh_2 a0 a1 a2 a3 a4 a5 a6 a7
theorem zOV (y:zj zL) (z:zj zce):run zlb 2 zzw (Func.results Tryz.f114).toList 400 (zq Tryz.f114) (zp (Func.ntmps Tryz.f114) [AV.ptr 0 0,AV.ptr 1 0] (za4 zL zce y z))=(zHr y z).map (lf Tryz.f114 zxz):=by kernel_rfl
def zFP:zga→Tr (zga ⊕ Raw)
 | .h14 ja0 ja1 bh_0_2 jb0 jb1 jb2 jb5 jb8 jb9 jb10 jb11 jb12 jb16 jb17 jb18 jb19 jb20 jb22=>zFc ja0 ja1 bh_0_2 jb0 jb1 jb2 jb5 jb8 jb9 jb10 jb11 jb12 jb16 jb17 jb18 jb19 jb20 jb22
 | .h14b b4 ja0 ja1 bh_0_2 jb0 jb1 jb2 jb5 jb8 jb9 jb10 jb11 jb12 jb16 jb17 jb18 jb19 jb20 jb22 lh_2=>zCr b4 ja0 ja1 bh_0_2 jb0 jb1 jb2 jb5 jb8 jb9 jb10 jb11 jb12 jb16 jb17 jb18 jb19 jb20 jb22 lh_2
theorem zMA:∀ s,run zlb 2 zzw (Func.results Tryz.f114).toList 400 (zA Tryz.f114 (zxz s).1) (zxz s).2=(zFP s).map (lf Tryz.f114 zxz)
 | .h14 ja0 ja1 bh_0_2 jb0 jb1 jb2 jb5 jb8 jb9 jb10 jb11 jb12 jb16 jb17 jb18 jb19 jb20 jb22=>by kernel_rfl
 | .h14b b4 ja0 ja1 bh_0_2 jb0 jb1 jb2 jb5 jb8 jb9 jb10 jb11 jb12 jb16 jb17 jb18 jb19 jb20 jb22 lh_2=>by kernel_rfl
def zFI (y:zj zL) (z:zj zce):Option (zo (List.map some [])×zj zL×zj zgU):=zBF [] zL zgU zFP 100000000 (zHr y z)
def zFd (y:zj zL) (z:zj zce):Bool:=(zFI y z).isSome
def zLg (y:zj zL) (z:zj zce):zj zL×zj zgU:=(fun r:zo (List.map some [])×zj zL×zj zgU=>r.2) ((zFI y z).getD (zad [],zdv zL,zdv zgU))
def zJW:zJ:=zF3 zL zce [] [] zL zgU (fun y z _=>zFd y z) fun y z _=>((),zLg y z)
theorem zJK:FOk zlb.P zlb.gl 114 zJW:=zOS (ps:=zL) (qs:=zce) (ks:=[]) (outs:=[]) (keep:=zzw) (gas:=400) (n:=100000000) (e:=zxz) (t:=zFP) (i:=fun y z x=>zHr y z) ztn zsh zOJ (fun y z x=>zOV y z) zMA (fun _ _ _=>by kernel_rfl) (fun _ _ _=>by kernel_rfl)

def zl8:Env:=(zlb.add 114 zJW)
theorem zsQ:zi zl8:=(zi.addS ztn (zB.refl zlb) zJK)
theorem zs5:zl8.P.follows .mixedOrders=true:=(zm zsh _ _)
end
end Cad
