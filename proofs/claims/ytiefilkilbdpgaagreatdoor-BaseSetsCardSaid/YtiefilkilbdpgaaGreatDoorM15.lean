/- The document's reader: parts, passing. The document's reader: names. The document's values that are known; expressions' forms and types; the same tables. The document's order, logic; expressions that may be; the same plans. The document's texts of numbers. The document's texts of values. The document's texts of expressions. The document's reader: tokens. The document's reader: cut; names. The document's writer: creates; columns, sources. The document's writer. The document's statements: texts. The document's reader: numbers. The document's reader: atoms. The document's reader: atoms. -/
import Derived.Test.YtiefilkilbdpgaaGreatDoorM14
namespace Cad
open Go Go.Proofs
open Int (toNat)
open List (getD)
open List (length)
noncomputable section
set_option maxHeartbeats 4000000

def zd7 (x0:Sem (Sh.int IntKind.u8)):Tr (Empty ⊕ zV):=
 Tr.chk (fP x0&&bif iC x0 then true else km x0) (Tr.re (AV.bool (bif iC x0 then true else bif pJ x0 then true else x0==95)) [])
def Cg (x0:Sem (Sh.int IntKind.u8)):=zT [Sh.bool] t0 100000000 (zd7 x0)
def tn (x0:Sem (Sh.int IntKind.u8)):=(Cg x0).isSome
def GU (x0:Sem (Sh.int IntKind.u8)):=o1 (Cg x0)
def SJ:=FT [Sh.int IntKind.u8] [Sh.bool] fun x=>Cg x.1
theorem PP:FK 178 SJ:=iV.T1 (f:=Tryz.f178) (keep:=k0) (e:=e0)

abbrev Yg:=jJ [(3,[0,3,4])]
inductive tQ where
 | h3 (s0:TS) (l3:LS) (i4:Int)
abbrev zdi:tQ→Nat×St
 | .h3 s0 l3 i4=>(3,⟨tm 18 [(0,AV.str s0),(3,AV.sl Sh.str l3),(4,AV.int .i64 i4)],[]⟩)
def zd5 (x0:TS):Tr (tQ ⊕ zV):=
 Tr.to
 (tQ.h3 x0
  [[65,78,68],[79,82],[78,79,84],[73,83],[78,85,76,76],[84,82,85,69],[70,65,76,83,69],[67,82,69,65,84,69],[84,65,66,76,69],[75,69,89],[85,78,73,81,85,69],[82,69,70,69,82,69,78,67,69,83],[67,72,69,67,75],[68,82,79,80],[73,78,83,69,82,84],
  [73,78,84,79],[86,65,76,85,69,83],[85,80,68,65,84,69],[83,69,84],[87,72,69,82,69],[68,69,76,69,84,69],[70,82,79,77],[83,69,76,69,67,84],[71,82,65,78,84],[82,69,86,79,75,69],[82,69,65,68],[87,82,73,84,69],[79,78],[84,79],
  [77,73,71,82,65,84,69],[67,79,80,89],[74,79,73,78],[71,82,79,85,80],[66,89],[83,85,77],[73,78,84],[84,69,88,84],[66,79,79,76]]
  0)
def zgC:tQ→Tr (tQ ⊕ zV)
 | .h3 s0 l3 i4=>
  Tr.br (decide (i4 < (↑l3.length:Int)))
  (Tr.chk (zE i4 l3.length) (Tr.br (l3.getD i4.toNat (zj Sh.str)==s0) (Tr.re (AV.kb true) []) (Tr.to (tQ.h3 s0 l3 (IntKind.i64.wrap (i4+1))))))
  (Tr.re (AV.kb false) [])
def GV (x0:TS):=zT [Sh.bool] zgC 100000000 (zd5 x0)
def Ch (x0:TS):=(GV x0).isSome
def Oy (x0:TS):=o1 (GV x0)
def SF:=FT [Sh.str] [Sh.bool] fun x=>GV x.1
theorem PL:FK 181 SF:=iV.T1 (f:=Tryz.f181) (keep:=Yg) (e:=zdi)

abbrev M3:Nat→zX:=fun _=>{ }
theorem Yu:zA Bu.P 106 Tryz.f106 2:=aJ (by kernel_rfl)
def Mx (y:zu zJ) (x0:TS):Tr (Empty ⊕ zV):=
 let a0:=(y.1,y.2.1,y.2.2.1,())
 let a1:=mt a0 x0
 Tr.chk (jN a0 x0)
 (Tr.br a1.1 (Tr.re (AV.kb true) (bQ zJ (a1.2.1,IntKind.i64.wrap (a1.2.2.1+1),a1.2.2.2)))
  (Tr.re (AV.kb false) (bQ zJ a1.2)))
theorem Xq (y:zu zJ) (x0:TS):rn Bu 1 M3 Tryz.f106 [AV.ptr 0 0,zz Sh.str x0] (bQ zJ y)=(Mx y x0).map (lf Tryz.f106 e0):=by kernel_rfl
def I1 (y:zu zJ) (x0:TS):Option (zw (List.map some [Sh.bool])×zu zJ):=xZ [Sh.bool] zJ t0 100000000 (Mx y x0)
def aL (y:zu zJ) (x0:TS):Bool:=(I1 y x0).isSome
def aY (y:zu zJ) (x0:TS):(Sem Sh.bool)×zu zJ:=(fun r:zw (List.map some [Sh.bool])×zu zJ=>(r.1.1,r.2)) ((I1 y x0).getD (bT [Sh.bool],fH zJ))
def Sl:zD:=xM zJ [Sh.str] [Sh.bool] zJ (fun y x=>aL y x.1) fun y x=>(((aY y x.1).1,()),(aY y x.1).2)
theorem Ps:FK 106 Sl:=qi (ps:=zJ) (ks:=[Sh.str]) (outs:=[Sh.bool]) (keep:=M3) (gas:=400) (n:=100000000) (e:=e0) (t:=t0) (i:=fun y x=>Mx y x.1) iV Yu (fun y x=>Xq y x.1) (KO _ _ _ _ _) (fun _ _=>by kernel_rfl) (fun _ _=>by kernel_rfl)

abbrev ze4:=jJ [(6,[2,3,5]),(11,[2,3,6]),(16,[2,3,7]),(21,[2,3,8]),(26,[2,3,9]),(31,[2,3,10])]
inductive nt where
 | h6 (i5:Int) (z0:zu nE) (z1:zu nE)
 | h11 (i6:Int) (z0:zu nE) (z1:zu nE)
 | h16 (i7:Int) (z0:zu nE) (z1:zu nE)
 | h21 (i8:Int) (z0:zu nE) (z1:zu nE)
 | h26 (i9:Int) (z0:zu nE) (z1:zu nE)
 | h31 (i10:Int) (z0:zu nE) (z1:zu nE)
abbrev zhu:nt→Nat×St
 | .h6 i5 z0 z1=>(6,⟨tm 238 [(2,AV.ptr 0 0),(3,AV.ptr 1 0),(5,AV.int .i64 i5)],[AO.box (bb [] nE z0),AO.box (bb [] nE z1)]⟩)
 | .h11 i6 z0 z1=>(11,⟨tm 238 [(2,AV.ptr 0 0),(3,AV.ptr 1 0),(6,AV.int .i64 i6)],[AO.box (bb [] nE z0),AO.box (bb [] nE z1)]⟩)
 | .h16 i7 z0 z1=>(16,⟨tm 238 [(2,AV.ptr 0 0),(3,AV.ptr 1 0),(7,AV.int .i64 i7)],[AO.box (bb [] nE z0),AO.box (bb [] nE z1)]⟩)
 | .h21 i8 z0 z1=>(21,⟨tm 238 [(2,AV.ptr 0 0),(3,AV.ptr 1 0),(8,AV.int .i64 i8)],[AO.box (bb [] nE z0),AO.box (bb [] nE z1)]⟩)
 | .h26 i9 z0 z1=>(26,⟨tm 238 [(2,AV.ptr 0 0),(3,AV.ptr 1 0),(9,AV.int .i64 i9)],[AO.box (bb [] nE z0),AO.box (bb [] nE z1)]⟩)
 | .h31 i10 z0 z1=>(31,⟨tm 238 [(2,AV.ptr 0 0),(3,AV.ptr 1 0),(10,AV.int .i64 i10)],[AO.box (bb [] nE z0),AO.box (bb [] nE z1)]⟩)
def ziU (x0:Sem zy) (x1:Sem zy):Tr (nt ⊕ zV):=
 let a0 := !x0.1==x1.1
 let a1 := !x0.2.1==x1.2.1
 let a2 := !x0.2.2.1==x1.2.2.1
 let a3 := !x0.2.2.2.2.2.1==x1.2.2.2.2.2.1
 let a4 := !x0.2.2.2.2.2.2.2.2.2.2.2.2==x1.2.2.2.2.2.2.2.2.2.2.2.2
 let a5:=zB x0.2.2.2.2.2.2.2.2.1
 let a6:=zB x1.2.2.2.2.2.2.2.2.1
 let a7 := !fN a5 a6
 let a8:=zB x0.2.2.2.2.2.2.2.2.2.2.2.1
 let a9:=zB x1.2.2.2.2.2.2.2.2.2.2.2.1
 Tr.chk
 (bif a0 then true
 else bif a1 then true else bif a2 then true else bif a3 then true else bif a4 then true else fO a5 a6&&bif a7 then true else fO a8 a9)
 (Tr.br (bif a0 then true else bif a1 then true else bif a2 then true else bif a3 then true else bif a4 then true else bif a7 then true else !fN a8 a9)
  (Tr.re (AV.kb false) [])
  (Tr.br (bif (↑(length x0.2.2.2.1):Int) != (↑(length x1.2.2.2.1):Int) then true else bif (↑(length x0.2.2.2.2.1):Int) != (↑(length x1.2.2.2.2.1):Int) then true else bif (↑(length x0.2.2.2.2.2.2.1):Int) != (↑(length x1.2.2.2.2.2.2.1):Int) then true else bif (↑(length x0.2.2.2.2.2.2.2.1):Int) != (↑(length x1.2.2.2.2.2.2.2.1):Int) then true
  else bif (↑(length x0.2.2.2.2.2.2.2.2.2.1):Int) != (↑(length x1.2.2.2.2.2.2.2.2.2.1):Int) then true else (↑(length x0.2.2.2.2.2.2.2.2.2.2.1):Int) != (↑(length x1.2.2.2.2.2.2.2.2.2.2.1):Int)) (Tr.re (AV.kb false) []) (Tr.to (nt.h6 0 (x0,()) (x1,())))))
def zjy:nt→Tr (nt ⊕ zV)
 | .h6 i5 z0 z1=>
  let a0:=(↑(length z0.1.2.2.2.1):Int)
  Tr.br (decide (i5 < a0))
  (Tr.chk (zE i5 (length z0.1.2.2.2.1))
   (Tr.chk (zE i5 (length z1.1.2.2.2.1)) (Tr.br (!getD z0.1.2.2.2.1 i5.toNat (zj Sh.str)==getD z1.1.2.2.2.1 i5.toNat (zj Sh.str)) (Tr.re (AV.kb false) []) (Tr.to (nt.h6 (IntKind.i64.wrap (i5+1)) z0 z1)))))
  (Tr.to (nt.h11 0 z0 z1))
 | .h11 i6 z0 z1=>
  let a0:=(↑(length z0.1.2.2.2.2.1):Int)
  let a1:=getD z0.1.2.2.2.2.1 i6.toNat (zj zi)
  let a2:=getD z1.1.2.2.2.2.1 i6.toNat (zj zi)
  Tr.br (decide (i6 < a0))
  (Tr.chk (zE i6 (length z0.1.2.2.2.2.1))
   (Tr.chk (zE i6 (length z1.1.2.2.2.2.1)) (Tr.br (!(a1.1==a2.1&&(a1.2.1==a2.2.1&&(a1.2.2==a2.2.2&&true)))) (Tr.re (AV.kb false) []) (Tr.to (nt.h11 (IntKind.i64.wrap (i6+1)) z0 z1)))))
  (Tr.to (nt.h16 0 z0 z1))
 | .h16 i7 z0 z1=>
  let a0:=(↑(length z0.1.2.2.2.2.2.2.1):Int)
  Tr.br (decide (i7 < a0))
  (Tr.chk (zE i7 (length z0.1.2.2.2.2.2.2.1))
   (Tr.chk (zE i7 (length z1.1.2.2.2.2.2.2.1)) (Tr.br (!getD z0.1.2.2.2.2.2.2.1 i7.toNat (zj Sh.str)==getD z1.1.2.2.2.2.2.2.1 i7.toNat (zj Sh.str)) (Tr.re (AV.kb false) []) (Tr.to (nt.h16 (IntKind.i64.wrap (i7+1)) z0 z1)))))
  (Tr.to (nt.h21 0 z0 z1))
 | .h21 i8 z0 z1=>
  let a0:=(↑(length z0.1.2.2.2.2.2.2.2.1):Int)
  let a1:=getD z0.1.2.2.2.2.2.2.2.1 i8.toNat (zj b7)
  let a2:=getD z1.1.2.2.2.2.2.2.2.1 i8.toNat (zj b7)
  Tr.br (decide (i8 < a0))
  (Tr.chk (zE i8 (length z0.1.2.2.2.2.2.2.2.1))
   (Tr.chk (zE i8 (length z1.1.2.2.2.2.2.2.2.1)) (Tr.br (!(a1.1==a2.1&&(a1.2==a2.2&&true))) (Tr.re (AV.kb false) []) (Tr.to (nt.h21 (IntKind.i64.wrap (i8+1)) z0 z1)))))
  (Tr.to (nt.h26 0 z0 z1))
 | .h26 i9 z0 z1=>
  let a0:=(↑(length z0.1.2.2.2.2.2.2.2.2.2.1):Int)
  let a1:=getD z0.1.2.2.2.2.2.2.2.2.2.1 i9.toNat (zj zf)
  let a2:=getD z1.1.2.2.2.2.2.2.2.2.2.1 i9.toNat (zj zf)
  Tr.br (decide (i9 < a0))
  (Tr.chk (zE i9 (length z0.1.2.2.2.2.2.2.2.2.2.1))
   (Tr.chk (zE i9 (length z1.1.2.2.2.2.2.2.2.2.2.1)) (Tr.br (!(a1.1==a2.1&&(a1.2.1==a2.2.1&&(a1.2.2==a2.2.2&&true)))) (Tr.re (AV.kb false) []) (Tr.to (nt.h26 (IntKind.i64.wrap (i9+1)) z0 z1)))))
  (Tr.to (nt.h31 0 z0 z1))
 | .h31 i10 z0 z1=>
  let a0:=(↑(length z0.1.2.2.2.2.2.2.2.2.2.2.1):Int)
  let a1:=zE i10 (length z0.1.2.2.2.2.2.2.2.2.2.2.1)
  let a2:=zE i10 (length z1.1.2.2.2.2.2.2.2.2.2.2.1)
  let a3:=getD z0.1.2.2.2.2.2.2.2.2.2.2.1 i10.toNat (zj aQ)
  let a4:=getD z1.1.2.2.2.2.2.2.2.2.2.2.1 i10.toNat (zj aQ)
  let a5 := !a3.1==a4.1
  let a6:=zB a3.2
  let a7:=zB a4.2
  Tr.br (decide (i10 < a0))
  (Tr.chk (a1&&(a2&&bif a5 then true else a1&&(a2&&fO a6 a7)))
   (Tr.br (bif a5 then true else !fN a6 a7) (Tr.re (AV.kb false) []) (Tr.to (nt.h31 (IntKind.i64.wrap (i10+1)) z0 z1))))
  (Tr.re (AV.kb true) [])
def Cl (x0:Sem zy) (x1:Sem zy):=zT [Sh.bool] zjy 100000000 (ziU x0 x1)
def RQ (x0:Sem zy) (x1:Sem zy):=(Cl x0 x1).isSome
def Zf (x0:Sem zy) (x1:Sem zy):=o1 (Cl x0 x1)
def za8:=FT [zy,zy] [Sh.bool] fun x=>Cl x.1 x.2.1
theorem WE:FK 184 za8:=iV.T1 (f:=Tryz.f184) (keep:=ze4) (e:=zhu)

def yQ:=Bu.addL [(178,SJ),(181,SF),(106,Sl),(184,za8)]
theorem mL:zm yQ:=iV.addL <| fc PP <| fc PL <| fc Ps <| fc WE gW
end
noncomputable section

abbrev Ye:=jJ [(2,[0,3])]
inductive tP where
 | h2 (s0:TS) (i3:Int)
abbrev zdh:tP→Nat×St
 | .h2 s0 i3=>(2,⟨tm 28 [(0,AV.str s0),(3,AV.int .i64 i3)],[]⟩)
def zd4 (x0:TS):Tr (tP ⊕ zV):=
 Tr.to (tP.h2 x0 0)
def zgB:tP→Tr (tP ⊕ zV)
 | .h2 s0 i3=>
  let a0:=(↑(getD s0 i3.toNat 0).toNat:Int)
  let a1:=decide (1≤(↑(length s0):Int))
  let a2:=decide ((↑(length s0):Int)≤16)
  let a3:=(↑(getD s0 (toNat 0) 0).toNat:Int)
  Tr.br (decide (i3 < (↑(length s0):Int)))
  (Tr.chk (zE i3 (length s0)) (Tr.chk (tn a0) (Tr.br (!GU a0) (Tr.re (AV.kb false) []) (Tr.to (tP.h2 s0 (IntKind.i64.wrap (i3+1)))))))
  (Tr.chk (bif a1 then bif a2 then zE 0 (length s0)&&km a3 else true else true)
   (Tr.re (AV.bool (bif a1 then bif a2 then pJ a3 else false else false)) []))
def Cf (x0:TS):=zT [Sh.bool] zgB 100000000 (zd4 x0)
def tk (x0:TS):=(Cf x0).isSome
def wK (x0:TS):=o1 (Cf x0)
def SD:=FT [Sh.str] [Sh.bool] fun x=>Cf x.1
theorem PJ:FK 185 SD:=mL.T1 (f:=Tryz.f185) (keep:=Ye) (e:=zdh)

abbrev M4:Nat→zX:=fun _=>{ }
theorem Yv:zA yQ.P 108 Tryz.f108 2:=aJ (by kernel_rfl)
def My (y:zu zJ) (x0:TS):Tr (Empty ⊕ zV):=
 let a0:=(y.1,y.2.1,y.2.2.1,())
 let a1:=aY a0 x0
 Tr.chk (aL a0 x0)
 (Tr.br (!a1.1) (Tr.re (AV.tup []) [AO.box [AV.sl zp a1.2.1,AV.int .i64 a1.2.2.1,AV.kb false]])
  (Tr.re (AV.tup []) (bQ zJ a1.2)))
theorem Xr (y:zu zJ) (x0:TS):rn yQ 1 M4 Tryz.f108 [AV.ptr 0 0,zz Sh.str x0] (bQ zJ y)=(My y x0).map (lf Tryz.f108 e0):=by kernel_rfl
def IZ (y:zu zJ) (x0:TS):Option (zw (List.map some [])×zu zJ):=xZ [] zJ t0 100000000 (My y x0)
def zK (y:zu zJ) (x0:TS):Bool:=(IZ y x0).isSome
def zU (y:zu zJ) (x0:TS):zu zJ:=(fun r:zw (List.map some [])×zu zJ=>r.2) ((IZ y x0).getD (bT [],fH zJ))
def Sm:zD:=xM zJ [Sh.str] [] zJ (fun y x=>zK y x.1) fun y x=>((),zU y x.1)
theorem Pt:FK 108 Sm:=qi (ps:=zJ) (ks:=[Sh.str]) (outs:=[]) (keep:=M4) (gas:=400) (n:=100000000) (e:=e0) (t:=t0) (i:=fun y x=>My y x.1) mL Yv (fun y x=>Xr y x.1) (KO _ _ _ _ _) (fun _ _=>by kernel_rfl) (fun _ _=>by kernel_rfl)

abbrev M5:Nat→zX:=fun _=>{ }
theorem Yx:zA yQ.P 109 Tryz.f109 1:=aJ (by kernel_rfl)
def MA (y:zu zJ):Tr (Empty ⊕ zV):=
 let a0:=decide (y.2.1 < (↑(length y.1):Int))
 let a1:=zE y.2.1 (length y.1)
 let a2:=getD y.1 (toNat y.2.1) (zj zp)
 let a3:=a2.1==1
 let a4:=IntKind.i64.wrap (y.2.1+1)
 let a5:=IntKind.i64.wrap (a4 - 1)
 let a6:=getD y.1 a5.toNat (zj zp)
 Tr.chk (bif a0 then a1&&bif a3 then a1&&Ch a2.2 else true else true)
 (Tr.br (bif a0 then bif a3 then !Oy a2.2 else false else false)
  (Tr.chk (zE a5 (length y.1)) (Tr.re (AV.str a6.2) (bQ zJ (y.1,a4,y.2.2))))
  (Tr.re (AV.str []) [AO.box [AV.sl zp y.1,AV.int .i64 y.2.1,AV.kb false]]))
theorem Xt (y:zu zJ):rn yQ 1 M5 Tryz.f109 [AV.ptr 0 0] (bQ zJ y)=(MA y).map (lf Tryz.f109 e0):=by kernel_rfl
def I0 (y:zu zJ):Option (zw (List.map some [Sh.str])×zu zJ):=xZ [Sh.str] zJ t0 100000000 (MA y)
def ac (y:zu zJ):Bool:=(I0 y).isSome
def aH (y:zu zJ):(Sem Sh.str)×zu zJ:=(fun r:zw (List.map some [Sh.str])×zu zJ=>(r.1.1,r.2)) ((I0 y).getD (bT [Sh.str],fH zJ))
def So:zD:=xM zJ [] [Sh.str] zJ (fun y _=>ac y) fun y _=>(((aH y).1,()),(aH y).2)
theorem Pv:FK 109 So:=qi (ps:=zJ) (ks:=[]) (outs:=[Sh.str]) (keep:=M5) (gas:=400) (n:=100000000) (e:=e0) (t:=t0) (i:=fun y x=>MA y) mL Yx (fun y x=>Xt y) (KO _ _ _ _ _) (fun _ _=>by kernel_rfl) (fun _ _=>by kernel_rfl)

def yR:=yQ.addL [(185,SD),(108,Sm),(109,So)]
theorem iO:zm yR:=mL.addL <| fc PJ <| fc Pt <| fc Pv gW
end
noncomputable section

def T9 (x0:Sem zf):Tr (Empty ⊕ zV):=
 Tr.chk (mn x0)
 (Tr.br (wn x0) (Tr.re (AV.agg [AV.int .i64 x0.1,AV.int .i64 x0.2.1,AV.str x0.2.2]) [])
  (Tr.re (AV.agg [AV.int .i64 0,AV.int .i64 0,AV.str []]) []))
def B5 (x0:Sem zf):=zT [zf] t0 100000000 (T9 x0)
def pE (x0:Sem zf):=(B5 x0).isSome
def eA (x0:Sem zf):=o1 (B5 x0)
def Sj:=FT [zf] [zf] fun x=>B5 x.1
theorem Pq:FK 124 Sj:=iO.T1 (f:=Tryz.f124) (keep:=k0) (e:=e0)

def zdY (x0:Sem zf) (x1:Sem Sh.bool):Tr (Empty ⊕ zV):=
 Tr.chk (kl x1) (Tr.re (AV.bool (x0.1==(aK x1).1&&(x0.2.1==(aK x1).2.1&&(x0.2.2==(aK x1).2.2&&true)))) [])
def Oe (x0:Sem zf) (x1:Sem Sh.bool):=zT [Sh.bool] t0 100000000 (zdY x0 x1)
def lB (x0:Sem zf) (x1:Sem Sh.bool):=(Oe x0 x1).isSome
def oC (x0:Sem zf) (x1:Sem Sh.bool):=o1 (Oe x0 x1)
def Sg:=FT [zf,Sh.bool] [Sh.bool] fun x=>Oe x.1 x.2.1
theorem Po:FK 122 Sg:=iO.T1 (f:=Tryz.f122) (keep:=k0) (e:=e0)

def Br (g:Sem Sh.expr→Sem zg→Sem Sh.bool) (c:Sem Sh.expr→Sem zg→Bool):bf:=yR.add 244 (zC [Sh.expr,zg] [Sh.bool] (fun x=>c x.1 x.2.1) fun x=>(g x.1 x.2.1,()))
theorem FI {g:Sem Sh.expr→Sem zg→Sem Sh.bool} {c:Sem Sh.expr→Sem zg→Bool} (hg:FK 244 (zC [Sh.expr,zg] [Sh.bool] (fun x=>c x.1 x.2.1) fun x=>(g x.1 x.2.1,()))):zm (Br g c):=iO.add hg
abbrev Nc:Nat→zX:=fun _=>{ }
theorem YG (g:Sem Sh.expr→Sem zg→Sem Sh.bool) (c:Sem Sh.expr→Sem zg→Bool):zA (Br g c).P 244 Tryz.f244 2:=aJ (by kernel_rfl)
def D8 (g:Sem Sh.expr→Sem zg→Sem Sh.bool) (c:Sem Sh.expr→Sem zg→Bool) (x0:Sem Sh.expr) (x1:Sem zg):Tr (Empty ⊕ zV):=
 let a0:=(↑(ze.l x0).length:Int)==0
 let a1:=(ze.v x0).1==0&&((ze.v x0).2.1==0&&((ze.v x0).2.2==[]&&true))
 let a2:=(↑(ze.l x0).length:Int)==1
 let a3:=zE 0 (ze.l x0).length
 let a4:=zB ((ze.l x0).getD (toNat 0) (zj Sh.expr))
 let a5:=IntKind.i64.wrap (x1 - 1)
 let a6:=c a4 a5
 let a7:=g a4 a5
 let a8:=(↑(ze.l x0).length:Int)==2
 let a9:=zB ((ze.l x0).getD (toNat 1) (zj Sh.expr))
 Tr.br (x1==0) (Tr.re (AV.kb false) [])
 (Tr.br (ze.op x0==[108,105,116])
  (Tr.chk (mn (ze.v x0)) (Tr.re (AV.bool (bif wn (ze.v x0) then bif ze.s x0==[] then a0 else false else false)) []))
  (Tr.br (ze.op x0==[99,111,108]) (Tr.chk (bif a1 then tk (ze.s x0)&&bif wK (ze.s x0) then Ch (ze.s x0) else true else true) (Tr.re (AV.bool (bif a1 then bif wK (ze.s x0) then bif !Oy (ze.s x0) then a0 else false else false else false)) [])) (Tr.br (bif ze.op x0==[110,111,116] then true else ze.op x0==[110,117,108,108])
  (Tr.chk (bif a1 then bif ze.s x0==[] then bif a2 then a3&&a6 else true else true else true) (Tr.re (AV.bool (bif a1 then bif ze.s x0==[] then bif a2 then a7 else false else false else false)) [])) (Tr.chk (On (ze.op x0)) (Tr.br (UQ (ze.op x0)) (Tr.chk
  (bif a1 then bif ze.s x0==[] then bif a8 then a3&&(a6&&bif a7 then zE 1 (ze.l x0).length&&c a9 a5 else true) else true else true else true) (Tr.re (AV.bool (bif a1 then bif ze.s x0==[] then bif a8 then bif a7 then g a9 a5 else false else false else false else false)) [])) (Tr.re (AV.kb false) []))))))
theorem XD (g:Sem Sh.expr→Sem zg→Sem Sh.bool) (c:Sem Sh.expr→Sem zg→Bool) (x0:Sem Sh.expr) (x1:Sem zg):rn (Br g c) 0 Nc Tryz.f244 [zz Sh.expr x0,zz zg x1] []=(D8 g c x0 x1).map (lf Tryz.f244 e0):=by kernel_rfl
def jz (o:Option (zw (List.map some [Sh.bool]))):Sem Sh.bool:=(fun r:zw (List.map some [Sh.bool])=>r.1) (o.getD (bT [Sh.bool]))
def RN (g:Sem Sh.expr→Sem zg→Sem Sh.bool) (c:Sem Sh.expr→Sem zg→Bool) (x0:Sem Sh.expr) (x1:Sem zg):Option (zw (List.map some [Sh.bool])):=zT [Sh.bool] t0 100000000 (D8 g c x0 x1)
def ec:Nat→Sem Sh.expr→Sem zg→Option (zw (List.map some [Sh.bool]))
 | 0=>fun _ _=>none
 | n+1=>RN (fun x0 x1=>jz (ec n x0 x1)) fun x0 x1=>(ec n x0 x1).isSome
theorem MX:zA yR.P 244 Tryz.f244 2:=aJ (by kernel_rfl)
theorem C5:∀ n,FK 244 (zC [Sh.expr,zg] [Sh.bool] (fun x=>(ec n x.1 x.2.1).isSome) fun x=>(jz (ec n x.1 x.2.1),()))
 | 0=>cP ⟨Tryz.f244,MX.1,MX.2.1,MX.2.2.1⟩ (fun _=>rfl)
 | n+1=>gX (E:=Br (fun x0 x1=>jz (ec n x0 x1)) (fun x0 x1=>(ec n x0 x1).isSome)) (ks:=[Sh.expr,zg]) (outs:=[Sh.bool]) (keep:=Nc) (gas:=400) (n:=100000000) (e:=e0) (t:=t0) (i:=fun x=>D8 (fun x0 x1=>jz (ec n x0 x1)) (fun x0 x1=>(ec n x0 x1).isSome) x.1 x.2.1) (FI (C5 n)) (YG _ _) (fun x=>XD _ _ x.1 x.2.1) (KO _ _ _ _ _) (fun _=>by kernel_rfl) (fun _=>by kernel_rfl)
def IN (x0:Sem Sh.expr) (x1:Sem zg):Option (zw (List.map some [Sh.bool])):=ec 16 x0 x1
def B7 (x0:Sem Sh.expr) (x1:Sem zg):Bool:=(IN x0 x1).isSome
def GH (x0:Sem Sh.expr) (x1:Sem zg):Sem Sh.bool:=jz (IN x0 x1)
def SO:zD:=zC [Sh.expr,zg] [Sh.bool] (fun x=>B7 x.1 x.2.1) fun x=>(GH x.1 x.2.1,())
theorem PT:FK 244 SO:=C5 16

def DG (g:Sem Sh.expr→Sem (Sh.sl zi)→Sem zg×Sem zg) (c:Sem Sh.expr→Sem (Sh.sl zi)→Bool):bf:=yR.add 187 (zC [Sh.expr,Sh.sl zi] [zg,zg] (fun x=>c x.1 x.2.1) fun x=>((g x.1 x.2.1).1,(g x.1 x.2.1).2,()))
theorem JN {g:Sem Sh.expr→Sem (Sh.sl zi)→Sem zg×Sem zg} {c:Sem Sh.expr→Sem (Sh.sl zi)→Bool} (hg:FK 187 (zC [Sh.expr,Sh.sl zi] [zg,zg] (fun x=>c x.1 x.2.1) fun x=>((g x.1 x.2.1).1,(g x.1 x.2.1).2,()))):zm (DG g c):=iO.add hg
abbrev Nn:Nat→zX:=fun j=>if j=5 then { slots:=[1,2,6] } else { }
inductive Fr where
 | h5 (l1:LC) (i6:Int) (z0:zu [CP.d Sh.expr])
abbrev LB:Fr→Nat×St
 | .h5 l1 i6 z0=>(5,⟨tm 116 [(1,AV.sl zi l1),(2,AV.ptr 0 0),(6,AV.int .i64 i6)],[AO.box (bb [] [CP.d Sh.expr] z0)]⟩)
theorem zfX (g:Sem Sh.expr→Sem zi.sl→Sem zg×Sem zg) (c:Sem Sh.expr→Sem zi.sl→Bool):zA (DG g c).P 187 Tryz.f187 2:=aJ (by kernel_rfl)
def Rl (g:Sem Sh.expr→Sem zi.sl→Sem zg×Sem zg) (c:Sem Sh.expr→Sem zi.sl→Bool) (x0:Sem Sh.expr) (x1:Sem zi.sl):Tr (Fr ⊕ zV):=
 let a0:=zB ((ze.l x0).getD (toNat 0) (zj Sh.expr))
 let a1:=g a0 x1
 let a2:=zB ((ze.l x0).getD (toNat 1) (zj Sh.expr))
 let a3:=g a2 x1
 let a4:=ze.op x0==[110,117,108,108]
 let a5:=ze.op x0==[61]
 let a6:=a1.1 != 0
 let a7:=a3.1 != 0
 let a8:=ze.op x0==[60]
 let a9:=ze.op x0==[43]
 let a10:=a1.1 != 1
 let a11:=bif a7 then a3.1 != 1 else false
 let a12:=ze.op x0==[45]
 let a13:=a1.1 != 3
 let a14:=bif a7 then a3.1 != 3 else false
 let a15:=bif a6 then a10 else false
 let a16:=bif a6 then a13 else false
 Tr.br (ze.op x0==[108,105,116]) (Tr.re (AV.tup [AV.int .i64 (ze.v x0).1,AV.int .i64 0]) [])
 (Tr.br (ze.op x0==[99,111,108]) (Tr.to (Fr.h5 x1 0 (x0,())))
  (Tr.chk (zE 0 (ze.l x0).length) (Tr.chk (c a0 x1) (Tr.br (a1.2 != 0) (Tr.re (AV.tup [AV.int .i64 0,AV.int .i64 a1.2]) []) (Tr.br ((↑(ze.l x0).length:Int)==2) (Tr.chk (zE 1 (ze.l x0).length) (Tr.chk (c a2 x1) (Tr.br (a3.2 != 0) (Tr.re (AV.tup [AV.int .i64 0,AV.int .i64 a3.2]) []) (Tr.br a4 (Tr.re (AV.tup [AV.int .i64 3,AV.int .i64 0]) []) (Tr.br a5
  (Tr.br (bif a6 then bif a7 then a1.1 != a3.1 else false else false) (Tr.re (AV.tup [AV.int .i64 0,AV.int .i64 5]) []) (Tr.re (AV.tup [AV.int .i64 3,AV.int .i64 0]) [])) (Tr.br a8 (Tr.br (bif a6 then bif a7 then a1.1 != a3.1 else false else false) (Tr.re (AV.tup [AV.int .i64 0,AV.int .i64 5]) []) (Tr.re (AV.tup [AV.int .i64 3,AV.int .i64 0]) [])) (Tr.br a9
  (Tr.br (bif a6 then bif a10 then true else a11 else a11) (Tr.re (AV.tup [AV.int .i64 0,AV.int .i64 5]) []) (Tr.re (AV.tup [AV.int .i64 1,AV.int .i64 0]) [])) (Tr.br a12 (Tr.br (bif a6 then bif a10 then true else a11 else a11) (Tr.re (AV.tup [AV.int .i64 0,AV.int .i64 5]) []) (Tr.re (AV.tup [AV.int .i64 1,AV.int .i64 0]) []))
  (Tr.br (bif a6 then bif a13 then true else a14 else a14) (Tr.re (AV.tup [AV.int .i64 0,AV.int .i64 5]) []) (Tr.re (AV.tup [AV.int .i64 3,AV.int .i64 0]) [])))))))))) (Tr.br a4 (Tr.re (AV.tup [AV.int .i64 3,AV.int .i64 0]) []) (Tr.br a5 (Tr.br (bif a6 then bif a6 then a1.1 != a1.1 else false else false) (Tr.re (AV.tup [AV.int .i64 0,AV.int .i64 5]) [])
  (Tr.re (AV.tup [AV.int .i64 3,AV.int .i64 0]) [])) (Tr.br a8 (Tr.br (bif a6 then bif a6 then a1.1 != a1.1 else false else false) (Tr.re (AV.tup [AV.int .i64 0,AV.int .i64 5]) []) (Tr.re (AV.tup [AV.int .i64 3,AV.int .i64 0]) [])) (Tr.br a9 (Tr.br (bif a6 then bif a10 then true else a15 else a15) (Tr.re (AV.tup [AV.int .i64 0,AV.int .i64 5]) [])
  (Tr.re (AV.tup [AV.int .i64 1,AV.int .i64 0]) [])) (Tr.br a12 (Tr.br (bif a6 then bif a10 then true else a15 else a15) (Tr.re (AV.tup [AV.int .i64 0,AV.int .i64 5]) []) (Tr.re (AV.tup [AV.int .i64 1,AV.int .i64 0]) [])) (Tr.br (bif a6 then bif a13 then true else a16 else a16) (Tr.re (AV.tup [AV.int .i64 0,AV.int .i64 5]) []) (Tr.re (AV.tup [AV.int .i64 3,AV.int .i64 0]) []))))))))))))
theorem zdQ (g:Sem Sh.expr→Sem zi.sl→Sem zg×Sem zg) (c:Sem Sh.expr→Sem zi.sl→Bool) (x0:Sem Sh.expr) (x1:Sem zi.sl):rn (DG g c) 0 Nn Tryz.f187 [zz Sh.expr x0,zz zi.sl x1] []=(Rl g c x0 x1).map (lf Tryz.f187 LB):=by kernel_rfl
def R3 (_:Sem Sh.expr→Sem zi.sl→Sem zg×Sem zg) (_:Sem Sh.expr→Sem zi.sl→Bool):Fr→Tr (Fr ⊕ zV)
 | .h5 l1 i6 z0=>
  let a0:=l1.getD i6.toNat (zj zi)
  Tr.br (decide (i6 < (↑l1.length:Int)))
  (Tr.chk (zE i6 l1.length)
   (Tr.br (a0.1==ze.s z0.1) (Tr.chk (zE i6 l1.length) (Tr.re (AV.tup [AV.int .i64 a0.2.1,AV.int .i64 0]) [])) (Tr.to (Fr.h5 l1 (IntKind.i64.wrap (i6+1)) z0))))
  (Tr.re (AV.tup [AV.int .i64 0,AV.int .i64 4]) [])
theorem zgj (g:Sem Sh.expr→Sem zi.sl→Sem zg×Sem zg) (c:Sem Sh.expr→Sem zi.sl→Bool):∀ s,run (DG g c) 0 Nn (Func.results Tryz.f187).toList 400 (zx Tryz.f187 (LB s).1) (LB s).2=(R3 g c s).map (lf Tryz.f187 LB)
 | .h5 l1 i6 z0=>by kernel_rfl
def iA (o:Option (zw (List.map some [zg,zg]))):Sem zg×Sem zg:=(fun r:zw (List.map some [zg,zg])=>(r.1,r.2.1)) (o.getD (bT [zg,zg]))
def RM (g:Sem Sh.expr→Sem zi.sl→Sem zg×Sem zg) (c:Sem Sh.expr→Sem zi.sl→Bool) (x0:Sem Sh.expr) (x1:Sem zi.sl):Option (zw (List.map some [zg,zg])):=zT [zg,zg] (R3 g c) 100000000 (Rl g c x0 x1)
def cW:Nat→Sem Sh.expr→Sem zi.sl→Option (zw (List.map some [zg,zg]))
 | 0=>fun _ _=>none
 | n+1=>RM (fun x0 x1=>iA (cW n x0 x1)) fun x0 x1=>(cW n x0 x1).isSome
theorem X3:zA yR.P 187 Tryz.f187 2:=aJ (by kernel_rfl)
theorem Hm:∀ n,FK 187 (zC [Sh.expr,zi.sl] [zg,zg] (fun x=>(cW n x.1 x.2.1).isSome) fun x=>((iA (cW n x.1 x.2.1)).1,(iA (cW n x.1 x.2.1)).2,()))
 | 0=>cP ⟨Tryz.f187,X3.1,X3.2.1,X3.2.2.1⟩ (fun _=>rfl)
 | n+1=>gX (E:=DG (fun x0 x1=>iA (cW n x0 x1)) (fun x0 x1=>(cW n x0 x1).isSome)) (ks:=[Sh.expr,zi.sl]) (outs:=[zg,zg]) (keep:=Nn) (gas:=400) (n:=100000000) (e:=LB) (t:=R3 (fun x0 x1=>iA (cW n x0 x1)) (fun x0 x1=>(cW n x0 x1).isSome)) (i:=fun x=>Rl (fun x0 x1=>iA (cW n x0 x1)) (fun x0 x1=>(cW n x0 x1).isSome) x.1 x.2.1) (JN (Hm n)) (zfX _ _) (fun x=>zdQ _ _ x.1 x.2.1) (zgj _ _) (fun _=>by kernel_rfl) (fun _=>by kernel_rfl)
def IM (x0:Sem Sh.expr) (x1:Sem zi.sl):Option (zw (List.map some [zg,zg])):=cW 16 x0 x1
def IL (x0:Sem Sh.expr) (x1:Sem zi.sl):Bool:=(IM x0 x1).isSome
def rg (x0:Sem Sh.expr) (x1:Sem zi.sl):Sem zg×Sem zg:=iA (IM x0 x1)
def zbd:zD:=zC [Sh.expr,zi.sl] [zg,zg] (fun x=>IL x.1 x.2.1) fun x=>((rg x.1 x.2.1).1,(rg x.1 x.2.1).2,())
theorem WJ:FK 187 zbd:=Hm 16

abbrev zeL:=jJ [(4,[2,3,5]),(9,[2,3,6]),(14,[2,3,7])]
inductive tU where
 | h4 (i5:Int) (z0:zu [CP.d zt]) (z1:zu [CP.d zt])
 | h9 (i6:Int) (z0:zu [CP.d zt]) (z1:zu [CP.d zt])
 | h14 (i7:Int) (z0:zu [CP.d zt]) (z1:zu [CP.d zt])
abbrev zhh:tU→Nat×St
 | .h4 i5 z0 z1=>(4,⟨tm 106 [(2,AV.ptr 0 0),(3,AV.ptr 1 0),(5,AV.int .i64 i5)],[AO.box (bb [] [CP.d zt] z0),AO.box (bb [] [CP.d zt] z1)]⟩)
 | .h9 i6 z0 z1=>(9,⟨tm 106 [(2,AV.ptr 0 0),(3,AV.ptr 1 0),(6,AV.int .i64 i6)],[AO.box (bb [] [CP.d zt] z0),AO.box (bb [] [CP.d zt] z1)]⟩)
 | .h14 i7 z0 z1=>(14,⟨tm 106 [(2,AV.ptr 0 0),(3,AV.ptr 1 0),(7,AV.int .i64 i7)],[AO.box (bb [] [CP.d zt] z0),AO.box (bb [] [CP.d zt] z1)]⟩)
def XT (x0:Sem zt) (x1:Sem zt):Tr (tU ⊕ zV):=
 Tr.br
 (bif !x0.1==x1.1 then true
 else
  bif x0.2.2.1 != x1.2.2.1 then true
  else bif (↑(length x0.2.1):Int) != (↑(length x1.2.1):Int) then true else bif (↑(length x0.2.2.2.1):Int) != (↑(length x1.2.2.2.1):Int) then true else (↑(length x0.2.2.2.2.1):Int) != (↑(length x1.2.2.2.2.1):Int))
 (Tr.re (AV.kb false) []) (Tr.to (tU.h4 0 (x0,()) (x1,())))
def G9:tU→Tr (tU ⊕ zV)
 | .h4 i5 z0 z1=>
  let a0:=(↑(length z0.1.2.1):Int)
  let a1:=getD z0.1.2.1 i5.toNat (zj zi)
  let a2:=getD z1.1.2.1 i5.toNat (zj zi)
  Tr.br (decide (i5 < a0))
  (Tr.chk (zE i5 (length z0.1.2.1))
   (Tr.chk (zE i5 (length z1.1.2.1)) (Tr.br (!(a1.1==a2.1&&(a1.2.1==a2.2.1&&(a1.2.2==a2.2.2&&true)))) (Tr.re (AV.kb false) []) (Tr.to (tU.h4 (IntKind.i64.wrap (i5+1)) z0 z1)))))
  (Tr.to (tU.h9 0 z0 z1))
 | .h9 i6 z0 z1=>
  let a0:=(↑(length z0.1.2.2.2.1):Int)
  Tr.br (decide (i6 < a0))
  (Tr.chk (zE i6 (length z0.1.2.2.2.1))
   (Tr.chk (zE i6 (length z1.1.2.2.2.1)) (Tr.br (getD z0.1.2.2.2.1 i6.toNat (zj zg) != getD z1.1.2.2.2.1 i6.toNat (zj zg)) (Tr.re (AV.kb false) []) (Tr.to (tU.h9 (IntKind.i64.wrap (i6+1)) z0 z1)))))
  (Tr.to (tU.h14 0 z0 z1))
 | .h14 i7 z0 z1=>
  let a0:=(↑(length z0.1.2.2.2.2.1):Int)
  let a1:=getD z0.1.2.2.2.2.1 i7.toNat (zj zp)
  let a2:=getD z1.1.2.2.2.2.1 i7.toNat (zj zp)
  let a3:=zB z0.1.2.2.2.2.2
  let a4:=zB z1.1.2.2.2.2.2
  Tr.br (decide (i7 < a0))
  (Tr.chk (zE i7 (length z0.1.2.2.2.2.1))
   (Tr.chk (zE i7 (length z1.1.2.2.2.2.1)) (Tr.br (!(a1.1==a2.1&&(a1.2==a2.2&&true))) (Tr.re (AV.kb false) []) (Tr.to (tU.h14 (IntKind.i64.wrap (i7+1)) z0 z1)))))
  (Tr.chk (fO a3 a4) (Tr.re (AV.bool (fN a3 a4)) []))
def pI (x0:Sem zt) (x1:Sem zt):=zT [Sh.bool] G9 100000000 (XT x0 x1)
def td (x0:Sem zt) (x1:Sem zt):=(pI x0 x1).isSome
def kU (x0:Sem zt) (x1:Sem zt):=o1 (pI x0 x1)
def U2:=FT [zt,zt] [Sh.bool] fun x=>pI x.1 x.2.1
theorem KZ:FK 60 U2:=iO.T1 (f:=Tryz.f60) (keep:=zeL) (e:=zhh)

def LL:=yR.addL [(124,Sj),(122,Sg),(244,SO),(187,zbd),(60,U2)]
theorem fg:zm LL:=iO.addL <| fc Pq <| fc Po <| fc PT <| fc WJ <| fc KZ gW
end
noncomputable section

def zeo (x0:Sem zf) (x1:Sem zf):Tr (Empty ⊕ zV):=
 let a0:=(eA x0).1==(eA x1).1
 let a1:=(eA x0).2.1==(eA x1).2.1
 Tr.chk (pE x0)
 (Tr.chk (pE x1)
  (Tr.br (a0&&(a1&&((eA x0).2.2==(eA x1).2.2&&true))) (Tr.re (AV.int .i64 0) []) (Tr.br (bif decide ((eA x0).1 < (eA x1).1) then true else bif a0 then bif decide ((eA x0).2.1 < (eA x1).2.1) then true else bif a1 then Op.bytesLess (eA x0).2.2 (eA x1).2.2 else false else false) (Tr.re (AV.int .i64 (-1)) []) (Tr.re (AV.int .i64 1) []))))
def wq (x0:Sem zf) (x1:Sem zf):=zT [zg] t0 100000000 (zeo x0 x1)
def Ex (x0:Sem zf) (x1:Sem zf):=(wq x0 x1).isSome
def RI (x0:Sem zf) (x1:Sem zf):=o1 (wq x0 x1)
def zaU:=FT [zf,zf] [zg] fun x=>wq x.1 x.2.1
theorem Wo:FK 67 zaU:=fg.T1 (f:=Tryz.f67) (keep:=k0) (e:=e0)

def Ui (x0:Sem zf) (x1:Sem zf):Tr (Empty ⊕ zV):=
 Tr.chk (pE x0)
 (Tr.chk (pE x1)
  (Tr.re (AV.bool (bif (eA x0).1==0 then true else bif (eA x1).1==0 then true else (eA x0).1 != (eA x1).1)) []))
def wu (x0:Sem zf) (x1:Sem zf):=zT [Sh.bool] t0 100000000 (Ui x0 x1)
def mo (x0:Sem zf) (x1:Sem zf):=(wu x0 x1).isSome
def s9 (x0:Sem zf) (x1:Sem zf):=o1 (wu x0 x1)
def S5:=FT [zf,zf] [Sh.bool] fun x=>wu x.1 x.2.1
theorem Qa:FK 246 S5:=fg.T1 (f:=Tryz.f246) (keep:=k0) (e:=e0)

def Uc (x0:Sem zf) (x1:Sem zf):Tr (Empty ⊕ zV):=
 Tr.chk (lB x0 false&&bif oC x0 false then true else lB x1 false)
 (Tr.br (bif oC x0 false then true else oC x1 false)
  (Tr.chk true (Tr.re (AV.agg [AV.int .i64 (aK false).1,AV.int .i64 (aK false).2.1,AV.str (aK false).2.2]) []))
  (Tr.chk (lB x0 true&&bif oC x0 true then lB x1 true else true) (Tr.br (bif oC x0 true then oC x1 true else false) (Tr.chk true (Tr.re (AV.agg [AV.int .i64 (aK true).1,AV.int .i64 (aK true).2.1,AV.str (aK true).2.2]) [])) (Tr.re (AV.agg [AV.int .i64 0,AV.int .i64 0,AV.str []]) []))))
def GC (x0:Sem zf) (x1:Sem zf):=zT [zf] t0 100000000 (Uc x0 x1)
def Od (x0:Sem zf) (x1:Sem zf):=(GC x0 x1).isSome
def UN (x0:Sem zf) (x1:Sem zf):=o1 (GC x0 x1)
def SS:=FT [zf,zf] [zf] fun x=>GC x.1 x.2.1
theorem PX:FK 190 SS:=fg.T1 (f:=Tryz.f190) (keep:=k0) (e:=e0)

def Ud (x0:Sem zf) (x1:Sem zf):Tr (Empty ⊕ zV):=
 Tr.chk (lB x0 true&&bif oC x0 true then true else lB x1 true)
 (Tr.br (bif oC x0 true then true else oC x1 true)
  (Tr.chk true (Tr.re (AV.agg [AV.int .i64 (aK true).1,AV.int .i64 (aK true).2.1,AV.str (aK true).2.2]) []))
  (Tr.chk (lB x0 false&&bif oC x0 false then lB x1 false else true) (Tr.br (bif oC x0 false then oC x1 false else false) (Tr.chk true (Tr.re (AV.agg [AV.int .i64 (aK false).1,AV.int .i64 (aK false).2.1,AV.str (aK false).2.2]) [])) (Tr.re (AV.agg [AV.int .i64 0,AV.int .i64 0,AV.str []]) []))))
def Oh (x0:Sem zf) (x1:Sem zf):=zT [zf] t0 100000000 (Ud x0 x1)
def UP (x0:Sem zf) (x1:Sem zf):=(Oh x0 x1).isSome
def zgr (x0:Sem zf) (x1:Sem zf):=o1 (Oh x0 x1)
def ST:=FT [zf,zf] [zf] fun x=>Oh x.1 x.2.1
theorem PY:FK 191 ST:=fg.T1 (f:=Tryz.f191) (keep:=k0) (e:=e0)

def Ub (x0:Sem zf):Tr (Empty ⊕ zV):=
 Tr.chk (lB x0 true)
 (Tr.br (oC x0 true)
  (Tr.chk true (Tr.re (AV.agg [AV.int .i64 (aK false).1,AV.int .i64 (aK false).2.1,AV.str (aK false).2.2]) []))
  (Tr.chk (lB x0 false) (Tr.br (oC x0 false) (Tr.chk true (Tr.re (AV.agg [AV.int .i64 (aK true).1,AV.int .i64 (aK true).2.1,AV.str (aK true).2.2]) [])) (Tr.re (AV.agg [AV.int .i64 0,AV.int .i64 0,AV.str []]) []))))
def GF (x0:Sem zf):=zT [zf] t0 100000000 (Ub x0)
def Og (x0:Sem zf):=(GF x0).isSome
def UO (x0:Sem zf):=o1 (GF x0)
def SR:=FT [zf] [zf] fun x=>GF x.1
theorem PW:FK 189 SR:=fg.T1 (f:=Tryz.f189) (keep:=k0) (e:=e0)

def zes (x0:Sem Sh.expr):Tr (Empty ⊕ zV):=
 let a0:=GH (zB x0) 12
 Tr.chk (B7 (zB x0) 12&&bif a0 then EB (zB x0) else true) (Tr.re (AV.bool (bif a0 then decide (IP (zB x0)≤60) else false)) [])
def GG (x0:Sem Sh.expr):=zT [Sh.bool] t0 100000000 (zes x0)
def wx (x0:Sem Sh.expr):=(GG x0).isSome
def EA (x0:Sem Sh.expr):=o1 (GG x0)
def zbc:=FT [Sh.expr] [Sh.bool] fun x=>GG x.1
theorem WI:FK 186 zbc:=fg.T1 (f:=Tryz.f186) (keep:=k0) (e:=e0)

def LM:=LL.addL [(67,zaU),(246,S5),(190,SS),(191,ST),(189,SR),(186,zbc)]
theorem uT:zm LM:=fg.addL <| fc Wo <| fc Qa <| fc PX <| fc PY <| fc PW <| fc WI <| gW
end
noncomputable section

abbrev Yl:=jJ [(2,[0,3])]
inductive x9 where
 | h2 (i0:Sem zg) (s3:List UInt8)
abbrev zdl:x9→Nat×St
 | .h2 i0 s3=>(2,⟨tm 21 [(0,AV.int .i64 i0),(3,AV.str s3)],[]⟩)
def zed (x0:Sem zg):Tr (x9 ⊕ zV):=
 Tr.to (x9.h2 x0 [])
def zgF:x9→Tr (x9 ⊕ zV)
 | .h2 i0 s3=>
  let a0:=hM [IntKind.u8.wrap (IntKind.i64.wrap (48 - IntKind.i64.wrap (Int.tmod i0 10)))]
  Tr.br (bif decide (i0 < 0) then true else s3==[])
  (Tr.chk true (Tr.chk (decide (length a0+s3.length≤1099511627776)) (Tr.chk true (Tr.to (x9.h2 (IntKind.i64.wrap (Int.tdiv i0 10)) (a0++s3))))))
  (Tr.re (AV.str s3) [])
def rb (x0:Sem zg):=zT [Sh.str] zgF 100000000 (zed x0)
def Aw (x0:Sem zg):=(rb x0).isSome
def wv (x0:Sem zg):=o1 (rb x0)
def S3:=FT [zg] [Sh.str] fun x=>rb x.1
theorem P8:FK 275 S3:=uT.T1 (f:=Tryz.f275) (keep:=Yl) (e:=zdl)

def LP:=LM.add 275 S3
theorem uU:zm LP:=uT.add P8
end
noncomputable section

abbrev Yc:=jJ [(13,[1,3,4])]
inductive tN where
 | h13 (s3:List UInt8) (i4:Int) (z0:zu [CP.d zf])
abbrev zdf:tN→Nat×St
 | .h13 s3 i4 z0=>(13,⟨tm 54 [(1,AV.ptr 0 0),(3,AV.str s3),(4,AV.int .i64 i4)],[AO.box (bb [] [CP.d zf] z0)]⟩)
def zd2 (x0:Sem zf):Tr (tN ⊕ zV):=
 let a0:=IntKind.i64.wrap (0 - x0.2.1)
 Tr.chk (mn x0)
 (Tr.br (!wn x0) (Tr.re (AV.str []) [])
  (Tr.br (x0.1==0) (Tr.re (AV.str [78,85,76,76]) []) (Tr.br (x0.1==1) (Tr.br (decide (x0.2.1 < 0)) (Tr.chk (Aw x0.2.1) (Tr.chk (decide ([45].length+length (wv x0.2.1)≤1099511627776)) (Tr.re (AV.str ([45]++wv x0.2.1)) []))) (Tr.chk (Aw a0) (Tr.re (AV.str (wv a0)) []))) (Tr.br (x0.1==2) (Tr.to (tN.h13 [39] 0 (x0,())))
  (Tr.br (x0.2.1==1) (Tr.re (AV.str [84,82,85,69]) []) (Tr.re (AV.str [70,65,76,83,69]) []))))))
def zgz:tN→Tr (tN ⊕ zV)
 | .h13 s3 i4 z0=>
  let a0:=(↑(length z0.1.2.2):Int)
  let a1:=IntKind.i64.wrap (i4+1)
  let a2:=List.take (a1.toNat - i4.toNat) (List.drop i4.toNat z0.1.2.2)
  let a3:=s3++a2
  Tr.br (decide (i4 < a0))
  (Tr.chk (decide (0≤i4)&&decide (i4≤a1)&&decide (a1≤a0))
   (Tr.chk (decide (s3.length+a2.length≤1099511627776)) (Tr.chk (zE i4 (length z0.1.2.2)) (Tr.br ((↑(getD z0.1.2.2 i4.toNat 0).toNat:Int)==39) (Tr.chk (decide (length a3+[39].length≤1099511627776)) (Tr.to (tN.h13 (a3++[39]) a1 z0))) (Tr.to (tN.h13 a3 a1 z0))))))
  (Tr.chk (decide (s3.length+[39].length≤1099511627776)) (Tr.re (AV.str (s3++[39])) []))
def B4 (x0:Sem zf):=zT [Sh.str] zgz 100000000 (zd2 x0)
def m4 (x0:Sem zf):=(B4 x0).isSome
def ra (x0:Sem zf):=o1 (B4 x0)
def SA:=FT [zf] [Sh.str] fun x=>B4 x.1
theorem PG:FK 241 SA:=uU.T1 (f:=Tryz.f241) (keep:=Yc) (e:=zdf)

def Bw:=LP.add 241 SA
theorem uW:zm Bw:=uU.add PG
end
noncomputable section

def Bq (g:Sem Sh.expr→Sem Sh.str) (c:Sem Sh.expr→Bool):bf:=Bw.add 242 (zC [Sh.expr] [Sh.str] (fun x=>c x.1) fun x=>(g x.1,()))
theorem FH {g:Sem Sh.expr→Sem Sh.str} {c:Sem Sh.expr→Bool} (hg:FK 242 (zC [Sh.expr] [Sh.str] (fun x=>c x.1) fun x=>(g x.1,()))):zm (Bq g c):=uW.add hg
abbrev Nb:Nat→zX:=fun _=>{ }
theorem YE (g:Sem Sh.expr→Sem Sh.str) (c:Sem Sh.expr→Bool):zA (Bq g c).P 242 Tryz.f242 1:=aJ (by kernel_rfl)
def MF (g:Sem Sh.expr→Sem Sh.str) (c:Sem Sh.expr→Bool) (x0:Sem Sh.expr):Tr (Empty ⊕ zV):=
 let a0:=zE 0 (ze.l x0).length
 let a1:=zB ((ze.l x0).getD (toNat 0) (zj Sh.expr))
 let a2:=c a1
 let a3:=g a1
 let a4:=[40,78,79,84,32]++a3
 let a5:=decide ([40].length+length a3≤1099511627776)
 let a6:=[40]++a3
 let a7:=zE 1 (ze.l x0).length
 let a8:=zB ((ze.l x0).getD (toNat 1) (zj Sh.expr))
 let a9:=c a8
 let a10:=a6++[32,65,78,68,32]
 let a11:=g a8
 let a12:=a10++a11
 let a13:=a6++[32,79,82,32]
 let a14:=a13++a11
 let a15:=a6++[32]
 let a16:=a15++ze.op x0
 let a17:=a16++[32]
 let a18:=a17++a11
 Tr.br (ze.op x0==[108,105,116]) (Tr.chk (m4 (ze.v x0)) (Tr.re (AV.str (ra (ze.v x0))) []))
 (Tr.br (ze.op x0==[99,111,108]) (Tr.re (AV.str (ze.s x0)) [])
  (Tr.br (ze.op x0==[110,111,116]) (Tr.chk a0 (Tr.chk a2 (Tr.chk (decide ([40,78,79,84,32].length+length a3≤1099511627776)) (Tr.chk (decide (length a4+[41].length≤1099511627776)) (Tr.re (AV.str (a4++[41])) []))))) (Tr.br (ze.op x0==[110,117,108,108]) (Tr.chk a0 (Tr.chk a2 (Tr.chk a5
  (Tr.chk (decide (length a6+[32,73,83,32,78,85,76,76,41].length≤1099511627776)) (Tr.re (AV.str (a6++[32,73,83,32,78,85,76,76,41])) []))))) (Tr.br (ze.op x0==[97,110,100]) (Tr.chk a0 (Tr.chk a2 (Tr.chk a5 (Tr.chk (decide (length a6+[32,65,78,68,32].length≤1099511627776)) (Tr.chk a7 (Tr.chk a9
  (Tr.chk (decide (length a10+length a11≤1099511627776)) (Tr.chk (decide (length a12+[41].length≤1099511627776)) (Tr.re (AV.str (a12++[41])) []))))))))) (Tr.br (ze.op x0==[111,114]) (Tr.chk a0 (Tr.chk a2 (Tr.chk a5 (Tr.chk (decide (length a6+[32,79,82,32].length≤1099511627776)) (Tr.chk a7 (Tr.chk a9
  (Tr.chk (decide (length a13+length a11≤1099511627776)) (Tr.chk (decide (length a14+[41].length≤1099511627776)) (Tr.re (AV.str (a14++[41])) []))))))))) (Tr.chk a0 (Tr.chk a2 (Tr.chk a5 (Tr.chk (decide (length a6+[32].length≤1099511627776)) (Tr.chk (decide (length a15+length (ze.op x0)≤1099511627776))
  (Tr.chk (decide (length a16+[32].length≤1099511627776)) (Tr.chk a7 (Tr.chk a9 (Tr.chk (decide (length a17+length a11≤1099511627776)) (Tr.chk (decide (length a18+[41].length≤1099511627776)) (Tr.re (AV.str (a18++[41])) []))))))))))))))))
theorem XB (g:Sem Sh.expr→Sem Sh.str) (c:Sem Sh.expr→Bool) (x0:Sem Sh.expr):rn (Bq g c) 0 Nb Tryz.f242 [zz Sh.expr x0] []=(MF g c x0).map (lf Tryz.f242 e0):=by kernel_rfl
def pG (o:Option (zw (List.map some [Sh.str]))):Sem Sh.str:=(fun r:zw (List.map some [Sh.str])=>r.1) (o.getD (bT [Sh.str]))
def RL (g:Sem Sh.expr→Sem Sh.str) (c:Sem Sh.expr→Bool) (x0:Sem Sh.expr):Option (zw (List.map some [Sh.str])):=zT [Sh.str] t0 100000000 (MF g c x0)
def iz:Nat→Sem Sh.expr→Option (zw (List.map some [Sh.str]))
 | 0=>fun _=>none
 | n+1=>RL (fun x0=>pG (iz n x0)) fun x0=>(iz n x0).isSome
theorem MW:zA Bw.P 242 Tryz.f242 1:=aJ (by kernel_rfl)
theorem C4:∀ n,FK 242 (zC [Sh.expr] [Sh.str] (fun x=>(iz n x.1).isSome) fun x=>(pG (iz n x.1),()))
 | 0=>cP ⟨Tryz.f242,MW.1,MW.2.1,MW.2.2.1⟩ (fun _=>rfl)
 | n+1=>gX (E:=Bq (fun x0=>pG (iz n x0)) (fun x0=>(iz n x0).isSome)) (ks:=[Sh.expr]) (outs:=[Sh.str]) (keep:=Nb) (gas:=400) (n:=100000000) (e:=e0) (t:=t0) (i:=fun x=>MF (fun x0=>pG (iz n x0)) (fun x0=>(iz n x0).isSome) x.1) (FH (C4 n)) (YE _ _) (fun x=>XB _ _ x.1) (KO _ _ _ _ _) (fun _=>by kernel_rfl) (fun _=>by kernel_rfl)
def IK (x0:Sem Sh.expr):Option (zw (List.map some [Sh.str])):=iz 16 x0
def ta (x0:Sem Sh.expr):Bool:=(IK x0).isSome
def rc (x0:Sem Sh.expr):Sem Sh.str:=pG (IK x0)
def SB:zD:=zC [Sh.expr] [Sh.str] (fun x=>ta x.1) fun x=>(rc x.1,())
theorem PH:FK 242 SB:=C4 16

def Bx:=Bw.add 242 SB
theorem kK:zm Bx:=uW.add PH
end
noncomputable section

abbrev Yi:=jJ [(6,[1,3])]
inductive x8 where
 | h6 (i3:Int) (z0:zu [CP.d zp])
abbrev zdk:x8→Nat×St
 | .h6 i3 z0=>(6,⟨tm 82 [(1,AV.ptr 0 0),(3,AV.int .i64 i3)],[AO.box (bb [] [CP.d zp] z0)]⟩)
def zea (x0:Sem zp):Tr (x8 ⊕ zV):=
 let a0:=(2,0,x0.2)
 Tr.br (x0.1==1) (Tr.chk (tk x0.2) (Tr.re (AV.bool (wK x0.2)) []))
 (Tr.br (x0.1==2) (Tr.to (x8.h6 0 (x0,())))
  (Tr.br (x0.1==3) (Tr.chk (mn a0) (Tr.re (AV.bool (wn a0)) [])) (Tr.br (x0.1==4) (Tr.re (AV.bool (bif x0.2==[40] then true else bif x0.2==[41] then true else bif x0.2==[44] then true else bif x0.2==[61] then true else bif x0.2==[60] then true else bif x0.2==[43] then true else bif x0.2==[45] then true else x0.2==[42])) []) (Tr.re (AV.kb false) []))))
def zgE:x8→Tr (x8 ⊕ zV)
 | .h6 i3 z0=>
  let a0:=(↑(length z0.1.2):Int)
  let a1:=(↑(getD z0.1.2 i3.toNat 0).toNat:Int)
  Tr.br (decide (i3 < a0))
  (Tr.chk (zE i3 (length z0.1.2))
   (Tr.chk (fP a1) (Tr.br (!iC a1) (Tr.re (AV.kb false) []) (Tr.to (x8.h6 (IntKind.i64.wrap (i3+1)) z0)))))
  (Tr.re (AV.bool (bif decide (1≤a0) then decide (a0≤19) else false)) [])
def GR (x0:Sem zp):=zT [Sh.bool] zgE 100000000 (zea x0)
def mr (x0:Sem zp):=(GR x0).isSome
def sj (x0:Sem zp):=o1 (GR x0)
def SN:=FT [zp] [Sh.bool] fun x=>GR x.1
theorem PS:FK 180 SN:=kK.T1 (f:=Tryz.f180) (keep:=Yi) (e:=zdk)

abbrev M7:Nat→zX:=fun _=>{ }
theorem Yz:zA Bx.P 112 Tryz.f112 2:=aJ (by kernel_rfl)
def MC (y:zu zJ) (x0:TS):Tr (Empty ⊕ zV):=
 let a0:=(y.1,y.2.1,y.2.2.1,())
 let a1:=aY a0 x0
 Tr.chk (aL a0 x0)
 (Tr.br (!a1.1) (Tr.re (AV.agg [AV.str [],AV.int .i64 0,AV.int .i64 0,AV.str [],AV.str [],AV.nils]) (bQ zJ a1.2))
  (Tr.br (x0==[87,72,69,82,69]) Tr.err (Tr.chk (zK (a1.2.1,a1.2.2.1,a1.2.2.2.1,()) [40]) Tr.err)))
theorem Xv (y:zu zJ) (x0:TS):rn Bx 1 M7 Tryz.f112 [AV.ptr 0 0,zz Sh.str x0] (bQ zJ y)=(MC y x0).map (lf Tryz.f112 e0):=by kernel_rfl
def IY (y:zu zJ) (x0:TS):Option (zw (List.map some [Sh.expr])×zu zJ):=xZ [Sh.expr] zJ t0 100000000 (MC y x0)
def cj (y:zu zJ) (x0:TS):Bool:=(IY y x0).isSome
def c7 (y:zu zJ) (x0:TS):(Sem Sh.expr)×zu zJ:=(fun r:zw (List.map some [Sh.expr])×zu zJ=>(r.1.1,r.2)) ((IY y x0).getD (bT [Sh.expr],fH zJ))
def Sq:zD:=xM zJ [Sh.str] [Sh.expr] zJ (fun y x=>cj y x.1) fun y x=>(((c7 y x.1).1,()),(c7 y x.1).2)
theorem Px:FK 112 Sq:=qi (ps:=zJ) (ks:=[Sh.str]) (outs:=[Sh.expr]) (keep:=M7) (gas:=400) (n:=100000000) (e:=e0) (t:=t0) (i:=fun y x=>MC y x.1) kK Yz (fun y x=>Xv y x.1) (KO _ _ _ _ _) (fun _ _=>by kernel_rfl) (fun _ _=>by kernel_rfl)

def ziT (x0:TS):Tr (Empty ⊕ zV):=
 Tr.chk (tk x0&&bif wK x0 then Ch x0 else true) (Tr.re (AV.bool (bif wK x0 then !Oy x0 else false)) [])
def Ck (x0:TS):=zT [Sh.bool] t0 100000000 (ziT x0)
def cv (x0:TS):=(Ck x0).isSome
def eB (x0:TS):=o1 (Ck x0)
def za7:=FT [Sh.str] [Sh.bool] fun x=>Ck x.1
theorem WD:FK 118 za7:=kK.T1 (f:=Tryz.f118) (keep:=k0) (e:=e0)

def TO:=Bx.addL [(180,SN),(112,Sq),(118,za7)]
theorem mM:zm TO:=kK.addL <| fc PS <| fc Px <| fc WD gW
end
noncomputable section

abbrev ze5:=jJ [(3,[0,4,5]),(11,[0,4,5,6,7,8]),(15,[0,4,5,6,7,8]),(20,[0,4,5,8])]
inductive ek where
 | h3 (s0:TS) (i5:Int)
 | h11 (s0:TS) (i5:Int) (i6:Int) (i7:Int) (z0:zu [CP.d zp])
 | h15 (s0:TS) (i5:Int) (i6:Int) (i7:Int) (z0:zu [CP.d zp])
 | h20 (s0:TS) (i5:Int) (z0:zu [CP.d zp])
 | h3b (s0:TS) (i5:Int) (lh_0:LF)
 | h11b (s0:TS) (i5:Int) (i6:Int) (i7:Int) (z1:zu [CP.d zp]) (lh_0:LF)
 | h15b (s0:TS) (i5:Int) (i6:Int) (i7:Int) (z1:zu [CP.d zp]) (lh_0:LF)
 | h20b (s0:TS) (i5:Int) (z1:zu [CP.d zp]) (lh_0:LF)
abbrev zhv:ek→Nat×St
 | .h3 s0 i5=>(3,⟨tm 131 [(0,AV.str s0),(4,AV.nils),(5,AV.int .i64 i5)],[]⟩)
 | .h11 s0 i5 i6 i7 z0=>(11,⟨tm 131 [(0,AV.str s0),(4,AV.nils),(5,AV.int .i64 i5),(6,AV.int IntKind.u8 i6),(7,AV.int .i64 i7),(8,AV.ptr 0 0)],[AO.box (bb [] [CP.d zp] z0)]⟩)
 | .h15 s0 i5 i6 i7 z0=>(15,⟨tm 131 [(0,AV.str s0),(4,AV.nils),(5,AV.int .i64 i5),(6,AV.int IntKind.u8 i6),(7,AV.int .i64 i7),(8,AV.ptr 0 0)],[AO.box (bb [] [CP.d zp] z0)]⟩)
 | .h20 s0 i5 z0=>(20,⟨tm 131 [(0,AV.str s0),(4,AV.nils),(5,AV.int .i64 i5),(8,AV.ptr 0 0)],[AO.box (bb [] [CP.d zp] z0)]⟩)
 | .h3b s0 i5 lh_0=>(3,⟨tm 131 [(0,AV.str s0),(4,AV.vec 0),(5,AV.int .i64 i5)],[AO.vec zp lh_0]⟩)
 | .h11b s0 i5 i6 i7 z1 lh_0=>(11,⟨tm 131 [(0,AV.str s0),(4,AV.vec 0),(5,AV.int .i64 i5),(6,AV.int IntKind.u8 i6),(7,AV.int .i64 i7),(8,AV.ptr 1 0)],[AO.vec zp lh_0,AO.box (bb [] [CP.d zp] z1)]⟩)
 | .h15b s0 i5 i6 i7 z1 lh_0=>(15,⟨tm 131 [(0,AV.str s0),(4,AV.vec 0),(5,AV.int .i64 i5),(6,AV.int IntKind.u8 i6),(7,AV.int .i64 i7),(8,AV.ptr 1 0)],[AO.vec zp lh_0,AO.box (bb [] [CP.d zp] z1)]⟩)
 | .h20b s0 i5 z1 lh_0=>(20,⟨tm 131 [(0,AV.str s0),(4,AV.vec 0),(5,AV.int .i64 i5),(8,AV.ptr 1 0)],[AO.vec zp lh_0,AO.box (bb [] [CP.d zp] z1)]⟩)
def ziV (x0:TS):Tr (ek ⊕ zV):=
 Tr.to (ek.h3 x0 0)
def zjz:ek→Tr (ek ⊕ zV)
 | .h3 s0 i5=>
  let a0:=(↑(getD s0 i5.toNat 0).toNat:Int)
  let a1:=IntKind.i64.wrap (i5+1)
  let a2:=List.take (a1.toNat - i5.toNat) (List.drop i5.toNat s0)
  let a3:=((4,a2),())
  let a4:=(4,a2)
  let a5:=[a4]
  Tr.br (decide (i5 < (↑(length s0):Int)))
  (Tr.chk (zE i5 (length s0))
   (Tr.br (bif a0==32 then true else a0==10) (Tr.to (ek.h3 s0 a1)) (Tr.chk (decide (0≤i5)&&decide (i5≤a1)&&decide (a1≤(↑(length s0):Int))) (Tr.chk (km a0) (Tr.br (pJ a0) (Tr.to (ek.h11 s0 a1 a0 i5 a3)) (Tr.chk (fP a0) (Tr.br (iC a0) (Tr.to (ek.h15 s0 a1 a0 i5 a3)) (Tr.br (a0==39) (Tr.to (ek.h20 s0 a1 ((3,[]),()))) (Tr.chk (mr a4)
   (Tr.br (!sj a4) (Tr.re (AV.tup [AV.nils,AV.kb false]) []) (Tr.chk (decide (a5.length≤1073741824)) (Tr.to (ek.h3b s0 a1 a5)))))))))))))
  (Tr.re (AV.tup [AV.nils,AV.bool true]) [])
 | .h11 s0 i5 i6 i7 z0=>
  let a0:=decide (i5 < (↑(length s0):Int))
  let a1:=(↑(getD s0 i5.toNat 0).toNat:Int)
  let a2:=List.take (i5.toNat - i7.toNat) (List.drop i7.toNat s0)
  let a3:=(1,a2)
  let a4:=[a3]
  Tr.chk (bif a0 then zE i5 (length s0)&&tn a1 else true)
  (Tr.br (bif a0 then GU a1 else false) (Tr.to (ek.h11 s0 (IntKind.i64.wrap (i5+1)) i6 i7 z0))
   (Tr.chk (decide (0≤i7)&&decide (i7≤i5)&&decide (i5≤(↑(length s0):Int))) (Tr.chk (fP i6) (Tr.br (iC i6) (Tr.to (ek.h15 s0 i5 i6 i7 ((1,a2),()))) (Tr.br (i6==39) (Tr.to (ek.h20 s0 i5 ((3,[]),()))) (Tr.chk (mr a3) (Tr.br (!sj a3) (Tr.re (AV.tup [AV.nils,AV.kb false]) []) (Tr.chk (decide (a4.length≤1073741824)) (Tr.to (ek.h3b s0 i5 a4))))))))))
 | .h15 s0 i5 i6 i7 z0=>
  let a0:=decide (i5 < (↑(length s0):Int))
  let a1:=(↑(getD s0 i5.toNat 0).toNat:Int)
  let a2:=(2,List.take (i5.toNat - i7.toNat) (List.drop i7.toNat s0))
  let a3:=[a2]
  Tr.chk (bif a0 then zE i5 (length s0)&&fP a1 else true)
  (Tr.br (bif a0 then iC a1 else false) (Tr.to (ek.h15 s0 (IntKind.i64.wrap (i5+1)) i6 i7 z0))
   (Tr.chk (decide (0≤i7)&&decide (i7≤i5)&&decide (i5≤(↑(length s0):Int))) (Tr.br (i6==39) (Tr.to (ek.h20 s0 i5 ((3,[]),()))) (Tr.chk (mr a2) (Tr.br (!sj a2) (Tr.re (AV.tup [AV.nils,AV.kb false]) []) (Tr.chk (decide (a3.length≤1073741824)) (Tr.to (ek.h3b s0 i5 a3))))))))
 | .h20 s0 i5 z0=>
  let a0:=decide (i5 < (↑(length s0):Int))
  let a1:=(↑(getD s0 i5.toNat 0).toNat:Int)
  let a2:=a1 != 39
  let a3:=IntKind.i64.wrap (i5+1)
  let a4:=decide (a3 < (↑(length s0):Int))
  let a5:=List.take (a3.toNat - i5.toNat) (List.drop i5.toNat s0)
  let a6:=((z0.1.1,z0.1.2++a5),())
  Tr.chk (bif a0 then zE i5 (length s0)&&bif a2 then true else bif a4 then zE a3 (length s0) else true else true)
  (Tr.br (bif a0 then bif a2 then true else bif a4 then (↑(getD s0 a3.toNat 0).toNat:Int)==39 else false else false)
   (Tr.chk (decide (0≤i5)&&decide (i5≤a3)&&decide (a3≤(↑(length s0):Int))) (Tr.chk (decide (length z0.1.2+a5.length≤1099511627776)) (Tr.chk (zE i5 (length s0)) (Tr.br (a1==39) (Tr.to (ek.h20 s0 (IntKind.i64.wrap (a3+1)) a6)) (Tr.to (ek.h20 s0 a3 a6))))))
   (Tr.br (decide (i5 ≥ (↑(length s0):Int))) (Tr.re (AV.tup [AV.nils,AV.kb false]) []) (Tr.chk (mr z0.1) (Tr.br (!sj z0.1) (Tr.re (AV.tup [AV.nils,AV.kb false]) []) (Tr.chk (decide ([z0.1].length≤1073741824)) (Tr.to (ek.h3b s0 a3 [z0.1])))))))
 | .h3b s0 i5 lh_0=>
  let a0:=(↑(getD s0 i5.toNat 0).toNat:Int)
  let a1:=IntKind.i64.wrap (i5+1)
  let a2:=List.take (a1.toNat - i5.toNat) (List.drop i5.toNat s0)
  let a3:=((4,a2),())
  let a4:=(4,a2)
  let a5:=[a4]
  Tr.br (decide (i5 < (↑(length s0):Int)))
  (Tr.chk (zE i5 (length s0))
   (Tr.br (bif a0==32 then true else a0==10) (Tr.to (ek.h3b s0 a1 lh_0)) (Tr.chk (decide (0≤i5)&&decide (i5≤a1)&&decide (a1≤(↑(length s0):Int))) (Tr.chk (km a0) (Tr.br (pJ a0) (Tr.to (ek.h11b s0 a1 a0 i5 a3 lh_0)) (Tr.chk (fP a0) (Tr.br (iC a0) (Tr.to (ek.h15b s0 a1 a0 i5 a3 lh_0)) (Tr.br (a0==39) (Tr.to (ek.h20b s0 a1 ((3,[]),()) lh_0))
   (Tr.chk (mr a4) (Tr.br (!sj a4) (Tr.re (AV.tup [AV.nils,AV.kb false]) []) (Tr.chk (decide (lh_0.length+a5.length≤1073741824)) (Tr.to (ek.h3b s0 a1 (lh_0++a5))))))))))))))
  (Tr.re (AV.tup [AV.vec 0,AV.bool (decide ((↑lh_0.length:Int)≤400))]) [AO.vec zp lh_0])
 | .h11b s0 i5 i6 i7 z1 lh_0=>
  let a0:=decide (i5 < (↑(length s0):Int))
  let a1:=(↑(getD s0 i5.toNat 0).toNat:Int)
  let a2:=List.take (i5.toNat - i7.toNat) (List.drop i7.toNat s0)
  let a3:=(1,a2)
  let a4:=[a3]
  Tr.chk (bif a0 then zE i5 (length s0)&&tn a1 else true)
  (Tr.br (bif a0 then GU a1 else false) (Tr.to (ek.h11b s0 (IntKind.i64.wrap (i5+1)) i6 i7 z1 lh_0))
   (Tr.chk (decide (0≤i7)&&decide (i7≤i5)&&decide (i5≤(↑(length s0):Int))) (Tr.chk (fP i6) (Tr.br (iC i6) (Tr.to (ek.h15b s0 i5 i6 i7 ((1,a2),()) lh_0)) (Tr.br (i6==39) (Tr.to (ek.h20b s0 i5 ((3,[]),()) lh_0)) (Tr.chk (mr a3) (Tr.br (!sj a3) (Tr.re (AV.tup [AV.nils,AV.kb false]) [])
   (Tr.chk (decide (lh_0.length+a4.length≤1073741824)) (Tr.to (ek.h3b s0 i5 (lh_0++a4)))))))))))
 | .h15b s0 i5 i6 i7 z1 lh_0=>
  let a0:=decide (i5 < (↑(length s0):Int))
  let a1:=(↑(getD s0 i5.toNat 0).toNat:Int)
  let a2:=(2,List.take (i5.toNat - i7.toNat) (List.drop i7.toNat s0))
  let a3:=[a2]
  Tr.chk (bif a0 then zE i5 (length s0)&&fP a1 else true)
  (Tr.br (bif a0 then iC a1 else false) (Tr.to (ek.h15b s0 (IntKind.i64.wrap (i5+1)) i6 i7 z1 lh_0))
   (Tr.chk (decide (0≤i7)&&decide (i7≤i5)&&decide (i5≤(↑(length s0):Int))) (Tr.br (i6==39) (Tr.to (ek.h20b s0 i5 ((3,[]),()) lh_0)) (Tr.chk (mr a2) (Tr.br (!sj a2) (Tr.re (AV.tup [AV.nils,AV.kb false]) []) (Tr.chk (decide (lh_0.length+a3.length≤1073741824)) (Tr.to (ek.h3b s0 i5 (lh_0++a3)))))))))
 | .h20b s0 i5 z1 lh_0=>
  let a0:=decide (i5 < (↑(length s0):Int))
  let a1:=(↑(getD s0 i5.toNat 0).toNat:Int)
  let a2:=a1 != 39
  let a3:=IntKind.i64.wrap (i5+1)
  let a4:=decide (a3 < (↑(length s0):Int))
  let a5:=List.take (a3.toNat - i5.toNat) (List.drop i5.toNat s0)
  let a6:=((z1.1.1,z1.1.2++a5),())
  Tr.chk (bif a0 then zE i5 (length s0)&&bif a2 then true else bif a4 then zE a3 (length s0) else true else true)
  (Tr.br (bif a0 then bif a2 then true else bif a4 then (↑(getD s0 a3.toNat 0).toNat:Int)==39 else false else false)
   (Tr.chk (decide (0≤i5)&&decide (i5≤a3)&&decide (a3≤(↑(length s0):Int))) (Tr.chk (decide (length z1.1.2+a5.length≤1099511627776)) (Tr.chk (zE i5 (length s0)) (Tr.br (a1==39) (Tr.to (ek.h20b s0 (IntKind.i64.wrap (a3+1)) a6 lh_0)) (Tr.to (ek.h20b s0 a3 a6 lh_0))))))
   (Tr.br (decide (i5 ≥ (↑(length s0):Int))) (Tr.re (AV.tup [AV.nils,AV.kb false]) []) (Tr.chk (mr z1.1) (Tr.br (!sj z1.1) (Tr.re (AV.tup [AV.nils,AV.kb false]) []) (Tr.chk (decide (lh_0.length+[z1.1].length≤1073741824)) (Tr.to (ek.h3b s0 a3 (lh_0++[z1.1]))))))))
def GQ (x0:TS):=zT [zp.sl,Sh.bool] zjz 100000000 (ziV x0)
def Ow (x0:TS):=(GQ x0).isSome
def Az (x0:TS):=o2 (GQ x0)
def za9:=FT [Sh.str] [zp.sl,Sh.bool] fun x=>GQ x.1
theorem WF:FK 105 za9:=mM.T1 (f:=Tryz.f105) (keep:=ze5) (e:=zhv)

def zd0 (x0:Sem Sh.expr) (x1:TS):Tr (Empty ⊕ zV):=
 let a0:=x1++[32,67,72,69,67,75,32,40,32]
 let a1:=a0++rc (zB x0)
 Tr.br (ze.op x0==[])
 (Tr.chk (fO (zB x0) (ze.mk [] (0,0,[]) [] [])) (Tr.re (AV.tup [AV.str [],AV.bool (fN (zB x0) (ze.mk [] (0,0,[]) [] []))]) []))
 (Tr.chk (wx (zB x0))
  (Tr.br (!EA (zB x0)) (Tr.re (AV.tup [AV.str [],AV.kb false]) []) (Tr.br (x1==[87,72,69,82,69]) (Tr.chk (ta (zB x0)) (Tr.chk (decide ([32,87,72,69,82,69,32].length+length (rc (zB x0))≤1099511627776)) (Tr.re (AV.tup [AV.str ([32,87,72,69,82,69,32]++rc (zB x0)),AV.kb true]) [])))
  (Tr.chk (decide (length x1+[32,67,72,69,67,75,32,40,32].length≤1099511627776)) (Tr.chk (ta (zB x0)) (Tr.chk (decide (length a0+length (rc (zB x0))≤1099511627776)) (Tr.chk (decide (length a1+[32,41].length≤1099511627776)) (Tr.re (AV.tup [AV.str (a1++[32,41]),AV.kb true]) []))))))))
def Cp (x0:Sem Sh.expr) (x1:TS):=zT [Sh.str,Sh.bool] t0 100000000 (zd0 x0 x1)
def Co (x0:Sem Sh.expr) (x1:TS):=(Cp x0 x1).isSome
def GX (x0:Sem Sh.expr) (x1:TS):=o2 (Cp x0 x1)
def Sy:=FT [Sh.expr,Sh.str] [Sh.str,Sh.bool] fun x=>Cp x.1 x.2.1
theorem PE:FK 239 Sy:=mM.T1 (f:=Tryz.f239) (keep:=k0) (e:=e0)

abbrev Yd:=jJ [(3,[0,4,5])]
inductive tO where
 | h3 (l0:LS) (s4:List UInt8) (i5:Int)
abbrev zdg:tO→Nat×St
 | .h3 l0 s4 i5=>(3,⟨tm 37 [(0,AV.sl Sh.str l0),(4,AV.str s4),(5,AV.int .i64 i5)],[]⟩)
def zd3 (x0:Sem Sh.str.sl):Tr (tO ⊕ zV):=
 Tr.to (tO.h3 x0 [] 0)
def zgA:tO→Tr (tO ⊕ zV)
 | .h3 l0 s4 i5=>
  let a0:=l0.getD i5.toNat (zj Sh.str)
  let a1:=s4++[32,44,32]
  let a2:=IntKind.i64.wrap (i5+1)
  let a3:=decide (1≤(↑l0.length:Int))
  Tr.br (decide (i5 < (↑l0.length:Int)))
  (Tr.chk (zE i5 l0.length)
   (Tr.chk (cv a0) (Tr.br (!eB a0) (Tr.re (AV.tup [AV.str [],AV.kb false]) []) (Tr.br (decide (i5 > 0)) (Tr.chk (decide (s4.length+[32,44,32].length≤1099511627776)) (Tr.chk (zE i5 l0.length) (Tr.chk (decide (length a1+length a0≤1099511627776)) (Tr.to (tO.h3 l0 (a1++a0) a2)))))
   (Tr.chk (zE i5 l0.length) (Tr.chk (decide (s4.length+length a0≤1099511627776)) (Tr.to (tO.h3 l0 (s4++a0) a2))))))))
  (Tr.re (AV.tup [AV.str (bif a3 then s4 else s4),AV.bool (bif a3 then decide ((↑l0.length:Int)≤8) else false)]) [])
def wP (x0:Sem Sh.str.sl):=zT [Sh.str,Sh.bool] zgA 100000000 (zd3 x0)
def OD (x0:Sem Sh.str.sl):=(wP x0).isSome
def RR (x0:Sem Sh.str.sl):=o2 (wP x0)
def SC:=FT [Sh.str.sl] [Sh.str,Sh.bool] fun x=>wP x.1
theorem PI:FK 243 SC:=mM.T1 (f:=Tryz.f243) (keep:=Yd) (e:=zdg)

def TP:=TO.addL [(105,za9),(239,Sy),(243,SC)]
theorem yS:zm TP:=mM.addL <| fc WF <| fc PE <| fc PI gW
end
noncomputable section

abbrev Yb:=jJ [(4,[1,4,5,6]),(15,[1,4,5,8]),(20,[1,4,5,9])]
inductive lJ where
 | h4 (b4:Bool) (s5:zn) (i6:Int) (z0:zu [CP.d zy])
 | h15 (b4:Bool) (s5:zn) (i8:Int) (z0:zu [CP.d zy])
 | h20 (b4:Bool) (s5:zn) (i9:Int) (z0:zu [CP.d zy])
abbrev zde:lJ→Nat×St
 | .h4 b4 s5 i6 z0=>(4,⟨tm 174 [(1,AV.ptr 0 0),(4,AV.bool b4),(5,AV.str s5),(6,AV.int .i64 i6)],[AO.box (bb [] [CP.d zy] z0)]⟩)
 | .h15 b4 s5 i8 z0=>(15,⟨tm 174 [(1,AV.ptr 0 0),(4,AV.bool b4),(5,AV.str s5),(8,AV.int .i64 i8)],[AO.box (bb [] [CP.d zy] z0)]⟩)
 | .h20 b4 s5 i9 z0=>(20,⟨tm 174 [(1,AV.ptr 0 0),(4,AV.bool b4),(5,AV.str s5),(9,AV.int .i64 i9)],[AO.box (bb [] [CP.d zy] z0)]⟩)
def zd1 (x0:Sem zy):Tr (lJ ⊕ zV):=
 let a0:=[67,82,69,65,84,69,32,84,65,66,76,69,32]++x0.2.1
 let a1:=(↑(length x0.2.2.2.2.1):Int)
 let a2:=(↑(length x0.2.2.2.2.2.2.1):Int)
 let a3:=(↑(length x0.2.2.2.2.2.2.2.1):Int)
 Tr.chk (cv x0.2.2.2.2.2.1)
 (Tr.chk (decide ([67,82,69,65,84,69,32,84,65,66,76,69,32].length+length x0.2.1≤1099511627776))
  (Tr.chk (decide (length a0+[32,40,32].length≤1099511627776)) (Tr.to (lJ.h4 (bif eB x0.2.2.2.2.2.1 then bif decide (1≤a1) then bif decide (a1≤8) then bif decide (a2≤8) then decide (a3≤8) else false else false else false else false) (a0++[32,40,32]) 0 (x0,())))))
def zgy:lJ→Tr (lJ ⊕ zV)
 | .h4 b4 s5 i6 z0=>
  let a0:=(↑(length z0.1.2.2.2.2.1):Int)
  let a1:=getD z0.1.2.2.2.2.1 i6.toNat (zj zi)
  let a2:=a1.1++[32]
  let a3:=[[],[73,78,84],[84,69,88,84],[66,79,79,76]].getD (toNat a1.2.1) (zj Sh.str)
  let a4:=a2++a3
  let a5:=s5++a4
  let a6:=a5++[32,78,79,84,32,78,85,76,76]
  let a7:=IntKind.i64.wrap (i6+1)
  let a8:=[75,69,89,32,40,32]++z0.1.2.2.2.2.2.1
  let a9:=a8++[32,41]
  Tr.br (decide (i6 < a0))
  (Tr.chk (zE i6 (length z0.1.2.2.2.2.1))
   (Tr.chk (cv a1.1) (Tr.br (bif !eB a1.1 then true else bif decide (a1.2.1 < 1) then true else decide (a1.2.1 > 3)) (Tr.re (AV.tup [AV.str [],AV.kb false]) []) (Tr.chk (decide (length a1.1+[32].length≤1099511627776)) (Tr.chk (zE a1.2.1 [[],[73,78,84],[84,69,88,84],[66,79,79,76]].length) (Tr.chk (decide (length a2+length a3≤1099511627776))
   (Tr.chk (decide (length s5+length a4≤1099511627776)) (Tr.br a1.2.2 (Tr.chk (decide (length a5+[32,78,79,84,32,78,85,76,76].length≤1099511627776)) (Tr.chk (decide (length a6+[32,44,32].length≤1099511627776)) (Tr.to (lJ.h4 b4 (a6++[32,44,32]) a7 z0))))
   (Tr.chk (decide (length a5+[32,44,32].length≤1099511627776)) (Tr.to (lJ.h4 b4 (a5++[32,44,32]) a7 z0)))))))))))
  (Tr.chk (decide ([75,69,89,32,40,32].length+length z0.1.2.2.2.2.2.1≤1099511627776))
   (Tr.chk (decide (length a8+[32,41].length≤1099511627776)) (Tr.chk (decide (length s5+length a9≤1099511627776)) (Tr.to (lJ.h15 b4 (s5++a9) 0 z0)))))
 | .h15 b4 s5 i8 z0=>
  let a0:=(↑(length z0.1.2.2.2.2.2.2.1):Int)
  let a1:=zE i8 (length z0.1.2.2.2.2.2.2.1)
  let a2:=getD z0.1.2.2.2.2.2.2.1 i8.toNat (zj Sh.str)
  let a3:=[32,44,32,85,78,73,81,85,69,32,40,32]++a2
  let a4:=a3++[32,41]
  Tr.br (decide (i8 < a0))
  (Tr.chk (bif b4 then a1&&cv a2 else true)
   (Tr.chk a1 (Tr.chk (decide ([32,44,32,85,78,73,81,85,69,32,40,32].length+length a2≤1099511627776)) (Tr.chk (decide (length a3+[32,41].length≤1099511627776)) (Tr.chk (decide (length s5+length a4≤1099511627776)) (Tr.to (lJ.h15 (bif b4 then eB a2 else false) (s5++a4) (IntKind.i64.wrap (i8+1)) z0)))))))
  (Tr.to (lJ.h20 b4 s5 0 z0))
 | .h20 b4 s5 i9 z0=>
  let a0:=(↑(length z0.1.2.2.2.2.2.2.2.1):Int)
  let a1:=zE i9 (length z0.1.2.2.2.2.2.2.2.1)
  let a2:=getD z0.1.2.2.2.2.2.2.2.1 i9.toNat (zj b7)
  let a3:=eB a2.1
  let a4:=[32,44,32,82,69,70,69,82,69,78,67,69,83,32,40,32]++a2.1
  let a5:=a4++[32,41,32]
  let a6:=a5++a2.2
  let a7:=zB z0.1.2.2.2.2.2.2.2.2.1
  let a8:=GX a7 [32,44]
  let a9:=s5++a8.1
  let a10:=a9++[32,41]
  Tr.br (decide (i9 < a0))
  (Tr.chk (bif b4 then a1&&(cv a2.1&&bif a3 then a1&&cv a2.2 else true) else true)
   (Tr.chk a1 (Tr.chk (decide ([32,44,32,82,69,70,69,82,69,78,67,69,83,32,40,32].length+length a2.1≤1099511627776)) (Tr.chk (decide (length a4+[32,41,32].length≤1099511627776)) (Tr.chk a1 (Tr.chk (decide (length a5+length a2.2≤1099511627776)) (Tr.chk (decide (length s5+length a6≤1099511627776))
   (Tr.to (lJ.h20 (bif b4 then bif a3 then eB a2.2 else false else false) (s5++a6) (IntKind.i64.wrap (i9+1)) z0)))))))))
  (Tr.chk (Co a7 [32,44])
   (Tr.chk (decide (length s5+length a8.1≤1099511627776)&&decide (length a9+[32,41].length≤1099511627776)) (Tr.re (AV.tup [AV.str (bif b4 then a10 else a10),AV.bool (bif b4 then a8.2 else false)]) [])))
def rk (x0:Sem zy):=zT [Sh.str,Sh.bool] zgy 100000000 (zd1 x0)
def Kl (x0:Sem zy):=(rk x0).isSome
def Oq (x0:Sem zy):=o2 (rk x0)
def Sz:=FT [zy] [Sh.str,Sh.bool] fun x=>rk x.1
theorem PF:FK 240 Sz:=yS.T1 (f:=Tryz.f240) (keep:=Yb) (e:=zde)

def LQ:=TP.addL [(240,Sz)]
theorem uV:zm LQ:=yS.addL <| fc PF <| gW
end
noncomputable section
abbrev zc8:List CP:=[.d .str,.d .str,.d .str,.nil,.nil,.d .str,.nil,.nil,.d .str,.d zg,.d zg,.d .str,.d .str,.nil,.d (.sl zf),.nil,.d .str,.d zg,.d zg,.d .str,.d .str,.nil,.d .str]
abbrev zc9:List CP:=[.d .str,.d .str,.d .str,.nil,.nil,.d .str,.nil,.nil,.d .str,.d zg,.d zg,.d .str,.d .str,.nil,.nil,.d (.sl aQ),.d .expr,.d .str]

abbrev ze2:=jJ [(15,[1,3,5,12,13]),(27,[1,3,5,8,9,14,15])]
inductive xJ where
 | h15 (s12:List UInt8) (i13:Int) (z0:zu nE) (z1:zu eX) (z2:zu zc8)
 | h27 (s8:TS) (b9:Sem Sh.bool) (s14:List UInt8) (i15:Int) (z0:zu nE) (z1:zu eX) (z2:zu zc9)
abbrev zht:xJ→Nat×St
 | .h15 s12 i13 z0 z1 z2=>(15,⟨tm 430 [(1,AV.ptr 0 0),(3,AV.ptr 1 0),(5,AV.ptr 2 0),(12,AV.str s12),(13,AV.int .i64 i13)],[AO.box (bb [] nE z0),AO.box (bb [] eX z1),AO.box (bb [] zc8 z2)]⟩)
 | .h27 s8 b9 s14 i15 z0 z1 z2=>(27,⟨tm 430 [(1,AV.ptr 0 0),(3,AV.ptr 1 0),(5,AV.ptr 2 0),(8,AV.str s8),(9,AV.bool b9),(14,AV.str s14),(15,AV.int .i64 i15)],[AO.box (bb [] nE z0),AO.box (bb [] eX z1),AO.box (bb [] zc9 z2)]⟩)
def ziS (x0:Sem zy):Tr (xJ ⊕ zV):=
 let a0:=zB x0.2.2.2.2.2.2.2.2.1
 let a1:=zB x0.2.2.2.2.2.2.2.2.2.2.2.1
 let a2:=(x0.1,x0.2.1,x0.2.2.1,x0.2.2.2.1,x0.2.2.2.2.1,x0.2.2.2.2.2.1,x0.2.2.2.2.2.2.1,x0.2.2.2.2.2.2.2.1,a0,x0.2.2.2.2.2.2.2.2.2.1,x0.2.2.2.2.2.2.2.2.2.2.1,a1,x0.2.2.2.2.2.2.2.2.2.2.2.2)
 let a3:=Oq a2
 let a4:=GX a1 [87,72,69,82,69]
 let a5:=[68,69,76,69,84,69,32,70,82,79,77,32]++x0.2.1
 let a6:=[83,69,76,69,67,84,32,42,32,70,82,79,77,32]++x0.2.1
 let a7:=[77,73,71,82,65,84,69,32,67,79,80,89,32]++x0.2.1
 let a8:=a7++[32,70,82,79,77,32]
 let a9:=a8++x0.2.2.1
 let a10:=a9++[32,40,32]
 let a11:=RR x0.2.2.2.1
 let a12:=a10++a11.1
 let a13:=a12++[32,41]
 let a14:=GX a0 []
 let a15:=cv x0.2.2.1
 let a16:=eB x0.2.2.1
 let a17:=[77,73,71,82,65,84,69,32,74,79,73,78,32]++x0.2.1
 let a18:=a17++[32,70,82,79,77,32]
 let a19:=a18++x0.2.2.1
 let a20:=a19++[32,44,32]
 let a21:=a20++x0.2.2.2.2.2.2.2.2.2.2.2.2
 let a22:=a21++[32,79,78,32]
 let a23:=a22++x0.2.2.2.2.2.1
 let a24:=cv x0.2.2.2.2.2.2.2.2.2.2.2.2
 let a25:=eB x0.2.2.2.2.2.2.2.2.2.2.2.2
 let a26:=[77,73,71,82,65,84,69,32,71,82,79,85,80,32]++x0.2.1
 let a27:=a26++[32,70,82,79,77,32]
 let a28:=a27++x0.2.2.1
 let a29:=zE 0 (length x0.2.2.2.1)
 let a30:=a28++[32,66,89,32]
 let a31:=getD x0.2.2.2.1 (toNat 0) (zj Sh.str)
 let a32:=a30++a31
 let a33:=zE 1 (length x0.2.2.2.1)
 let a34:=a32++[32,83,85,77,32]
 let a35:=getD x0.2.2.2.1 (toNat 1) (zj Sh.str)
 let a36:=a34++a35
 let a37:=[71,82,65,78,84,32,82,69,65,68,32,79,78,32]++x0.2.1
 let a38:=a37++[32,84,79,32]
 let a39:=[71,82,65,78,84,32,87,82,73,84,69,32,79,78,32]++x0.2.1
 let a40:=a39++[32,84,79,32]
 let a41:=[82,69,86,79,75,69,32,82,69,65,68,32,79,78,32]++x0.2.1
 let a42:=a41++[32,70,82,79,77,32]
 let a43:=[82,69,86,79,75,69,32,87,82,73,84,69,32,79,78,32]++x0.2.1
 let a44:=a43++[32,70,82,79,77,32]
 Tr.chk (Co a0 [])
 (Tr.chk (Co a1 [87,72,69,82,69])
  (Tr.br (x0.1==[99,114,101,97,116,101]) (Tr.chk (Kl a2) (Tr.re (AV.tup [AV.str a3.1,AV.agg [AV.str x0.1,AV.str x0.2.1,AV.str [],AV.nils,AV.sl zi x0.2.2.2.2.1,AV.str x0.2.2.2.2.2.1,AV.sl Sh.str x0.2.2.2.2.2.2.1,AV.sl (Sh.str.pr Sh.str) x0.2.2.2.2.2.2.2.1,AV.str (ze.op x0.2.2.2.2.2.2.2.2.1),AV.int .i64 (ze.v x0.2.2.2.2.2.2.2.2.1).1,
  AV.int .i64 (ze.v x0.2.2.2.2.2.2.2.2.1).2.1,AV.str (ze.v x0.2.2.2.2.2.2.2.2.1).2.2,AV.str (ze.s x0.2.2.2.2.2.2.2.2.1),AV.sl Sh.expr (ze.l x0.2.2.2.2.2.2.2.2.1),AV.nils,AV.nils,AV.str [],AV.int .i64 0,AV.int .i64 0,AV.str [],AV.str [],AV.nils,AV.str []],AV.bool a3.2]) [])) (Tr.br (x0.1==[100,114,111,112])
  (Tr.chk (decide ([68,82,79,80,32,84,65,66,76,69,32].length+length x0.2.1≤1099511627776)) (Tr.re (AV.tup [AV.str ([68,82,79,80,32,84,65,66,76,69,32]++x0.2.1),AV.agg [AV.str x0.1,AV.str x0.2.1,AV.str [],AV.nils,AV.nils,AV.str [],AV.nils,AV.nils,AV.str [],AV.int .i64 0,
  AV.int .i64 0,AV.str [],AV.str [],AV.nils,AV.nils,AV.nils,AV.str [],AV.int .i64 0,AV.int .i64 0,AV.str [],AV.str [],AV.nils,AV.str []],AV.kb true]) [])) (Tr.br (x0.1==[105,110,115,101,114,116]) (Tr.to (xJ.h15 [] 0 (x0,()) ([],[],[],[],[],0,0,[],[],[],0,0,[],[],[],())
  (x0.1,x0.2.1,[],[],[],0,0,[],[],x0.2.2.2.2.2.2.2.2.2.1,[],0,0,[],[],[],()))) (Tr.br (x0.1==[117,112,100,97,116,101]) (Tr.to (xJ.h27 a4.1 a4.2 [] 0 (x0,()) ([],[],[],[],[],0,0,[],[],[],0,0,[],[],[],()) (x0.1,x0.2.1,[],[],[],0,0,[],[],x0.2.2.2.2.2.2.2.2.2.2.1,x0.2.2.2.2.2.2.2.2.2.2.2.1,[],()))) (Tr.br (x0.1==[100,101,108,101,116,101])
  (Tr.chk (decide ([68,69,76,69,84,69,32,70,82,79,77,32].length+length x0.2.1≤1099511627776)) (Tr.chk (decide (length a5+length a4.1≤1099511627776)) (Tr.re (AV.tup [AV.str (a5++a4.1),AV.agg [AV.str x0.1,AV.str x0.2.1,AV.str [],AV.nils,AV.nils,AV.str [],AV.nils,AV.nils,AV.str [],AV.int .i64 0,
  AV.int .i64 0,AV.str [],AV.str [],AV.nils,AV.nils,AV.nils,AV.str (ze.op x0.2.2.2.2.2.2.2.2.2.2.2.1),AV.int .i64 (ze.v x0.2.2.2.2.2.2.2.2.2.2.2.1).1,AV.int .i64 (ze.v x0.2.2.2.2.2.2.2.2.2.2.2.1).2.1,AV.str (ze.v x0.2.2.2.2.2.2.2.2.2.2.2.1).2.2,AV.str (ze.s x0.2.2.2.2.2.2.2.2.2.2.2.1),AV.sl Sh.expr (ze.l x0.2.2.2.2.2.2.2.2.2.2.2.1),AV.str []],AV.bool a4.2]) [])))
  (Tr.br (x0.1==[115,101,108,101,99,116]) (Tr.chk (decide ([83,69,76,69,67,84,32,42,32,70,82,79,77,32].length+length x0.2.1≤1099511627776)) (Tr.chk (decide (length a6+length a4.1≤1099511627776)) (Tr.re (AV.tup [AV.str (a6++a4.1),AV.agg [AV.str x0.1,AV.str x0.2.1,AV.str [],AV.nils,AV.nils,AV.str [],AV.nils,AV.nils,AV.str [],AV.int .i64 0,
  AV.int .i64 0,AV.str [],AV.str [],AV.nils,AV.nils,AV.nils,AV.str (ze.op x0.2.2.2.2.2.2.2.2.2.2.2.1),AV.int .i64 (ze.v x0.2.2.2.2.2.2.2.2.2.2.2.1).1,AV.int .i64 (ze.v x0.2.2.2.2.2.2.2.2.2.2.2.1).2.1,AV.str (ze.v x0.2.2.2.2.2.2.2.2.2.2.2.1).2.2,AV.str (ze.s x0.2.2.2.2.2.2.2.2.2.2.2.1),AV.sl Sh.expr (ze.l x0.2.2.2.2.2.2.2.2.2.2.2.1),AV.str []],AV.bool a4.2]) [])))
  (Tr.br (x0.1==[99,111,112,121]) (Tr.chk (OD x0.2.2.2.1) (Tr.chk (decide ([77,73,71,82,65,84,69,32,67,79,80,89,32].length+length x0.2.1≤1099511627776)) (Tr.chk (decide (length a7+[32,70,82,79,77,32].length≤1099511627776)) (Tr.chk (decide (length a8+length x0.2.2.1≤1099511627776))
  (Tr.chk (decide (length a9+[32,40,32].length≤1099511627776)) (Tr.chk (decide (length a10+length a11.1≤1099511627776)) (Tr.chk (decide (length a12+[32,41].length≤1099511627776)) (Tr.chk (decide (length a13+length a14.1≤1099511627776)) (Tr.br a11.2 (Tr.br a14.2 (Tr.chk a15 (Tr.re (AV.tup [AV.str (a13++a14.1),AV.agg
  [AV.str x0.1,AV.str x0.2.1,AV.str x0.2.2.1,AV.sl Sh.str x0.2.2.2.1,AV.nils,AV.str [],AV.nils,AV.nils,AV.str (ze.op x0.2.2.2.2.2.2.2.2.1),AV.int .i64 (ze.v x0.2.2.2.2.2.2.2.2.1).1,AV.int .i64 (ze.v x0.2.2.2.2.2.2.2.2.1).2.1,AV.str (ze.v x0.2.2.2.2.2.2.2.2.1).2.2,AV.str (ze.s x0.2.2.2.2.2.2.2.2.1),
  AV.sl Sh.expr (ze.l x0.2.2.2.2.2.2.2.2.1),AV.nils,AV.nils,AV.str [],AV.int .i64 0,AV.int .i64 0,AV.str [],AV.str [],AV.nils,AV.str []],AV.bool a16]) [])) (Tr.re (AV.tup [AV.str (a13++a14.1),AV.agg [AV.str x0.1,AV.str x0.2.1,AV.str x0.2.2.1,AV.sl Sh.str x0.2.2.2.1,AV.nils,AV.str [],AV.nils,AV.nils,AV.str (ze.op x0.2.2.2.2.2.2.2.2.1),
  AV.int .i64 (ze.v x0.2.2.2.2.2.2.2.2.1).1,AV.int .i64 (ze.v x0.2.2.2.2.2.2.2.2.1).2.1,AV.str (ze.v x0.2.2.2.2.2.2.2.2.1).2.2,AV.str (ze.s x0.2.2.2.2.2.2.2.2.1),AV.sl Sh.expr (ze.l x0.2.2.2.2.2.2.2.2.1),AV.nils,AV.nils,AV.str [],AV.int .i64 0,AV.int .i64 0,AV.str [],AV.str [],AV.nils,AV.str []],AV.kb false]) [])) (Tr.re (AV.tup [AV.str (a13++a14.1),AV.agg
  [AV.str x0.1,AV.str x0.2.1,AV.str x0.2.2.1,AV.sl Sh.str x0.2.2.2.1,AV.nils,AV.str [],AV.nils,AV.nils,AV.str (ze.op x0.2.2.2.2.2.2.2.2.1),AV.int .i64 (ze.v x0.2.2.2.2.2.2.2.2.1).1,AV.int .i64 (ze.v x0.2.2.2.2.2.2.2.2.1).2.1,AV.str (ze.v x0.2.2.2.2.2.2.2.2.1).2.2,AV.str (ze.s x0.2.2.2.2.2.2.2.2.1),
  AV.sl Sh.expr (ze.l x0.2.2.2.2.2.2.2.2.1),AV.nils,AV.nils,AV.str [],AV.int .i64 0,AV.int .i64 0,AV.str [],AV.str [],AV.nils,AV.str []],AV.kb false]) [])))))))))) (Tr.br (x0.1==[106,111,105,110]) (Tr.chk (decide ([77,73,71,82,65,84,69,32,74,79,73,78,32].length+length x0.2.1≤1099511627776))
  (Tr.chk (decide (length a17+[32,70,82,79,77,32].length≤1099511627776)) (Tr.chk (decide (length a18+length x0.2.2.1≤1099511627776)) (Tr.chk (decide (length a19+[32,44,32].length≤1099511627776)) (Tr.chk (decide (length a20+length x0.2.2.2.2.2.2.2.2.2.2.2.2≤1099511627776))
  (Tr.chk (decide (length a21+[32,79,78,32].length≤1099511627776)) (Tr.chk (decide (length a22+length x0.2.2.2.2.2.1≤1099511627776)) (Tr.chk (decide (length a23+length a14.1≤1099511627776)) (Tr.br a14.2 (Tr.chk a15 (Tr.br a16 (Tr.chk a24 (Tr.br a25 (Tr.chk (cv x0.2.2.2.2.2.1) (Tr.re (AV.tup [AV.str (a23++a14.1),AV.agg
  [AV.str x0.1,AV.str x0.2.1,AV.str x0.2.2.1,AV.nils,AV.nils,AV.str x0.2.2.2.2.2.1,AV.nils,AV.nils,AV.str (ze.op x0.2.2.2.2.2.2.2.2.1),AV.int .i64 (ze.v x0.2.2.2.2.2.2.2.2.1).1,AV.int .i64 (ze.v x0.2.2.2.2.2.2.2.2.1).2.1,AV.str (ze.v x0.2.2.2.2.2.2.2.2.1).2.2,AV.str (ze.s x0.2.2.2.2.2.2.2.2.1),AV.sl Sh.expr (ze.l x0.2.2.2.2.2.2.2.2.1),AV.nils,AV.nils,AV.str [],
  AV.int .i64 0,AV.int .i64 0,AV.str [],AV.str [],AV.nils,AV.str x0.2.2.2.2.2.2.2.2.2.2.2.2],AV.bool (eB x0.2.2.2.2.2.1)]) [])) (Tr.re (AV.tup [AV.str (a23++a14.1),AV.agg [AV.str x0.1,AV.str x0.2.1,AV.str x0.2.2.1,AV.nils,AV.nils,AV.str x0.2.2.2.2.2.1,AV.nils,AV.nils,AV.str (ze.op x0.2.2.2.2.2.2.2.2.1),AV.int .i64 (ze.v x0.2.2.2.2.2.2.2.2.1).1,
  AV.int .i64 (ze.v x0.2.2.2.2.2.2.2.2.1).2.1,AV.str (ze.v x0.2.2.2.2.2.2.2.2.1).2.2,AV.str (ze.s x0.2.2.2.2.2.2.2.2.1),AV.sl Sh.expr (ze.l x0.2.2.2.2.2.2.2.2.1),AV.nils,AV.nils,AV.str [],AV.int .i64 0,AV.int .i64 0,AV.str [],AV.str [],AV.nils,AV.str x0.2.2.2.2.2.2.2.2.2.2.2.2],AV.kb false]) []))) (Tr.re (AV.tup [AV.str (a23++a14.1),AV.agg
  [AV.str x0.1,AV.str x0.2.1,AV.str x0.2.2.1,AV.nils,AV.nils,AV.str x0.2.2.2.2.2.1,AV.nils,AV.nils,AV.str (ze.op x0.2.2.2.2.2.2.2.2.1),AV.int .i64 (ze.v x0.2.2.2.2.2.2.2.2.1).1,AV.int .i64 (ze.v x0.2.2.2.2.2.2.2.2.1).2.1,AV.str (ze.v x0.2.2.2.2.2.2.2.2.1).2.2,AV.str (ze.s x0.2.2.2.2.2.2.2.2.1),AV.sl Sh.expr (ze.l x0.2.2.2.2.2.2.2.2.1),AV.nils,AV.nils,AV.str [],
  AV.int .i64 0,AV.int .i64 0,AV.str [],AV.str [],AV.nils,AV.str x0.2.2.2.2.2.2.2.2.2.2.2.2],AV.kb false]) []))) (Tr.re (AV.tup [AV.str (a23++a14.1),AV.agg [AV.str x0.1,AV.str x0.2.1,AV.str x0.2.2.1,AV.nils,AV.nils,AV.str x0.2.2.2.2.2.1,AV.nils,AV.nils,AV.str (ze.op x0.2.2.2.2.2.2.2.2.1),AV.int .i64 (ze.v x0.2.2.2.2.2.2.2.2.1).1,
  AV.int .i64 (ze.v x0.2.2.2.2.2.2.2.2.1).2.1,AV.str (ze.v x0.2.2.2.2.2.2.2.2.1).2.2,AV.str (ze.s x0.2.2.2.2.2.2.2.2.1),AV.sl Sh.expr (ze.l x0.2.2.2.2.2.2.2.2.1),AV.nils,AV.nils,AV.str [],AV.int .i64 0,AV.int .i64 0,AV.str [],AV.str [],AV.nils,AV.str x0.2.2.2.2.2.2.2.2.2.2.2.2],AV.kb false]) [])))))))))) (Tr.br (x0.1==[103,114,111,117,112])
  (Tr.br ((↑(length x0.2.2.2.1):Int) != 2) (Tr.re (AV.tup [AV.str [],AV.agg [AV.str x0.1,AV.str x0.2.1,AV.str x0.2.2.1,AV.sl Sh.str x0.2.2.2.1,AV.nils,AV.str [],AV.nils,AV.nils,AV.str (ze.op x0.2.2.2.2.2.2.2.2.1),AV.int .i64 (ze.v x0.2.2.2.2.2.2.2.2.1).1,AV.int .i64 (ze.v x0.2.2.2.2.2.2.2.2.1).2.1,
  AV.str (ze.v x0.2.2.2.2.2.2.2.2.1).2.2,AV.str (ze.s x0.2.2.2.2.2.2.2.2.1),AV.sl Sh.expr (ze.l x0.2.2.2.2.2.2.2.2.1),AV.nils,AV.nils,AV.str [],AV.int .i64 0,AV.int .i64 0,AV.str [],AV.str [],AV.nils,AV.str []],AV.kb false]) []) (Tr.chk (decide ([77,73,71,82,65,84,69,32,71,82,79,85,80,32].length+length x0.2.1≤1099511627776))
  (Tr.chk (decide (length a26+[32,70,82,79,77,32].length≤1099511627776)) (Tr.chk (decide (length a27+length x0.2.2.1≤1099511627776)) (Tr.chk (decide (length a28+[32,66,89,32].length≤1099511627776)) (Tr.chk a29 (Tr.chk (decide (length a30+length a31≤1099511627776))
  (Tr.chk (decide (length a32+[32,83,85,77,32].length≤1099511627776)) (Tr.chk a33 (Tr.chk (decide (length a34+length a35≤1099511627776)) (Tr.chk (decide (length a36+length a14.1≤1099511627776)) (Tr.br a14.2 (Tr.chk a15 (Tr.br a16 (Tr.chk a29 (Tr.chk (cv a31) (Tr.br (eB a31) (Tr.chk a33 (Tr.chk (cv a35) (Tr.re (AV.tup [AV.str (a36++a14.1),
  AV.agg [AV.str x0.1,AV.str x0.2.1,AV.str x0.2.2.1,AV.sl Sh.str x0.2.2.2.1,AV.nils,AV.str [],AV.nils,AV.nils,AV.str (ze.op x0.2.2.2.2.2.2.2.2.1),AV.int .i64 (ze.v x0.2.2.2.2.2.2.2.2.1).1,AV.int .i64 (ze.v x0.2.2.2.2.2.2.2.2.1).2.1,AV.str (ze.v x0.2.2.2.2.2.2.2.2.1).2.2,AV.str (ze.s x0.2.2.2.2.2.2.2.2.1),AV.sl Sh.expr (ze.l x0.2.2.2.2.2.2.2.2.1),AV.nils,AV.nils,
  AV.str [],AV.int .i64 0,AV.int .i64 0,AV.str [],AV.str [],AV.nils,AV.str []],AV.bool (eB a35)]) []))) (Tr.re (AV.tup [AV.str (a36++a14.1),AV.agg [AV.str x0.1,AV.str x0.2.1,AV.str x0.2.2.1,AV.sl Sh.str x0.2.2.2.1,AV.nils,AV.str [],AV.nils,AV.nils,AV.str (ze.op x0.2.2.2.2.2.2.2.2.1),AV.int .i64 (ze.v x0.2.2.2.2.2.2.2.2.1).1,
  AV.int .i64 (ze.v x0.2.2.2.2.2.2.2.2.1).2.1,AV.str (ze.v x0.2.2.2.2.2.2.2.2.1).2.2,AV.str (ze.s x0.2.2.2.2.2.2.2.2.1),AV.sl Sh.expr (ze.l x0.2.2.2.2.2.2.2.2.1),AV.nils,AV.nils,AV.str [],AV.int .i64 0,AV.int .i64 0,AV.str [],AV.str [],AV.nils,AV.str []],AV.kb false]) [])))) (Tr.re (AV.tup [AV.str (a36++a14.1),AV.agg
  [AV.str x0.1,AV.str x0.2.1,AV.str x0.2.2.1,AV.sl Sh.str x0.2.2.2.1,AV.nils,AV.str [],AV.nils,AV.nils,AV.str (ze.op x0.2.2.2.2.2.2.2.2.1),AV.int .i64 (ze.v x0.2.2.2.2.2.2.2.2.1).1,AV.int .i64 (ze.v x0.2.2.2.2.2.2.2.2.1).2.1,AV.str (ze.v x0.2.2.2.2.2.2.2.2.1).2.2,AV.str (ze.s x0.2.2.2.2.2.2.2.2.1),
  AV.sl Sh.expr (ze.l x0.2.2.2.2.2.2.2.2.1),AV.nils,AV.nils,AV.str [],AV.int .i64 0,AV.int .i64 0,AV.str [],AV.str [],AV.nils,AV.str []],AV.kb false]) []))) (Tr.re (AV.tup [AV.str (a36++a14.1),AV.agg [AV.str x0.1,AV.str x0.2.1,AV.str x0.2.2.1,AV.sl Sh.str x0.2.2.2.1,AV.nils,AV.str [],AV.nils,AV.nils,AV.str (ze.op x0.2.2.2.2.2.2.2.2.1),
  AV.int .i64 (ze.v x0.2.2.2.2.2.2.2.2.1).1,AV.int .i64 (ze.v x0.2.2.2.2.2.2.2.2.1).2.1,AV.str (ze.v x0.2.2.2.2.2.2.2.2.1).2.2,AV.str (ze.s x0.2.2.2.2.2.2.2.2.1),AV.sl Sh.expr (ze.l x0.2.2.2.2.2.2.2.2.1),AV.nils,AV.nils,AV.str [],AV.int .i64 0,AV.int .i64 0,AV.str [],AV.str [],AV.nils,AV.str []],AV.kb false]) []))))))))))))) (Tr.br (x0.1==[114,101,97,100])
  (Tr.chk (decide ([71,82,65,78,84,32,82,69,65,68,32,79,78,32].length+length x0.2.1≤1099511627776)) (Tr.chk (decide (length a37+[32,84,79,32].length≤1099511627776)) (Tr.chk (decide (length a38+length x0.2.2.2.2.2.2.2.2.2.2.2.2≤1099511627776)) (Tr.chk a24 (Tr.re (AV.tup [AV.str (a38++x0.2.2.2.2.2.2.2.2.2.2.2.2),AV.agg
  [AV.str x0.1,AV.str x0.2.1,AV.str [],AV.nils,AV.nils,AV.str [],AV.nils,AV.nils,AV.str [],AV.int .i64 0,AV.int .i64 0,AV.str [],AV.str [],AV.nils,AV.nils,AV.nils,AV.str [],AV.int .i64 0,AV.int .i64 0,AV.str [],AV.str [],AV.nils,AV.str x0.2.2.2.2.2.2.2.2.2.2.2.2],AV.bool a25]) []))))) (Tr.br (x0.1==[119,114,105,116,101])
  (Tr.chk (decide ([71,82,65,78,84,32,87,82,73,84,69,32,79,78,32].length+length x0.2.1≤1099511627776)) (Tr.chk (decide (length a39+[32,84,79,32].length≤1099511627776)) (Tr.chk (decide (length a40+length x0.2.2.2.2.2.2.2.2.2.2.2.2≤1099511627776)) (Tr.chk a24 (Tr.re (AV.tup [AV.str (a40++x0.2.2.2.2.2.2.2.2.2.2.2.2),AV.agg
  [AV.str x0.1,AV.str x0.2.1,AV.str [],AV.nils,AV.nils,AV.str [],AV.nils,AV.nils,AV.str [],AV.int .i64 0,AV.int .i64 0,AV.str [],AV.str [],AV.nils,AV.nils,AV.nils,AV.str [],AV.int .i64 0,AV.int .i64 0,AV.str [],AV.str [],AV.nils,AV.str x0.2.2.2.2.2.2.2.2.2.2.2.2],AV.bool a25]) []))))) (Tr.br (x0.1==[117,110,114,101,97,100])
  (Tr.chk (decide ([82,69,86,79,75,69,32,82,69,65,68,32,79,78,32].length+length x0.2.1≤1099511627776)) (Tr.chk (decide (length a41+[32,70,82,79,77,32].length≤1099511627776)) (Tr.chk (decide (length a42+length x0.2.2.2.2.2.2.2.2.2.2.2.2≤1099511627776)) (Tr.chk a24 (Tr.re (AV.tup [AV.str (a42++x0.2.2.2.2.2.2.2.2.2.2.2.2),AV.agg
  [AV.str x0.1,AV.str x0.2.1,AV.str [],AV.nils,AV.nils,AV.str [],AV.nils,AV.nils,AV.str [],AV.int .i64 0,AV.int .i64 0,AV.str [],AV.str [],AV.nils,AV.nils,AV.nils,AV.str [],AV.int .i64 0,AV.int .i64 0,AV.str [],AV.str [],AV.nils,AV.str x0.2.2.2.2.2.2.2.2.2.2.2.2],AV.bool a25]) []))))) (Tr.br (x0.1==[117,110,119,114,105,116,101]) (Tr.chk
  (decide ([82,69,86,79,75,69,32,87,82,73,84,69,32,79,78,32].length+length x0.2.1≤1099511627776)) (Tr.chk (decide (length a43+[32,70,82,79,77,32].length≤1099511627776)) (Tr.chk (decide (length a44+length x0.2.2.2.2.2.2.2.2.2.2.2.2≤1099511627776)) (Tr.chk a24 (Tr.re (AV.tup [AV.str (a44++x0.2.2.2.2.2.2.2.2.2.2.2.2),AV.agg
  [AV.str x0.1,AV.str x0.2.1,AV.str [],AV.nils,AV.nils,AV.str [],AV.nils,AV.nils,AV.str [],AV.int .i64 0,AV.int .i64 0,AV.str [],AV.str [],AV.nils,AV.nils,AV.nils,AV.str [],AV.int .i64 0,AV.int .i64 0,AV.str [],AV.str [],AV.nils,AV.str x0.2.2.2.2.2.2.2.2.2.2.2.2],AV.bool a25]) []))))) (Tr.re (AV.tup [AV.str [],AV.agg
  [AV.str x0.1,AV.str x0.2.1,AV.str [],AV.nils,AV.nils,AV.str [],AV.nils,AV.nils,AV.str [],AV.int .i64 0,AV.int .i64 0,AV.str [],AV.str [],AV.nils,AV.nils,AV.nils,AV.str [],AV.int .i64 0,AV.int .i64 0,AV.str [],AV.str [],AV.nils,AV.str []],AV.kb false]) [])))))))))))))))
def zjx:xJ→Tr (xJ ⊕ zV)
 | .h15 s12 i13 z0 z1 z2=>
  let a0:=(↑(length z0.1.2.2.2.2.2.2.2.2.2.1):Int)
  let a1:=zE i13 (length z0.1.2.2.2.2.2.2.2.2.2.1)
  let a2:=getD z0.1.2.2.2.2.2.2.2.2.2.1 i13.toNat (zj zf)
  let a3:=m4 a2
  let a4:=s12++[32,44,32]
  let a5:=ra a2
  let a6:=IntKind.i64.wrap (i13+1)
  let a7:=[73,78,83,69,82,84,32,73,78,84,79,32]++z0.1.2.1
  let a8:=a7++[32,86,65,76,85,69,83,32,40,32]
  let a9:=a8++s12
  Tr.br (decide (i13 < a0))
  (Tr.chk a1
   (Tr.chk (mn a2) (Tr.br (!wn a2) (Tr.re (AV.tup [AV.str [],AV.agg [AV.str z2.1,AV.str z2.2.1,AV.str z2.2.2.1,AV.nils,AV.nils,AV.str z2.2.2.2.1,AV.nils,AV.nils,AV.str z2.2.2.2.2.1,AV.int .i64 z2.2.2.2.2.2.1,AV.int .i64 z2.2.2.2.2.2.2.1,AV.str z2.2.2.2.2.2.2.2.1,AV.str z2.2.2.2.2.2.2.2.2.1,AV.nils,AV.sl zf z2.2.2.2.2.2.2.2.2.2.1,AV.nils,
   AV.str z2.2.2.2.2.2.2.2.2.2.2.1,AV.int .i64 z2.2.2.2.2.2.2.2.2.2.2.2.1,AV.int .i64 z2.2.2.2.2.2.2.2.2.2.2.2.2.1,AV.str z2.2.2.2.2.2.2.2.2.2.2.2.2.2.1,AV.str z2.2.2.2.2.2.2.2.2.2.2.2.2.2.2.1,AV.nils,AV.str z2.2.2.2.2.2.2.2.2.2.2.2.2.2.2.2.1],AV.kb false]) []) (Tr.br (decide (i13 > 0)) (Tr.chk (decide (s12.length+[32,44,32].length≤1099511627776))
   (Tr.chk a1 (Tr.chk a3 (Tr.chk (decide (length a4+length a5≤1099511627776)) (Tr.to (xJ.h15 (a4++a5) a6 z0 z1 z2)))))) (Tr.chk a1 (Tr.chk a3 (Tr.chk (decide (s12.length+length a5≤1099511627776)) (Tr.to (xJ.h15 (s12++a5) a6 z0 z1 z2)))))))))
  (Tr.chk (decide ([73,78,83,69,82,84,32,73,78,84,79,32].length+length z0.1.2.1≤1099511627776))
   (Tr.chk (decide (length a7+[32,86,65,76,85,69,83,32,40,32].length≤1099511627776)) (Tr.chk (decide (length a8+s12.length≤1099511627776)) (Tr.chk (decide (length a9+[32,41].length≤1099511627776)) (Tr.br (decide (1≤a0)) (Tr.re (AV.tup [AV.str (a9++[32,41]),AV.agg
   [AV.str z2.1,AV.str z2.2.1,AV.str z2.2.2.1,AV.nils,AV.nils,AV.str z2.2.2.2.1,AV.nils,AV.nils,AV.str z2.2.2.2.2.1,AV.int .i64 z2.2.2.2.2.2.1,AV.int .i64 z2.2.2.2.2.2.2.1,AV.str z2.2.2.2.2.2.2.2.1,AV.str z2.2.2.2.2.2.2.2.2.1,AV.nils,AV.sl zf z2.2.2.2.2.2.2.2.2.2.1,AV.nils,AV.str z2.2.2.2.2.2.2.2.2.2.2.1,AV.int .i64 z2.2.2.2.2.2.2.2.2.2.2.2.1,
   AV.int .i64 z2.2.2.2.2.2.2.2.2.2.2.2.2.1,AV.str z2.2.2.2.2.2.2.2.2.2.2.2.2.2.1,AV.str z2.2.2.2.2.2.2.2.2.2.2.2.2.2.2.1,AV.nils,AV.str z2.2.2.2.2.2.2.2.2.2.2.2.2.2.2.2.1],AV.bool (decide (a0≤12))]) []) (Tr.re (AV.tup [AV.str (a9++[32,41]),AV.agg [AV.str z2.1,AV.str z2.2.1,AV.str z2.2.2.1,AV.nils,AV.nils,AV.str z2.2.2.2.1,AV.nils,AV.nils,
   AV.str z2.2.2.2.2.1,AV.int .i64 z2.2.2.2.2.2.1,AV.int .i64 z2.2.2.2.2.2.2.1,AV.str z2.2.2.2.2.2.2.2.1,AV.str z2.2.2.2.2.2.2.2.2.1,AV.nils,AV.sl zf z2.2.2.2.2.2.2.2.2.2.1,AV.nils,AV.str z2.2.2.2.2.2.2.2.2.2.2.1,AV.int .i64 z2.2.2.2.2.2.2.2.2.2.2.2.1,AV.int .i64 z2.2.2.2.2.2.2.2.2.2.2.2.2.1,AV.str z2.2.2.2.2.2.2.2.2.2.2.2.2.2.1,AV.str z2.2.2.2.2.2.2.2.2.2.2.2.2.2.2.1,
   AV.nils,AV.str z2.2.2.2.2.2.2.2.2.2.2.2.2.2.2.2.1],AV.kb false]) []))))))
 | .h27 s8 b9 s14 i15 z0 z1 z2=>
  let a0:=(↑(length z0.1.2.2.2.2.2.2.2.2.2.2.1):Int)
  let a1:=zE i15 (length z0.1.2.2.2.2.2.2.2.2.2.2.1)
  let a2:=getD z0.1.2.2.2.2.2.2.2.2.2.2.1 i15.toNat (zj aQ)
  let a3 := !eB a2.1
  let a4:=zB a2.2
  let a5:=decide (length a2.1+[32,61,32].length≤1099511627776)
  let a6:=ta a4
  let a7:=a2.1++[32,61,32]
  let a8:=rc a4
  let a9:=decide (length a7+length a8≤1099511627776)
  let a10:=s14++[32,44,32]
  let a11:=a7++a8
  let a12:=IntKind.i64.wrap (i15+1)
  let a13:=[85,80,68,65,84,69,32]++z0.1.2.1
  let a14:=a13++[32,83,69,84,32]
  let a15:=a14++s14
  Tr.br (decide (i15 < a0))
  (Tr.chk (a1&&(cv a2.1&&bif a3 then true else a1&&wx a4))
   (Tr.br (bif a3 then true else !EA a4) (Tr.re (AV.tup [AV.str [],AV.agg [AV.str z2.1,AV.str z2.2.1,AV.str z2.2.2.1,AV.nils,AV.nils,AV.str z2.2.2.2.1,AV.nils,AV.nils,AV.str z2.2.2.2.2.1,AV.int .i64 z2.2.2.2.2.2.1,AV.int .i64 z2.2.2.2.2.2.2.1,AV.str z2.2.2.2.2.2.2.2.1,AV.str z2.2.2.2.2.2.2.2.2.1,AV.nils,AV.nils,
   AV.sl (Sh.str.pr Sh.expr) z2.2.2.2.2.2.2.2.2.2.1,AV.str (ze.op z2.2.2.2.2.2.2.2.2.2.2.1),AV.int .i64 (ze.v z2.2.2.2.2.2.2.2.2.2.2.1).1,AV.int .i64 (ze.v z2.2.2.2.2.2.2.2.2.2.2.1).2.1,AV.str (ze.v z2.2.2.2.2.2.2.2.2.2.2.1).2.2,AV.str (ze.s z2.2.2.2.2.2.2.2.2.2.2.1),AV.sl Sh.expr (ze.l z2.2.2.2.2.2.2.2.2.2.2.1),AV.str z2.2.2.2.2.2.2.2.2.2.2.2.1],AV.kb false]) [])
   (Tr.br (decide (i15 > 0)) (Tr.chk (decide (s14.length+[32,44,32].length≤1099511627776)) (Tr.chk a1 (Tr.chk a5 (Tr.chk a1 (Tr.chk a6 (Tr.chk a9 (Tr.chk (decide (length a10+length a11≤1099511627776)) (Tr.to (xJ.h27 s8 b9 (a10++a11) a12 z0 z1 z2))))))))) (Tr.chk a1 (Tr.chk a5 (Tr.chk a1
   (Tr.chk a6 (Tr.chk a9 (Tr.chk (decide (s14.length+length a11≤1099511627776)) (Tr.to (xJ.h27 s8 b9 (s14++a11) a12 z0 z1 z2)))))))))))
  (Tr.chk (decide ([85,80,68,65,84,69,32].length+length z0.1.2.1≤1099511627776))
   (Tr.chk (decide (length a13+[32,83,69,84,32].length≤1099511627776)) (Tr.chk (decide (length a14+s14.length≤1099511627776)) (Tr.chk (decide (length a15+length s8≤1099511627776)) (Tr.br b9 (Tr.br (decide (1≤a0)) (Tr.re (AV.tup [AV.str (a15++s8),AV.agg [AV.str z2.1,AV.str z2.2.1,AV.str z2.2.2.1,AV.nils,AV.nils,AV.str z2.2.2.2.1,AV.nils,AV.nils,
   AV.str z2.2.2.2.2.1,AV.int .i64 z2.2.2.2.2.2.1,AV.int .i64 z2.2.2.2.2.2.2.1,AV.str z2.2.2.2.2.2.2.2.1,AV.str z2.2.2.2.2.2.2.2.2.1,AV.nils,AV.nils,AV.sl (Sh.str.pr Sh.expr) z2.2.2.2.2.2.2.2.2.2.1,AV.str (ze.op z2.2.2.2.2.2.2.2.2.2.2.1),AV.int .i64 (ze.v z2.2.2.2.2.2.2.2.2.2.2.1).1,AV.int .i64 (ze.v z2.2.2.2.2.2.2.2.2.2.2.1).2.1,AV.str (ze.v z2.2.2.2.2.2.2.2.2.2.2.1).2.2,
   AV.str (ze.s z2.2.2.2.2.2.2.2.2.2.2.1),AV.sl Sh.expr (ze.l z2.2.2.2.2.2.2.2.2.2.2.1),AV.str z2.2.2.2.2.2.2.2.2.2.2.2.1],AV.bool (decide (a0≤8))]) []) (Tr.re (AV.tup [AV.str (a15++s8),AV.agg [AV.str z2.1,AV.str z2.2.1,AV.str z2.2.2.1,AV.nils,AV.nils,AV.str z2.2.2.2.1,AV.nils,AV.nils,AV.str z2.2.2.2.2.1,AV.int .i64 z2.2.2.2.2.2.1,AV.int .i64 z2.2.2.2.2.2.2.1,
   AV.str z2.2.2.2.2.2.2.2.1,AV.str z2.2.2.2.2.2.2.2.2.1,AV.nils,AV.nils,AV.sl (Sh.str.pr Sh.expr) z2.2.2.2.2.2.2.2.2.2.1,AV.str (ze.op z2.2.2.2.2.2.2.2.2.2.2.1),AV.int .i64 (ze.v z2.2.2.2.2.2.2.2.2.2.2.1).1,AV.int .i64 (ze.v z2.2.2.2.2.2.2.2.2.2.2.1).2.1,AV.str (ze.v z2.2.2.2.2.2.2.2.2.2.2.1).2.2,
   AV.str (ze.s z2.2.2.2.2.2.2.2.2.2.2.1),AV.sl Sh.expr (ze.l z2.2.2.2.2.2.2.2.2.2.2.1),AV.str z2.2.2.2.2.2.2.2.2.2.2.2.1],AV.kb false]) [])) (Tr.re (AV.tup [AV.str (a15++s8),AV.agg [AV.str z2.1,AV.str z2.2.1,AV.str z2.2.2.1,AV.nils,AV.nils,AV.str z2.2.2.2.1,AV.nils,AV.nils,AV.str z2.2.2.2.2.1,AV.int .i64 z2.2.2.2.2.2.1,AV.int .i64 z2.2.2.2.2.2.2.1,
   AV.str z2.2.2.2.2.2.2.2.1,AV.str z2.2.2.2.2.2.2.2.2.1,AV.nils,AV.nils,AV.sl (Sh.str.pr Sh.expr) z2.2.2.2.2.2.2.2.2.2.1,AV.str (ze.op z2.2.2.2.2.2.2.2.2.2.2.1),AV.int .i64 (ze.v z2.2.2.2.2.2.2.2.2.2.2.1).1,AV.int .i64 (ze.v z2.2.2.2.2.2.2.2.2.2.2.1).2.1,AV.str (ze.v z2.2.2.2.2.2.2.2.2.2.2.1).2.2,AV.str (ze.s z2.2.2.2.2.2.2.2.2.2.2.1),
   AV.sl Sh.expr (ze.l z2.2.2.2.2.2.2.2.2.2.2.1),AV.str z2.2.2.2.2.2.2.2.2.2.2.2.1],AV.kb false]) []))))))
def wQ (x0:Sem zy):=zT [Sh.str,zy,Sh.bool] zjx 100000000 (ziS x0)
def OE (x0:Sem zy):=(wQ x0).isSome
def RT (x0:Sem zy):=o3 (wQ x0)
def za5:=FT [zy] [Sh.str,zy,Sh.bool] fun x=>wQ x.1
theorem WB:FK 183 za5:=uV.T1 (f:=Tryz.f183) (keep:=ze2) (e:=zht)

def TQ:=LQ.add 183 za5
theorem yT:zm TQ:=uV.add WB
end

noncomputable def ziK (x0:Sem zy):Tr (Empty ⊕ zV):=
 let a0:=(x0.1,x0.2.1,x0.2.2.1,x0.2.2.2.1,x0.2.2.2.2.1,x0.2.2.2.2.2.1,x0.2.2.2.2.2.2.1,x0.2.2.2.2.2.2.2.1,zB x0.2.2.2.2.2.2.2.2.1,x0.2.2.2.2.2.2.2.2.2.1,x0.2.2.2.2.2.2.2.2.2.2.1,zB x0.2.2.2.2.2.2.2.2.2.2.2.1,x0.2.2.2.2.2.2.2.2.2.2.2.2)
 let a1:=RT a0
 let a2 := !a1.2.2
 let a3 := !eB x0.2.1
 let a4:=(a1.2.1.1,a1.2.1.2.1,a1.2.1.2.2.1,a1.2.1.2.2.2.1,a1.2.1.2.2.2.2.1,a1.2.1.2.2.2.2.2.1,a1.2.1.2.2.2.2.2.2.1,a1.2.1.2.2.2.2.2.2.2.1,zB a1.2.1.2.2.2.2.2.2.2.2.1,a1.2.1.2.2.2.2.2.2.2.2.2.1,a1.2.1.2.2.2.2.2.2.2.2.2.2.1,zB a1.2.1.2.2.2.2.2.2.2.2.2.2.2.1,a1.2.1.2.2.2.2.2.2.2.2.2.2.2.2)
 let a5:=Az a1.1
 Tr.chk (OE a0)
 (Tr.chk (bif a2 then true else cv x0.2.1&&bif a3 then true else RQ a4 a0)
  (Tr.br (bif a2 then true else bif a3 then true else !Zf a4 a0) (Tr.re (AV.tup [AV.str [],AV.kb false]) []) (Tr.chk (Ow a1.1) (Tr.br (!a5.2) (Tr.re (AV.tup [AV.str [],AV.kb false]) []) (Tr.re (AV.tup [AV.str a1.1,AV.kb true]) [])))))
noncomputable def Cm (x0:Sem zy):=zT [Sh.str,Sh.bool] t0 100000000 (ziK x0)
noncomputable def jB (x0:Sem zy):=(Cm x0).isSome
noncomputable def ms (x0:Sem zy):=o2 (Cm x0)
noncomputable def zaC:=FT [zy] [Sh.str,Sh.bool] fun x=>Cm x.1
theorem V4:FK 116 zaC:=yT.T1 (f:=Tryz.f116) (keep:=k0) (e:=e0)

noncomputable def DM:=TQ.add 116 zaC
theorem mN:zm DM:=yT.add V4
noncomputable section

def zeg (x0:Sem zp.sl) (x1:Sem zg) (x2:Sem Sh.str):Tr (Empty ⊕ zV):=
 let a0:=decide (x1 < (↑(length x0):Int))
 let a1:=getD x0 (toNat x1) (zj zp)
 let a2:=a1.1==1
 let a3:=a1.1==4
 let a4:=a1.2==x2
 Tr.chk
 (bif a0 then zE x1 (length x0)&&bif a2 then zE x1 (length x0) else zE x1 (length x0)&&bif a3 then zE x1 (length x0) else true
 else true)
 (Tr.re (AV.bool (bif a0 then bif a2 then a4 else bif a3 then a4 else false else false)) [])
def Oz (x0:Sem zp.sl) (x1:Sem zg) (x2:Sem Sh.str):=zT [Sh.bool] t0 100000000 (zeg x0 x1 x2)
def jA (x0:Sem zp.sl) (x1:Sem zg) (x2:Sem Sh.str):=(Oz x0 x1 x2).isSome
def pK (x0:Sem zp.sl) (x1:Sem zg) (x2:Sem Sh.str):=o1 (Oz x0 x1 x2)
def Td:=FT [zp.sl,zg,Sh.str] [Sh.bool] fun x=>Oz x.1 x.2.1 x.2.2.1
theorem Qi:FK 274 Td:=mN.T1 (f:=Tryz.f274) (keep:=k0) (e:=e0)

abbrev Yn:=jJ [(3,[0,2,4,5]),(10,[0,2,6,7]),(18,[0,2,6,8])]
inductive lm where
 | h3 (s0:Sem Sh.str) (l4:List (Sem zf)) (i5:Int) (z0:zu [CP.d zf])
 | h10 (s0:Sem Sh.str) (i7:Int) (z0:zu [CP.d zf]) (z1:zu [CP.d zf])
 | h18 (s0:Sem Sh.str) (i8:Int) (z0:zu [CP.d zf]) (z1:zu [CP.d zf])
abbrev zdn:lm→Nat×St
 | .h3 s0 l4 i5 z0=>(3,⟨tm 145 [(0,AV.str s0),(2,AV.ptr 0 0),(4,AV.sl zf l4),(5,AV.int .i64 i5)],[AO.box (bb [] [CP.d zf] z0)]⟩)
 | .h10 s0 i7 z0 z1=>(10,⟨tm 145 [(0,AV.str s0),(2,AV.ptr 0 0),(6,AV.ptr 1 0),(7,AV.int .i64 i7)],[AO.box (bb [] [CP.d zf] z0),AO.box (bb [] [CP.d zf] z1)]⟩)
 | .h18 s0 i8 z0 z1=>(18,⟨tm 145 [(0,AV.str s0),(2,AV.ptr 0 0),(6,AV.ptr 1 0),(8,AV.int .i64 i8)],[AO.box (bb [] [CP.d zf] z0),AO.box (bb [] [CP.d zf] z1)]⟩)
def zej (x0:Sem Sh.str):Tr (lm ⊕ zV):=
 Tr.to (lm.h3 x0 [(0,0,[]),(3,0,[]),(3,1,[])] 0 ((0,0,[]),()))
def zgH:lm→Tr (lm ⊕ zV)
 | .h3 s0 l4 i5 z0=>
  let a0:=l4.getD i5.toNat (zj zf)
  let a1:=decide ((↑(length s0):Int) ≥ 2)
  let a2:=(↑(getD s0 (toNat 0) 0).toNat:Int)==39
  let a3:=IntKind.i64.wrap ((↑(length s0):Int) - 1)
  Tr.br (decide (i5 < (↑l4.length:Int)))
  (Tr.chk (zE i5 l4.length) (Tr.chk (m4 a0) (Tr.br (ra a0==s0) (Tr.chk (zE i5 l4.length) (Tr.re (AV.tup [AV.agg [AV.int .i64 a0.1,AV.int .i64 a0.2.1,AV.str a0.2.2],AV.kb true]) [])) (Tr.to (lm.h3 s0 l4 (IntKind.i64.wrap (i5+1)) z0)))))
  (Tr.chk (bif a1 then zE 0 (length s0)&&bif a2 then zE a3 (length s0) else true else true) (Tr.br (bif a1 then bif a2 then (↑(getD s0 a3.toNat 0).toNat:Int)==39 else false else false) (Tr.to (lm.h10 s0 1 z0 ((2,0,[]),()))) (Tr.to (lm.h18 s0 0 z0 ((1,0,[]),())))))
 | .h10 s0 i7 z0 z1=>
  let a0:=IntKind.i64.wrap ((↑(length s0):Int) - 1)
  let a1:=IntKind.i64.wrap (i7+1)
  let a2:=List.take (a1.toNat - i7.toNat) (List.drop i7.toNat s0)
  let a3:=((z1.1.1,z1.1.2.1,z1.1.2.2++a2),())
  Tr.br (decide (i7 < a0))
  (Tr.chk (decide (0≤i7)&&decide (i7≤a1)&&decide (a1≤(↑(length s0):Int))) (Tr.chk (decide (length z1.1.2.2+a2.length≤1099511627776)) (Tr.chk (zE i7 (length s0)) (Tr.br ((↑(getD s0 i7.toNat 0).toNat:Int)==39) (Tr.to (lm.h10 s0 (IntKind.i64.wrap (a1+1)) z0 a3)) (Tr.to (lm.h10 s0 a1 z0 a3))))))
  (Tr.chk (m4 z1.1) (Tr.re (AV.tup [AV.agg [AV.int .i64 z1.1.1,AV.int .i64 z1.1.2.1,AV.str z1.1.2.2],AV.bool (ra z1.1==s0)]) []))
 | .h18 s0 i8 z0 z1=>
  let a0:=zE 0 (length s0)
  let a1:=(↑(getD s0 (toNat 0) 0).toNat:Int)
  let a2:=IntKind.i64.wrap (i8+1)
  let a3:=(↑(getD s0 i8.toNat 0).toNat:Int)
  let a4:=decide (a3 < 48)
  let a5:=decide (a3 > 57)
  let a6:=decide (z1.1.2.1 < -922337203685477580)
  let a7:=z1.1.2.1==-922337203685477580
  let a8:=IntKind.i64.wrap (0 - z1.1.2.1)
  let a9:=(z1.1.1,a8,z1.1.2.2)
  Tr.br (decide (i8 < (↑(length s0):Int)))
  (Tr.chk (bif i8==0 then a0 else true) (Tr.br (bif i8==0 then a1==45 else false) (Tr.to (lm.h18 s0 a2 z0 z1)) (Tr.chk (zE i8 (length s0)&&bif a4 then true else zE i8 (length s0)&&bif a5 then true else bif a6 then true else bif a7 then zE i8 (length s0) else true)
  (Tr.br (bif a4 then true else bif a5 then true else bif a6 then true else bif a7 then decide (a3 > 56) else false) (Tr.re (AV.tup [AV.agg [AV.int .i64 0,AV.int .i64 0,AV.str []],AV.kb false]) []) (Tr.chk (zE i8 (length s0)) (Tr.to (lm.h18 s0 a2 z0 ((z1.1.1,IntKind.i64.wrap (IntKind.i64.wrap (IntKind.i64.wrap (10 * z1.1.2.1) - IntKind.i64.wrap a3)+48),z1.1.2.2),()))))))))
  (Tr.chk (bif s0==[] then true else a0) (Tr.br (bif s0==[] then true else a1 != 45) (Tr.br (z1.1.2.1==-9223372036854775808) (Tr.re (AV.tup [AV.agg [AV.int .i64 0,AV.int .i64 0,AV.str []],AV.kb false]) []) (Tr.chk (m4 a9) (Tr.re (AV.tup [AV.agg [AV.int .i64 z1.1.1,AV.int .i64 a8,AV.str z1.1.2.2],AV.bool (ra a9==s0)]) []))) (Tr.chk (m4 z1.1)
  (Tr.re (AV.tup [AV.agg [AV.int .i64 z1.1.1,AV.int .i64 z1.1.2.1,AV.str z1.1.2.2],AV.bool (ra z1.1==s0)]) []))))
def ws (x0:Sem Sh.str):=zT [zf,Sh.bool] zgH 100000000 (zej x0)
def Ey (x0:Sem Sh.str):=(ws x0).isSome
def pD (x0:Sem Sh.str):=o2 (ws x0)
def Tg:=FT [Sh.str] [zf,Sh.bool] fun x=>ws x.1
theorem Ql:FK 292 Tg:=mN.T1 (f:=Tryz.f292) (keep:=Yn) (e:=zdn)

def TX:=DM.addL [(274,Td),(292,Tg)]
theorem y4:zm TX:=mN.addL <| fc Qi <| fc Ql <|  gW
end
noncomputable section

abbrev Ym:=jJ [(1,[0,1,4])]
inductive ye where
 | h1 (s0:Sem Sh.str) (s1:Sem Sh.str) (z0:zu [CP.d zf])
abbrev zdm:ye→Nat×St
 | .h1 s0 s1 z0=>(1,⟨tm 25 [(0,AV.str s0),(1,AV.str s1),(4,AV.ptr 0 0)],[AO.box (bb [] [CP.d zf] z0)]⟩)
def zei (x0:Sem Sh.str) (x1:Sem Sh.str):Tr (ye ⊕ zV):=
 Tr.to (ye.h1 x0 x1 ((0,0,[]),()))
def zgG:ye→Tr (ye ⊕ zV)
 | .h1 s0 s1 z0=>
  let a0:=decide ((↑(length s1):Int) > 0)
  Tr.chk (bif a0 then zE 0 (length s1) else true)
  (Tr.br (bif a0 then (↑(getD s1 (toNat 0) 0).toNat:Int)==48 else false) (Tr.chk (decide (0≤1)&&decide (1≤(↑(length s1):Int))&&decide ((↑(length s1):Int)≤(↑(length s1):Int))) (Tr.to (ye.h1 s0 (List.take ((↑(length s1):Int).toNat - toNat 1) (List.drop (toNat 1) s1)) z0)))
  (Tr.br (s1==[]) (Tr.re (AV.tup [AV.agg [AV.int .i64 1,AV.int .i64 0,AV.str []],AV.kb true]) []) (Tr.chk (decide (length s0+length s1≤1099511627776)) (Tr.chk (Ey (s0++s1)) (Tr.re (AV.tup [AV.agg [AV.int .i64 (pD (s0++s1)).1.1,AV.int .i64 (pD (s0++s1)).1.2.1,AV.str (pD (s0++s1)).1.2.2],AV.bool (pD (s0++s1)).2]) [])))))
def GW (x0:Sem Sh.str) (x1:Sem Sh.str):=zT [zf,Sh.bool] zgG 100000000 (zei x0 x1)
def OA (x0:Sem Sh.str) (x1:Sem Sh.str):=(GW x0 x1).isSome
def UR (x0:Sem Sh.str) (x1:Sem Sh.str):=o2 (GW x0 x1)
def Tf:=FT [Sh.str,Sh.str] [zf,Sh.bool] fun x=>GW x.1 x.2.1
theorem Qk:FK 291 Tf:=y4.T1 (f:=Tryz.f291) (keep:=Ym) (e:=zdm)

def TY:=TX.add 291 Tf
theorem y5:zm TY:=y4.add Qk
end

noncomputable def zef (x0:Sem zp.sl) (x1:Sem zg):Tr (Empty ⊕ zV):=
 let a0:=IntKind.i64.wrap (x1+1)
 let a1:=decide (a0 ≥ (↑(length x0):Int))
 let a2:=zE a0 (length x0)
 let a3:=getD x0 a0.toNat (zj zp)
 let a4:=UR [45] a3.2
 let a5:=getD x0 (toNat x1) (zj zp)
 let a6:=UR [] a5.2
 let a7:=pK x0 x1 [84,82,85,69]
 let a8:=pK x0 x1 [70,65,76,83,69]
 let a9:=pD a5.2
 Tr.br (decide (x1 ≥ (↑(length x0):Int)))
 (Tr.re (AV.tup [AV.agg [AV.str [],AV.int .i64 0,AV.int .i64 0,AV.str [],AV.str [],AV.nils],AV.int .i64 (-1)]) [])
 (Tr.chk (zE x1 (length x0))
  (Tr.chk (jA x0 x1 [45]) (Tr.br (pK x0 x1 [45]) (Tr.chk (bif a1 then true else a2) (Tr.br (bif a1 then true else a3.1 != 2) (Tr.re (AV.tup [AV.agg [AV.str [],AV.int .i64 0,AV.int .i64 0,AV.str [],AV.str [],AV.nils],AV.int .i64 (-1)]) []) (Tr.chk a2 (Tr.chk (OA [45] a3.2) (Tr.br (!a4.2)
  (Tr.re (AV.tup [AV.agg [AV.str [],AV.int .i64 0,AV.int .i64 0,AV.str [],AV.str [],AV.nils],AV.int .i64 (-1)]) []) (Tr.re (AV.tup [AV.agg [AV.str [108,105,116],AV.int .i64 a4.1.1,AV.int .i64 a4.1.2.1,AV.str a4.1.2.2,AV.str [],AV.nils],AV.int .i64 (IntKind.i64.wrap (x1+2))]) [])))))) (Tr.br (a5.1==2) (Tr.chk (OA [] a5.2) (Tr.br (!a6.2)
  (Tr.re (AV.tup [AV.agg [AV.str [],AV.int .i64 0,AV.int .i64 0,AV.str [],AV.str [],AV.nils],AV.int .i64 (-1)]) []) (Tr.re (AV.tup [AV.agg [AV.str [108,105,116],AV.int .i64 a6.1.1,AV.int .i64 a6.1.2.1,AV.str a6.1.2.2,AV.str [],AV.nils],AV.int .i64 a0]) []))) (Tr.br (a5.1==3) (Tr.re
  (AV.tup [AV.agg [AV.str [108,105,116],AV.int .i64 2,AV.int .i64 0,AV.str a5.2,AV.str [],AV.nils],AV.int .i64 a0]) []) (Tr.chk (jA x0 x1 [40]) (Tr.br (pK x0 x1 [40]) Tr.err (Tr.chk (jA x0 x1 [84,82,85,69]&&bif a7 then true else jA x0 x1 [70,65,76,83,69]&&bif a8 then true else jA x0 x1 [78,85,76,76])
  (Tr.br (bif a7 then true else bif a8 then true else pK x0 x1 [78,85,76,76]) (Tr.chk (Ey a5.2) (Tr.re (AV.tup [AV.agg [AV.str [108,105,116],AV.int .i64 a9.1.1,AV.int .i64 a9.1.2.1,AV.str a9.1.2.2,AV.str [],AV.nils],AV.int .i64 a0]) [])) (Tr.br (a5.1==1) (Tr.re (AV.tup [AV.agg [AV.str [99,111,108],AV.int .i64 0,AV.int .i64 0,AV.str [],AV.str a5.2,AV.nils],
  AV.int .i64 a0]) []) (Tr.re (AV.tup [AV.agg [AV.str [],AV.int .i64 0,AV.int .i64 0,AV.str [],AV.str [],AV.nils],AV.int .i64 (-1)]) [])))))))))))
noncomputable def Ci (x0:Sem zp.sl) (x1:Sem zg):=zT [Sh.expr,zg] t0 100000000 (zef x0 x1)
noncomputable def RP (x0:Sem zp.sl) (x1:Sem zg):=(Ci x0 x1).isSome
noncomputable def oE (x0:Sem zp.sl) (x1:Sem zg):=o2 (Ci x0 x1)
noncomputable def Tc:=FT [zp.sl,zg] [Sh.expr,zg] fun x=>Ci x.1 x.2.1
theorem Qh:FK 273 Tc:=y5.T1 (f:=Tryz.f273) (keep:=k0) (e:=e0)

noncomputable def HK:=TY.add 273 Tc
theorem y6:zm HK:=y5.add Qh
end Cad
