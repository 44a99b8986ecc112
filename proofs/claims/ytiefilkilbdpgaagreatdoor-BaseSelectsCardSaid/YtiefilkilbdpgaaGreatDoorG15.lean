/- The document's reader: parts, passing. The document's reader: names. The document's values that are known; expressions' forms and types; the same tables. The document's order, logic; expressions that may be; the same plans. The document's texts of numbers. The document's texts of values. The document's texts of expressions. The document's reader: tokens. The document's reader: cut; names. The document's writer: creates; columns, sources. The document's writer. The document's statements: texts. The document's reader: numbers. The document's reader: atoms. The document's reader: atoms. -/
import Derived.Test.YtiefilkilbdpgaaGreatDoorG14
namespace Cad
open Go Go.Proofs
open Int (toNat)
open List (getD)
open List (length)
noncomputable section
set_option maxHeartbeats 4000000

def Xd (x0:Sem (Sh.int IntKind.u8)):Tr (Empty ⊕ au):=
 Tr.chk (fU x0&&bif gK x0 then true else lT x0) (Tr.re (AV.bool (bif gK x0 then true else bif n9 x0 then true else x0==95)) [])
def xX (x0:Sem (Sh.int IntKind.u8)):=aq [Sh.bool] t0 100000000 (Xd x0)
def xW (x0:Sem (Sh.int IntKind.u8)):=(xX x0).isSome
def CJ (x0:Sem (Sh.int IntKind.u8)):=o1 (xX x0)
def MP:=FT [Sh.int IntKind.u8] [Sh.bool] fun x=>xX x.1
theorem Ke:FK 178 MP:=hJ.T1 (f:=Tryz.f178) (keep:=k0) (e:=e0)

abbrev Rp:=my [(3,[0,3,4])]
inductive u5 where
 | h3 (s0:TS) (l3:LS) (i4:Int)
abbrev Wo:u5→Nat×St
 | .h3 s0 l3 i4=>(3,⟨tm 18 [(0,AV.str s0),(3,AV.sl Sh.str l3),(4,AV.int .i64 i4)],[]⟩)
def Xb (x0:TS):Tr (u5 ⊕ au):=
 Tr.to
 (u5.h3 x0
  [[65,78,68],[79,82],[78,79,84],[73,83],[78,85,76,76],[84,82,85,69],[70,65,76,83,69],[67,82,69,65,84,69],[84,65,66,76,69],[75,69,89],[85,78,73,81,85,69],[82,69,70,69,82,69,78,67,69,83],[67,72,69,67,75],[68,82,79,80],[73,78,83,69,82,84],
  [73,78,84,79],[86,65,76,85,69,83],[85,80,68,65,84,69],[83,69,84],[87,72,69,82,69],[68,69,76,69,84,69],[70,82,79,77],[83,69,76,69,67,84],[71,82,65,78,84],[82,69,86,79,75,69],[82,69,65,68],[87,82,73,84,69],[79,78],[84,79],
  [77,73,71,82,65,84,69],[67,79,80,89],[74,79,73,78],[71,82,79,85,80],[66,89],[83,85,77],[73,78,84],[84,69,88,84],[66,79,79,76]]
  0)
def Zu:u5→Tr (u5 ⊕ au)
 | .h3 s0 l3 i4=>
  Tr.br (decide (i4 < (↑l3.length:Int)))
  (Tr.chk (zH i4 l3.length) (Tr.br (l3.getD i4.toNat (zj Sh.str)==s0) (Tr.re (AV.kb true) []) (Tr.to (u5.h3 s0 l3 (IntKind.i64.wrap (i4+1))))))
  (Tr.re (AV.kb false) [])
def CL (x0:TS):=aq [Sh.bool] Zu 100000000 (Xb x0)
def CK (x0:TS):=(CL x0).isSome
def I0 (x0:TS):=o1 (CL x0)
def ML:=FT [Sh.str] [Sh.bool] fun x=>CL x.1
theorem Ka:FK 181 ML:=hJ.T1 (f:=Tryz.f181) (keep:=Rp) (e:=Wo)

abbrev HF:Nat→zS:=fun _=>{ }
theorem RD:zz xr.P 106 Tryz.f106 2:=aG (by kernel_rfl)
def Hb (y:zu zF) (x0:TS):Tr (Empty ⊕ au):=
 let a0:=(y.1,y.2.1,y.2.2.1,())
 let a1:=lh a0 x0
 Tr.chk (iP a0 x0)
 (Tr.br a1.1 (Tr.re (AV.kb true) (bx zF (a1.2.1,IntKind.i64.wrap (a1.2.2.1+1),a1.2.2.2)))
  (Tr.re (AV.kb false) (bx zF a1.2)))
theorem QB (y:zu zF) (x0:TS):rn xr 1 HF Tryz.f106 [AV.ptr 0 0,zy Sh.str x0] (bx zF y)=(Hb y x0).map (lf Tryz.f106 e0):=by kernel_rfl
def Ei (y:zu zF) (x0:TS):Option (zw (List.map some [Sh.bool])×zu zF):=uT [Sh.bool] zF t0 100000000 (Hb y x0)
def aD (y:zu zF) (x0:TS):Bool:=(Ei y x0).isSome
def aV (y:zu zF) (x0:TS):(Sem Sh.bool)×zu zF:=(fun r:zw (List.map some [Sh.bool])×zu zF=>(r.1.1,r.2)) ((Ei y x0).getD (bD [Sh.bool],eS zF))
def Ms:zB:=uG zF [Sh.str] [Sh.bool] zF (fun y x=>aD y x.1) fun y x=>(((aV y x.1).1,()),(aV y x.1).2)
theorem JR:FK 106 Ms:=oM (ps:=zF) (ks:=[Sh.str]) (outs:=[Sh.bool]) (keep:=HF) (gas:=400) (n:=100000000) (e:=e0) (t:=t0) (i:=fun y x=>Hb y x.1) hJ RD (fun y x=>QB y x.1) (FO _ _ _ _ _) (fun _ _=>by kernel_rfl) (fun _ _=>by kernel_rfl)

abbrev XX:=my [(6,[2,3,5]),(11,[2,3,6]),(16,[2,3,7]),(21,[2,3,8]),(26,[2,3,9]),(31,[2,3,10])]
inductive mf where
 | h6 (i5:Int) (z0:zu kB) (z1:zu kB)
 | h11 (i6:Int) (z0:zu kB) (z1:zu kB)
 | h16 (i7:Int) (z0:zu kB) (z1:zu kB)
 | h21 (i8:Int) (z0:zu kB) (z1:zu kB)
 | h26 (i9:Int) (z0:zu kB) (z1:zu kB)
 | h31 (i10:Int) (z0:zu kB) (z1:zu kB)
abbrev Z7:mf→Nat×St
 | .h6 i5 z0 z1=>(6,⟨tm 238 [(2,AV.ptr 0 0),(3,AV.ptr 1 0),(5,AV.int .i64 i5)],[AO.box (bn [] kB z0),AO.box (bn [] kB z1)]⟩)
 | .h11 i6 z0 z1=>(11,⟨tm 238 [(2,AV.ptr 0 0),(3,AV.ptr 1 0),(6,AV.int .i64 i6)],[AO.box (bn [] kB z0),AO.box (bn [] kB z1)]⟩)
 | .h16 i7 z0 z1=>(16,⟨tm 238 [(2,AV.ptr 0 0),(3,AV.ptr 1 0),(7,AV.int .i64 i7)],[AO.box (bn [] kB z0),AO.box (bn [] kB z1)]⟩)
 | .h21 i8 z0 z1=>(21,⟨tm 238 [(2,AV.ptr 0 0),(3,AV.ptr 1 0),(8,AV.int .i64 i8)],[AO.box (bn [] kB z0),AO.box (bn [] kB z1)]⟩)
 | .h26 i9 z0 z1=>(26,⟨tm 238 [(2,AV.ptr 0 0),(3,AV.ptr 1 0),(9,AV.int .i64 i9)],[AO.box (bn [] kB z0),AO.box (bn [] kB z1)]⟩)
 | .h31 i10 z0 z1=>(31,⟨tm 238 [(2,AV.ptr 0 0),(3,AV.ptr 1 0),(10,AV.int .i64 i10)],[AO.box (bn [] kB z0),AO.box (bn [] kB z1)]⟩)
def zbr (x0:Sem zq) (x1:Sem zq):Tr (mf ⊕ au):=
 let a0 := !x0.1==x1.1
 let a1 := !x0.2.1==x1.2.1
 let a2 := !x0.2.2.1==x1.2.2.1
 let a3 := !x0.2.2.2.2.2.1==x1.2.2.2.2.2.1
 let a4 := !x0.2.2.2.2.2.2.2.2.2.2.2.2==x1.2.2.2.2.2.2.2.2.2.2.2.2
 let a5:=zC x0.2.2.2.2.2.2.2.2.1
 let a6:=zC x1.2.2.2.2.2.2.2.2.1
 let a7 := !pz a5 a6
 let a8:=zC x0.2.2.2.2.2.2.2.2.2.2.2.1
 let a9:=zC x1.2.2.2.2.2.2.2.2.2.2.2.1
 Tr.chk
 (bif a0 then true
 else bif a1 then true else bif a2 then true else bif a3 then true else bif a4 then true else lR a5 a6&&bif a7 then true else lR a8 a9)
 (Tr.br (bif a0 then true else bif a1 then true else bif a2 then true else bif a3 then true else bif a4 then true else bif a7 then true else !pz a8 a9)
  (Tr.re (AV.kb false) [])
  (Tr.br (bif (↑(length x0.2.2.2.1):Int) != (↑(length x1.2.2.2.1):Int) then true else bif (↑(length x0.2.2.2.2.1):Int) != (↑(length x1.2.2.2.2.1):Int) then true else bif (↑(length x0.2.2.2.2.2.2.1):Int) != (↑(length x1.2.2.2.2.2.2.1):Int) then true else bif (↑(length x0.2.2.2.2.2.2.2.1):Int) != (↑(length x1.2.2.2.2.2.2.2.1):Int) then true
  else bif (↑(length x0.2.2.2.2.2.2.2.2.2.1):Int) != (↑(length x1.2.2.2.2.2.2.2.2.2.1):Int) then true else (↑(length x0.2.2.2.2.2.2.2.2.2.2.1):Int) != (↑(length x1.2.2.2.2.2.2.2.2.2.2.1):Int)) (Tr.re (AV.kb false) []) (Tr.to (mf.h6 0 (x0,()) (x1,())))))
def zb0:mf→Tr (mf ⊕ au)
 | .h6 i5 z0 z1=>
  let a0:=(↑(length z0.1.2.2.2.1):Int)
  Tr.br (decide (i5 < a0))
  (Tr.chk (zH i5 (length z0.1.2.2.2.1))
   (Tr.chk (zH i5 (length z1.1.2.2.2.1)) (Tr.br (!getD z0.1.2.2.2.1 i5.toNat (zj Sh.str)==getD z1.1.2.2.2.1 i5.toNat (zj Sh.str)) (Tr.re (AV.kb false) []) (Tr.to (mf.h6 (IntKind.i64.wrap (i5+1)) z0 z1)))))
  (Tr.to (mf.h11 0 z0 z1))
 | .h11 i6 z0 z1=>
  let a0:=(↑(length z0.1.2.2.2.2.1):Int)
  let a1:=getD z0.1.2.2.2.2.1 i6.toNat (zj zi)
  let a2:=getD z1.1.2.2.2.2.1 i6.toNat (zj zi)
  Tr.br (decide (i6 < a0))
  (Tr.chk (zH i6 (length z0.1.2.2.2.2.1))
   (Tr.chk (zH i6 (length z1.1.2.2.2.2.1)) (Tr.br (!(a1.1==a2.1&&(a1.2.1==a2.2.1&&(a1.2.2==a2.2.2&&true)))) (Tr.re (AV.kb false) []) (Tr.to (mf.h11 (IntKind.i64.wrap (i6+1)) z0 z1)))))
  (Tr.to (mf.h16 0 z0 z1))
 | .h16 i7 z0 z1=>
  let a0:=(↑(length z0.1.2.2.2.2.2.2.1):Int)
  Tr.br (decide (i7 < a0))
  (Tr.chk (zH i7 (length z0.1.2.2.2.2.2.2.1))
   (Tr.chk (zH i7 (length z1.1.2.2.2.2.2.2.1)) (Tr.br (!getD z0.1.2.2.2.2.2.2.1 i7.toNat (zj Sh.str)==getD z1.1.2.2.2.2.2.2.1 i7.toNat (zj Sh.str)) (Tr.re (AV.kb false) []) (Tr.to (mf.h16 (IntKind.i64.wrap (i7+1)) z0 z1)))))
  (Tr.to (mf.h21 0 z0 z1))
 | .h21 i8 z0 z1=>
  let a0:=(↑(length z0.1.2.2.2.2.2.2.2.1):Int)
  let a1:=getD z0.1.2.2.2.2.2.2.2.1 i8.toNat (zj bu)
  let a2:=getD z1.1.2.2.2.2.2.2.2.1 i8.toNat (zj bu)
  Tr.br (decide (i8 < a0))
  (Tr.chk (zH i8 (length z0.1.2.2.2.2.2.2.2.1))
   (Tr.chk (zH i8 (length z1.1.2.2.2.2.2.2.2.1)) (Tr.br (!(a1.1==a2.1&&(a1.2==a2.2&&true))) (Tr.re (AV.kb false) []) (Tr.to (mf.h21 (IntKind.i64.wrap (i8+1)) z0 z1)))))
  (Tr.to (mf.h26 0 z0 z1))
 | .h26 i9 z0 z1=>
  let a0:=(↑(length z0.1.2.2.2.2.2.2.2.2.2.1):Int)
  let a1:=getD z0.1.2.2.2.2.2.2.2.2.2.1 i9.toNat (zj zf)
  let a2:=getD z1.1.2.2.2.2.2.2.2.2.2.1 i9.toNat (zj zf)
  Tr.br (decide (i9 < a0))
  (Tr.chk (zH i9 (length z0.1.2.2.2.2.2.2.2.2.2.1))
   (Tr.chk (zH i9 (length z1.1.2.2.2.2.2.2.2.2.2.1)) (Tr.br (!(a1.1==a2.1&&(a1.2.1==a2.2.1&&(a1.2.2==a2.2.2&&true)))) (Tr.re (AV.kb false) []) (Tr.to (mf.h26 (IntKind.i64.wrap (i9+1)) z0 z1)))))
  (Tr.to (mf.h31 0 z0 z1))
 | .h31 i10 z0 z1=>
  let a0:=(↑(length z0.1.2.2.2.2.2.2.2.2.2.2.1):Int)
  let a1:=zH i10 (length z0.1.2.2.2.2.2.2.2.2.2.2.1)
  let a2:=zH i10 (length z1.1.2.2.2.2.2.2.2.2.2.2.1)
  let a3:=getD z0.1.2.2.2.2.2.2.2.2.2.2.1 i10.toNat (zj aF)
  let a4:=getD z1.1.2.2.2.2.2.2.2.2.2.2.1 i10.toNat (zj aF)
  let a5 := !a3.1==a4.1
  let a6:=zC a3.2
  let a7:=zC a4.2
  Tr.br (decide (i10 < a0))
  (Tr.chk (a1&&(a2&&bif a5 then true else a1&&(a2&&lR a6 a7)))
   (Tr.br (bif a5 then true else !pz a6 a7) (Tr.re (AV.kb false) []) (Tr.to (mf.h31 (IntKind.i64.wrap (i10+1)) z0 z1))))
  (Tr.re (AV.kb true) [])
def x4 (x0:Sem zq) (x1:Sem zq):=aq [Sh.bool] zb0 100000000 (zbr x0 x1)
def L9 (x0:Sem zq) (x1:Sem zq):=(x4 x0 x1).isSome
def Sr (x0:Sem zq) (x1:Sem zq):=o1 (x4 x0 x1)
def Ue:=FT [zq,zq] [Sh.bool] fun x=>x4 x.1 x.2.1
theorem PX:FK 184 Ue:=hJ.T1 (f:=Tryz.f184) (keep:=XX) (e:=Z7)

def vS:=xr.addL [(178,MP),(181,ML),(106,Ms),(184,Ue)]
theorem lC:zm vS:=hJ.addL <| fc Ke <| fc Ka <| fc JR <| fc PX gX
end
noncomputable section

abbrev Rn:=my [(2,[0,3])]
inductive u4 where
 | h2 (s0:TS) (i3:Int)
abbrev Wn:u4→Nat×St
 | .h2 s0 i3=>(2,⟨tm 28 [(0,AV.str s0),(3,AV.int .i64 i3)],[]⟩)
def Xa (x0:TS):Tr (u4 ⊕ au):=
 Tr.to (u4.h2 x0 0)
def Zt:u4→Tr (u4 ⊕ au)
 | .h2 s0 i3=>
  let a0:=(↑(getD s0 i3.toNat 0).toNat:Int)
  let a1:=decide (1≤(↑(length s0):Int))
  let a2:=decide ((↑(length s0):Int)≤16)
  let a3:=(↑(getD s0 (toNat 0) 0).toNat:Int)
  Tr.br (decide (i3 < (↑(length s0):Int)))
  (Tr.chk (zH i3 (length s0)) (Tr.chk (xW a0) (Tr.br (!CJ a0) (Tr.re (AV.kb false) []) (Tr.to (u4.h2 s0 (IntKind.i64.wrap (i3+1)))))))
  (Tr.chk (bif a1 then bif a2 then zH 0 (length s0)&&lT a3 else true else true)
   (Tr.re (AV.bool (bif a1 then bif a2 then n9 a3 else false else false)) []))
def xV (x0:TS):=aq [Sh.bool] Zt 100000000 (Xa x0)
def xU (x0:TS):=(xV x0).isSome
def tO (x0:TS):=o1 (xV x0)
def MJ:=FT [Sh.str] [Sh.bool] fun x=>xV x.1
theorem J8:FK 185 MJ:=lC.T1 (f:=Tryz.f185) (keep:=Rn) (e:=Wn)

abbrev HG:Nat→zS:=fun _=>{ }
theorem RE:zz vS.P 108 Tryz.f108 2:=aG (by kernel_rfl)
def Hc (y:zu zF) (x0:TS):Tr (Empty ⊕ au):=
 let a0:=(y.1,y.2.1,y.2.2.1,())
 let a1:=aV a0 x0
 Tr.chk (aD a0 x0)
 (Tr.br (!a1.1) (Tr.re (AV.tup []) [AO.box [AV.sl zr a1.2.1,AV.int .i64 a1.2.2.1,AV.kb false]])
  (Tr.re (AV.tup []) (bx zF a1.2)))
theorem QC (y:zu zF) (x0:TS):rn vS 1 HG Tryz.f108 [AV.ptr 0 0,zy Sh.str x0] (bx zF y)=(Hc y x0).map (lf Tryz.f108 e0):=by kernel_rfl
def Eg (y:zu zF) (x0:TS):Option (zw (List.map some [])×zu zF):=uT [] zF t0 100000000 (Hc y x0)
def zI (y:zu zF) (x0:TS):Bool:=(Eg y x0).isSome
def zR (y:zu zF) (x0:TS):zu zF:=(fun r:zw (List.map some [])×zu zF=>r.2) ((Eg y x0).getD (bD [],eS zF))
def Mt:zB:=uG zF [Sh.str] [] zF (fun y x=>zI y x.1) fun y x=>((),zR y x.1)
theorem JS:FK 108 Mt:=oM (ps:=zF) (ks:=[Sh.str]) (outs:=[]) (keep:=HG) (gas:=400) (n:=100000000) (e:=e0) (t:=t0) (i:=fun y x=>Hc y x.1) lC RE (fun y x=>QC y x.1) (FO _ _ _ _ _) (fun _ _=>by kernel_rfl) (fun _ _=>by kernel_rfl)

abbrev HH:Nat→zS:=fun _=>{ }
theorem RG:zz vS.P 109 Tryz.f109 1:=aG (by kernel_rfl)
def He (y:zu zF):Tr (Empty ⊕ au):=
 let a0:=decide (y.2.1 < (↑(length y.1):Int))
 let a1:=zH y.2.1 (length y.1)
 let a2:=getD y.1 (toNat y.2.1) (zj zr)
 let a3:=a2.1==1
 let a4:=IntKind.i64.wrap (y.2.1+1)
 let a5:=IntKind.i64.wrap (a4 - 1)
 let a6:=getD y.1 a5.toNat (zj zr)
 Tr.chk (bif a0 then a1&&bif a3 then a1&&CK a2.2 else true else true)
 (Tr.br (bif a0 then bif a3 then !I0 a2.2 else false else false)
  (Tr.chk (zH a5 (length y.1)) (Tr.re (AV.str a6.2) (bx zF (y.1,a4,y.2.2))))
  (Tr.re (AV.str []) [AO.box [AV.sl zr y.1,AV.int .i64 y.2.1,AV.kb false]]))
theorem QE (y:zu zF):rn vS 1 HH Tryz.f109 [AV.ptr 0 0] (bx zF y)=(He y).map (lf Tryz.f109 e0):=by kernel_rfl
def Eh (y:zu zF):Option (zw (List.map some [Sh.str])×zu zF):=uT [Sh.str] zF t0 100000000 (He y)
def zV (y:zu zF):Bool:=(Eh y).isSome
def ay (y:zu zF):(Sem Sh.str)×zu zF:=(fun r:zw (List.map some [Sh.str])×zu zF=>(r.1.1,r.2)) ((Eh y).getD (bD [Sh.str],eS zF))
def Mv:zB:=uG zF [] [Sh.str] zF (fun y _=>zV y) fun y _=>(((ay y).1,()),(ay y).2)
theorem JU:FK 109 Mv:=oM (ps:=zF) (ks:=[]) (outs:=[Sh.str]) (keep:=HH) (gas:=400) (n:=100000000) (e:=e0) (t:=t0) (i:=fun y x=>He y) lC RG (fun y x=>QE y) (FO _ _ _ _ _) (fun _ _=>by kernel_rfl) (fun _ _=>by kernel_rfl)

def vT:=vS.addL [(185,MJ),(108,Mt),(109,Mv)]
theorem gW:zm vT:=lC.addL <| fc J8 <| fc JS <| fc JU gX
end
noncomputable section

def W5 (x0:Sem zf):Tr (Empty ⊕ au):=
 Tr.chk (tK x0)
 (Tr.br (A6 x0) (Tr.re (AV.agg [AV.int .i64 x0.1,AV.int .i64 x0.2.1,AV.str x0.2.2]) [])
  (Tr.re (AV.agg [AV.int .i64 0,AV.int .i64 0,AV.str []]) []))
def xT (x0:Sem zf):=aq [zf] t0 100000000 (W5 x0)
def qS (x0:Sem zf):=(xT x0).isSome
def eb (x0:Sem zf):=o1 (xT x0)
def Mr:=FT [zf] [zf] fun x=>xT x.1
theorem JQ:FK 124 Mr:=gW.T1 (f:=Tryz.f124) (keep:=k0) (e:=e0)

def W4 (x0:Sem zf) (x1:Sem Sh.bool):Tr (Empty ⊕ au):=
 Tr.chk (IP x1) (Tr.re (AV.bool (x0.1==(bH x1).1&&(x0.2.1==(bH x1).2.1&&(x0.2.2==(bH x1).2.2&&true)))) [])
def IM (x0:Sem zf) (x1:Sem Sh.bool):=aq [Sh.bool] t0 100000000 (W4 x0 x1)
def mC (x0:Sem zf) (x1:Sem Sh.bool):=(IM x0 x1).isSome
def n5 (x0:Sem zf) (x1:Sem Sh.bool):=o1 (IM x0 x1)
def Mq:=FT [zf,Sh.bool] [Sh.bool] fun x=>IM x.1 x.2.1
theorem JP:FK 122 Mq:=gW.T1 (f:=Tryz.f122) (keep:=k0) (e:=e0)

def xn (g:Sem Sh.expr→Sem zg→Sem Sh.bool) (c:Sem Sh.expr→Sem zg→Bool):ba:=vT.add 244 (zA [Sh.expr,zg] [Sh.bool] (fun x=>c x.1 x.2.1) fun x=>(g x.1 x.2.1,()))
theorem BU {g:Sem Sh.expr→Sem zg→Sem Sh.bool} {c:Sem Sh.expr→Sem zg→Bool} (hg:FK 244 (zA [Sh.expr,zg] [Sh.bool] (fun x=>c x.1 x.2.1) fun x=>(g x.1 x.2.1,()))):zm (xn g c):=gW.add hg
abbrev HO:Nat→zS:=fun _=>{ }
theorem RP (g:Sem Sh.expr→Sem zg→Sem Sh.bool) (c:Sem Sh.expr→Sem zg→Bool):zz (xn g c).P 244 Tryz.f244 2:=aG (by kernel_rfl)
def Hl (g:Sem Sh.expr→Sem zg→Sem Sh.bool) (c:Sem Sh.expr→Sem zg→Bool) (x0:Sem Sh.expr) (x1:Sem zg):Tr (Empty ⊕ au):=
 let a0:=(↑(ze.l x0).length:Int)==0
 let a1:=(ze.v x0).1==0&&((ze.v x0).2.1==0&&((ze.v x0).2.2==[]&&true))
 let a2:=(↑(ze.l x0).length:Int)==1
 let a3:=zH 0 (ze.l x0).length
 let a4:=zC ((ze.l x0).getD (toNat 0) (zj Sh.expr))
 let a5:=IntKind.i64.wrap (x1 - 1)
 let a6:=c a4 a5
 let a7:=g a4 a5
 let a8:=(↑(ze.l x0).length:Int)==2
 let a9:=zC ((ze.l x0).getD (toNat 1) (zj Sh.expr))
 Tr.br (x1==0) (Tr.re (AV.kb false) [])
 (Tr.br (ze.op x0==[108,105,116])
  (Tr.chk (tK (ze.v x0)) (Tr.re (AV.bool (bif A6 (ze.v x0) then bif ze.s x0==[] then a0 else false else false)) []))
  (Tr.br (ze.op x0==[99,111,108]) (Tr.chk (bif a1 then xU (ze.s x0)&&bif tO (ze.s x0) then CK (ze.s x0) else true else true) (Tr.re (AV.bool (bif a1 then bif tO (ze.s x0) then bif !I0 (ze.s x0) then a0 else false else false else false)) [])) (Tr.br (bif ze.op x0==[110,111,116] then true else ze.op x0==[110,117,108,108])
  (Tr.chk (bif a1 then bif ze.s x0==[] then bif a2 then a3&&a6 else true else true else true) (Tr.re (AV.bool (bif a1 then bif ze.s x0==[] then bif a2 then a7 else false else false else false)) [])) (Tr.chk (IV (ze.op x0)) (Tr.br (Oq (ze.op x0)) (Tr.chk
  (bif a1 then bif ze.s x0==[] then bif a8 then a3&&(a6&&bif a7 then zH 1 (ze.l x0).length&&c a9 a5 else true) else true else true else true) (Tr.re (AV.bool (bif a1 then bif ze.s x0==[] then bif a8 then bif a7 then g a9 a5 else false else false else false else false)) [])) (Tr.re (AV.kb false) []))))))
theorem QO (g:Sem Sh.expr→Sem zg→Sem Sh.bool) (c:Sem Sh.expr→Sem zg→Bool) (x0:Sem Sh.expr) (x1:Sem zg):rn (xn g c) 0 HO Tryz.f244 [zy Sh.expr x0,zy zg x1] []=(Hl g c x0 x1).map (lf Tryz.f244 e0):=by kernel_rfl
def n8 (o:Option (zw (List.map some [Sh.bool]))):Sem Sh.bool:=(fun r:zw (List.map some [Sh.bool])=>r.1) (o.getD (bD [Sh.bool]))
def L5 (g:Sem Sh.expr→Sem zg→Sem Sh.bool) (c:Sem Sh.expr→Sem zg→Bool) (x0:Sem Sh.expr) (x1:Sem zg):Option (zw (List.map some [Sh.bool])):=aq [Sh.bool] t0 100000000 (Hl g c x0 x1)
def gI:Nat→Sem Sh.expr→Sem zg→Option (zw (List.map some [Sh.bool]))
 | 0=>fun _ _=>none
 | n+1=>L5 (fun x0 x1=>n8 (gI n x0 x1)) fun x0 x1=>(gI n x0 x1).isSome
theorem HB:zz vT.P 244 Tryz.f244 2:=aG (by kernel_rfl)
theorem yK:∀ n,FK 244 (zA [Sh.expr,zg] [Sh.bool] (fun x=>(gI n x.1 x.2.1).isSome) fun x=>(n8 (gI n x.1 x.2.1),()))
 | 0=>cO ⟨Tryz.f244,HB.1,HB.2.1,HB.2.2.1⟩ (fun _=>rfl)
 | n+1=>g5 (E:=xn (fun x0 x1=>n8 (gI n x0 x1)) (fun x0 x1=>(gI n x0 x1).isSome)) (ks:=[Sh.expr,zg]) (outs:=[Sh.bool]) (keep:=HO) (gas:=400) (n:=100000000) (e:=e0) (t:=t0) (i:=fun x=>Hl (fun x0 x1=>n8 (gI n x0 x1)) (fun x0 x1=>(gI n x0 x1).isSome) x.1 x.2.1) (BU (yK n)) (RP _ _) (fun x=>QO _ _ x.1 x.2.1) (FO _ _ _ _ _) (fun _=>by kernel_rfl) (fun _=>by kernel_rfl)
def Eb (x0:Sem Sh.expr) (x1:Sem zg):Option (zw (List.map some [Sh.bool])):=gI 16 x0 x1
def Ea (x0:Sem Sh.expr) (x1:Sem zg):Bool:=(Eb x0 x1).isSome
def IT (x0:Sem Sh.expr) (x1:Sem zg):Sem Sh.bool:=n8 (Eb x0 x1)
def MS:zB:=zA [Sh.expr,zg] [Sh.bool] (fun x=>Ea x.1 x.2.1) fun x=>(IT x.1 x.2.1,())
theorem Kh:FK 244 MS:=yK 16

def An (g:Sem Sh.expr→Sem (Sh.sl zi)→Sem zg×Sem zg) (c:Sem Sh.expr→Sem (Sh.sl zi)→Bool):ba:=vT.add 187 (zA [Sh.expr,Sh.sl zi] [zg,zg] (fun x=>c x.1 x.2.1) fun x=>((g x.1 x.2.1).1,(g x.1 x.2.1).2,()))
theorem E1 {g:Sem Sh.expr→Sem (Sh.sl zi)→Sem zg×Sem zg} {c:Sem Sh.expr→Sem (Sh.sl zi)→Bool} (hg:FK 187 (zA [Sh.expr,Sh.sl zi] [zg,zg] (fun x=>c x.1 x.2.1) fun x=>((g x.1 x.2.1).1,(g x.1 x.2.1).2,()))):zm (An g c):=gW.add hg
abbrev HY:Nat→zS:=fun j=>if j=5 then { slots:=[1,2,6] } else { }
inductive EF where
 | h5 (l1:LC) (i6:Int) (z0:zu [CP.d Sh.expr])
abbrev Gz:EF→Nat×St
 | .h5 l1 i6 z0=>(5,⟨tm 116 [(1,AV.sl zi l1),(2,AV.ptr 0 0),(6,AV.int .i64 i6)],[AO.box (bn [] [CP.d Sh.expr] z0)]⟩)
theorem YQ (g:Sem Sh.expr→Sem zi.sl→Sem zg×Sem zg) (c:Sem Sh.expr→Sem zi.sl→Bool):zz (An g c).P 187 Tryz.f187 2:=aG (by kernel_rfl)
def Q8 (g:Sem Sh.expr→Sem zi.sl→Sem zg×Sem zg) (c:Sem Sh.expr→Sem zi.sl→Bool) (x0:Sem Sh.expr) (x1:Sem zi.sl):Tr (EF ⊕ au):=
 let a0:=zC ((ze.l x0).getD (toNat 0) (zj Sh.expr))
 let a1:=g a0 x1
 let a2:=zC ((ze.l x0).getD (toNat 1) (zj Sh.expr))
 let a3:=g a2 x1
 let a4:=ze.op x0==[110,117,108,108]
 let a5:=ze.op x0==[61]
 let a6:=a1.1 != 0
 let a7:=a3.1 != 0
 let a8:=ze.op x0==[60]
 let a9:=ze.op x0==[43]
 let a10:=a1.1 != 1
 let a11:=bif a7 then a3.1 != 1 else false
 let a12:=ze.op x0==[45]
 let a13:=a1.1 != 3
 let a14:=bif a7 then a3.1 != 3 else false
 let a15:=bif a6 then a10 else false
 let a16:=bif a6 then a13 else false
 Tr.br (ze.op x0==[108,105,116]) (Tr.re (AV.tup [AV.int .i64 (ze.v x0).1,AV.int .i64 0]) [])
 (Tr.br (ze.op x0==[99,111,108]) (Tr.to (EF.h5 x1 0 (x0,())))
  (Tr.chk (zH 0 (ze.l x0).length) (Tr.chk (c a0 x1) (Tr.br (a1.2 != 0) (Tr.re (AV.tup [AV.int .i64 0,AV.int .i64 a1.2]) []) (Tr.br ((↑(ze.l x0).length:Int)==2) (Tr.chk (zH 1 (ze.l x0).length) (Tr.chk (c a2 x1) (Tr.br (a3.2 != 0) (Tr.re (AV.tup [AV.int .i64 0,AV.int .i64 a3.2]) []) (Tr.br a4 (Tr.re (AV.tup [AV.int .i64 3,AV.int .i64 0]) []) (Tr.br a5
  (Tr.br (bif a6 then bif a7 then a1.1 != a3.1 else false else false) (Tr.re (AV.tup [AV.int .i64 0,AV.int .i64 5]) []) (Tr.re (AV.tup [AV.int .i64 3,AV.int .i64 0]) [])) (Tr.br a8 (Tr.br (bif a6 then bif a7 then a1.1 != a3.1 else false else false) (Tr.re (AV.tup [AV.int .i64 0,AV.int .i64 5]) []) (Tr.re (AV.tup [AV.int .i64 3,AV.int .i64 0]) [])) (Tr.br a9
  (Tr.br (bif a6 then bif a10 then true else a11 else a11) (Tr.re (AV.tup [AV.int .i64 0,AV.int .i64 5]) []) (Tr.re (AV.tup [AV.int .i64 1,AV.int .i64 0]) [])) (Tr.br a12 (Tr.br (bif a6 then bif a10 then true else a11 else a11) (Tr.re (AV.tup [AV.int .i64 0,AV.int .i64 5]) []) (Tr.re (AV.tup [AV.int .i64 1,AV.int .i64 0]) []))
  (Tr.br (bif a6 then bif a13 then true else a14 else a14) (Tr.re (AV.tup [AV.int .i64 0,AV.int .i64 5]) []) (Tr.re (AV.tup [AV.int .i64 3,AV.int .i64 0]) [])))))))))) (Tr.br a4 (Tr.re (AV.tup [AV.int .i64 3,AV.int .i64 0]) []) (Tr.br a5 (Tr.br (bif a6 then bif a6 then a1.1 != a1.1 else false else false) (Tr.re (AV.tup [AV.int .i64 0,AV.int .i64 5]) [])
  (Tr.re (AV.tup [AV.int .i64 3,AV.int .i64 0]) [])) (Tr.br a8 (Tr.br (bif a6 then bif a6 then a1.1 != a1.1 else false else false) (Tr.re (AV.tup [AV.int .i64 0,AV.int .i64 5]) []) (Tr.re (AV.tup [AV.int .i64 3,AV.int .i64 0]) [])) (Tr.br a9 (Tr.br (bif a6 then bif a10 then true else a15 else a15) (Tr.re (AV.tup [AV.int .i64 0,AV.int .i64 5]) [])
  (Tr.re (AV.tup [AV.int .i64 1,AV.int .i64 0]) [])) (Tr.br a12 (Tr.br (bif a6 then bif a10 then true else a15 else a15) (Tr.re (AV.tup [AV.int .i64 0,AV.int .i64 5]) []) (Tr.re (AV.tup [AV.int .i64 1,AV.int .i64 0]) [])) (Tr.br (bif a6 then bif a13 then true else a16 else a16) (Tr.re (AV.tup [AV.int .i64 0,AV.int .i64 5]) []) (Tr.re (AV.tup [AV.int .i64 3,AV.int .i64 0]) []))))))))))))
theorem WW (g:Sem Sh.expr→Sem zi.sl→Sem zg×Sem zg) (c:Sem Sh.expr→Sem zi.sl→Bool) (x0:Sem Sh.expr) (x1:Sem zi.sl):rn (An g c) 0 HY Tryz.f187 [zy Sh.expr x0,zy zi.sl x1] []=(Q8 g c x0 x1).map (lf Tryz.f187 Gz):=by kernel_rfl
def SG (_:Sem Sh.expr→Sem zi.sl→Sem zg×Sem zg) (_:Sem Sh.expr→Sem zi.sl→Bool):EF→Tr (EF ⊕ au)
 | .h5 l1 i6 z0=>
  let a0:=l1.getD i6.toNat (zj zi)
  Tr.br (decide (i6 < (↑l1.length:Int)))
  (Tr.chk (zH i6 l1.length)
   (Tr.br (a0.1==ze.s z0.1) (Tr.chk (zH i6 l1.length) (Tr.re (AV.tup [AV.int .i64 a0.2.1,AV.int .i64 0]) [])) (Tr.to (EF.h5 l1 (IntKind.i64.wrap (i6+1)) z0))))
  (Tr.re (AV.tup [AV.int .i64 0,AV.int .i64 4]) [])
theorem Zc (g:Sem Sh.expr→Sem zi.sl→Sem zg×Sem zg) (c:Sem Sh.expr→Sem zi.sl→Bool):∀ s,run (An g c) 0 HY (Func.results Tryz.f187).toList 400 (zx Tryz.f187 (Gz s).1) (Gz s).2=(SG g c s).map (lf Tryz.f187 Gz)
 | .h5 l1 i6 z0=>by kernel_rfl
def jS (o:Option (zw (List.map some [zg,zg]))):Sem zg×Sem zg:=(fun r:zw (List.map some [zg,zg])=>(r.1,r.2.1)) (o.getD (bD [zg,zg]))
def L4 (g:Sem Sh.expr→Sem zi.sl→Sem zg×Sem zg) (c:Sem Sh.expr→Sem zi.sl→Bool) (x0:Sem Sh.expr) (x1:Sem zi.sl):Option (zw (List.map some [zg,zg])):=aq [zg,zg] (SG g c) 100000000 (Q8 g c x0 x1)
def ep:Nat→Sem Sh.expr→Sem zi.sl→Option (zw (List.map some [zg,zg]))
 | 0=>fun _ _=>none
 | n+1=>L4 (fun x0 x1=>jS (ep n x0 x1)) fun x0 x1=>(ep n x0 x1).isSome
theorem Rd:zz vT.P 187 Tryz.f187 2:=aG (by kernel_rfl)
theorem Da:∀ n,FK 187 (zA [Sh.expr,zi.sl] [zg,zg] (fun x=>(ep n x.1 x.2.1).isSome) fun x=>((jS (ep n x.1 x.2.1)).1,(jS (ep n x.1 x.2.1)).2,()))
 | 0=>cO ⟨Tryz.f187,Rd.1,Rd.2.1,Rd.2.2.1⟩ (fun _=>rfl)
 | n+1=>g5 (E:=An (fun x0 x1=>jS (ep n x0 x1)) (fun x0 x1=>(ep n x0 x1).isSome)) (ks:=[Sh.expr,zi.sl]) (outs:=[zg,zg]) (keep:=HY) (gas:=400) (n:=100000000) (e:=Gz) (t:=SG (fun x0 x1=>jS (ep n x0 x1)) (fun x0 x1=>(ep n x0 x1).isSome)) (i:=fun x=>Q8 (fun x0 x1=>jS (ep n x0 x1)) (fun x0 x1=>(ep n x0 x1).isSome) x.1 x.2.1) (E1 (Da n)) (YQ _ _) (fun x=>WW _ _ x.1 x.2.1) (Zc _ _) (fun _=>by kernel_rfl) (fun _=>by kernel_rfl)
def D9 (x0:Sem Sh.expr) (x1:Sem zi.sl):Option (zw (List.map some [zg,zg])):=ep 16 x0 x1
def L3 (x0:Sem Sh.expr) (x1:Sem zi.sl):Bool:=(D9 x0 x1).isSome
def IS (x0:Sem Sh.expr) (x1:Sem zi.sl):Sem zg×Sem zg:=jS (D9 x0 x1)
def Ui:zB:=zA [Sh.expr,zi.sl] [zg,zg] (fun x=>L3 x.1 x.2.1) fun x=>((IS x.1 x.2.1).1,(IS x.1 x.2.1).2,())
theorem P1:FK 187 Ui:=Da 16

abbrev XK:=my [(4,[2,3,5]),(9,[2,3,6]),(14,[2,3,7])]
inductive uz where
 | h4 (i5:Int) (z0:zu [CP.d zE]) (z1:zu [CP.d zE])
 | h9 (i6:Int) (z0:zu [CP.d zE]) (z1:zu [CP.d zE])
 | h14 (i7:Int) (z0:zu [CP.d zE]) (z1:zu [CP.d zE])
abbrev Z0:uz→Nat×St
 | .h4 i5 z0 z1=>(4,⟨tm 106 [(2,AV.ptr 0 0),(3,AV.ptr 1 0),(5,AV.int .i64 i5)],[AO.box (bn [] [CP.d zE] z0),AO.box (bn [] [CP.d zE] z1)]⟩)
 | .h9 i6 z0 z1=>(9,⟨tm 106 [(2,AV.ptr 0 0),(3,AV.ptr 1 0),(6,AV.int .i64 i6)],[AO.box (bn [] [CP.d zE] z0),AO.box (bn [] [CP.d zE] z1)]⟩)
 | .h14 i7 z0 z1=>(14,⟨tm 106 [(2,AV.ptr 0 0),(3,AV.ptr 1 0),(7,AV.int .i64 i7)],[AO.box (bn [] [CP.d zE] z0),AO.box (bn [] [CP.d zE] z1)]⟩)
def zbi (x0:Sem zE) (x1:Sem zE):Tr (uz ⊕ au):=
 Tr.br
 (bif !x0.1==x1.1 then true
 else
  bif x0.2.2.1 != x1.2.2.1 then true
  else bif (↑(length x0.2.1):Int) != (↑(length x1.2.1):Int) then true else bif (↑(length x0.2.2.2.1):Int) != (↑(length x1.2.2.2.1):Int) then true else (↑(length x0.2.2.2.2.1):Int) != (↑(length x1.2.2.2.2.1):Int))
 (Tr.re (AV.kb false) []) (Tr.to (uz.h4 0 (x0,()) (x1,())))
def zbW:uz→Tr (uz ⊕ au)
 | .h4 i5 z0 z1=>
  let a0:=(↑(length z0.1.2.1):Int)
  let a1:=getD z0.1.2.1 i5.toNat (zj zi)
  let a2:=getD z1.1.2.1 i5.toNat (zj zi)
  Tr.br (decide (i5 < a0))
  (Tr.chk (zH i5 (length z0.1.2.1))
   (Tr.chk (zH i5 (length z1.1.2.1)) (Tr.br (!(a1.1==a2.1&&(a1.2.1==a2.2.1&&(a1.2.2==a2.2.2&&true)))) (Tr.re (AV.kb false) []) (Tr.to (uz.h4 (IntKind.i64.wrap (i5+1)) z0 z1)))))
  (Tr.to (uz.h9 0 z0 z1))
 | .h9 i6 z0 z1=>
  let a0:=(↑(length z0.1.2.2.2.1):Int)
  Tr.br (decide (i6 < a0))
  (Tr.chk (zH i6 (length z0.1.2.2.2.1))
   (Tr.chk (zH i6 (length z1.1.2.2.2.1)) (Tr.br (getD z0.1.2.2.2.1 i6.toNat (zj zg) != getD z1.1.2.2.2.1 i6.toNat (zj zg)) (Tr.re (AV.kb false) []) (Tr.to (uz.h9 (IntKind.i64.wrap (i6+1)) z0 z1)))))
  (Tr.to (uz.h14 0 z0 z1))
 | .h14 i7 z0 z1=>
  let a0:=(↑(length z0.1.2.2.2.2.1):Int)
  let a1:=getD z0.1.2.2.2.2.1 i7.toNat (zj zr)
  let a2:=getD z1.1.2.2.2.2.1 i7.toNat (zj zr)
  let a3:=zC z0.1.2.2.2.2.2
  let a4:=zC z1.1.2.2.2.2.2
  Tr.br (decide (i7 < a0))
  (Tr.chk (zH i7 (length z0.1.2.2.2.2.1))
   (Tr.chk (zH i7 (length z1.1.2.2.2.2.1)) (Tr.br (!(a1.1==a2.1&&(a1.2==a2.2&&true))) (Tr.re (AV.kb false) []) (Tr.to (uz.h14 (IntKind.i64.wrap (i7+1)) z0 z1)))))
  (Tr.chk (lR a3 a4) (Tr.re (AV.bool (pz a3 a4)) []))
def L7 (x0:Sem zE) (x1:Sem zE):=aq [Sh.bool] zbW 100000000 (zbi x0 x1)
def TK:=FT [zE,zE] [Sh.bool] fun x=>L7 x.1 x.2.1
theorem Pu:FK 60 TK:=gW.T1 (f:=Tryz.f60) (keep:=XK) (e:=Z0)

def GF:=vT.addL [(124,Mr),(122,Mq),(244,MS),(187,Ui),(60,TK)]
theorem ew:zm GF:=gW.addL <| fc JQ <| fc JP <| fc Kh <| fc P1 <| fc Pu gX
end
noncomputable section

def zbn (x0:Sem zf) (x1:Sem zf):Tr (Empty ⊕ au):=
 let a0:=(eb x0).1==(eb x1).1
 let a1:=(eb x0).2.1==(eb x1).2.1
 Tr.chk (qS x0)
 (Tr.chk (qS x1)
  (Tr.br (a0&&(a1&&((eb x0).2.2==(eb x1).2.2&&true))) (Tr.re (AV.int .i64 0) []) (Tr.br (bif decide ((eb x0).1 < (eb x1).1) then true else bif a0 then bif decide ((eb x0).2.1 < (eb x1).2.1) then true else bif a1 then Op.bytesLess (eb x0).2.2 (eb x1).2.2 else false else false) (Tr.re (AV.int .i64 (-1)) []) (Tr.re (AV.int .i64 1) []))))
def IN (x0:Sem zf) (x1:Sem zf):=aq [zg] t0 100000000 (zbn x0 x1)
def T2:=FT [zf,zf] [zg] fun x=>IN x.1 x.2.1
theorem PK:FK 67 T2:=ew.T1 (f:=Tryz.f67) (keep:=k0) (e:=e0)

def Xm (x0:Sem zf) (x1:Sem zf):Tr (Empty ⊕ au):=
 Tr.chk (qS x0)
 (Tr.chk (qS x1)
  (Tr.re (AV.bool (bif (eb x0).1==0 then true else bif (eb x1).1==0 then true else (eb x0).1 != (eb x1).1)) []))
def IQ (x0:Sem zf) (x1:Sem zf):=aq [Sh.bool] t0 100000000 (Xm x0 x1)
def M5:=FT [zf,zf] [Sh.bool] fun x=>IQ x.1 x.2.1
theorem Ku:FK 246 M5:=ew.T1 (f:=Tryz.f246) (keep:=k0) (e:=e0)

def Xi (x0:Sem zf) (x1:Sem zf):Tr (Empty ⊕ au):=
 Tr.chk (mC x0 false&&bif n5 x0 false then true else mC x1 false)
 (Tr.br (bif n5 x0 false then true else n5 x1 false)
  (Tr.chk true (Tr.re (AV.agg [AV.int .i64 (bH false).1,AV.int .i64 (bH false).2.1,AV.str (bH false).2.2]) []))
  (Tr.chk (mC x0 true&&bif n5 x0 true then mC x1 true else true) (Tr.br (bif n5 x0 true then n5 x1 true else false) (Tr.chk true (Tr.re (AV.agg [AV.int .i64 (bH true).1,AV.int .i64 (bH true).2.1,AV.str (bH true).2.2]) [])) (Tr.re (AV.agg [AV.int .i64 0,AV.int .i64 0,AV.str []]) []))))
def Sp (x0:Sem zf) (x1:Sem zf):=aq [zf] t0 100000000 (Xi x0 x1)
def MW:=FT [zf,zf] [zf] fun x=>Sp x.1 x.2.1
theorem Kl:FK 190 MW:=ew.T1 (f:=Tryz.f190) (keep:=k0) (e:=e0)

def Xj (x0:Sem zf) (x1:Sem zf):Tr (Empty ⊕ au):=
 Tr.chk (mC x0 true&&bif n5 x0 true then true else mC x1 true)
 (Tr.br (bif n5 x0 true then true else n5 x1 true)
  (Tr.chk true (Tr.re (AV.agg [AV.int .i64 (bH true).1,AV.int .i64 (bH true).2.1,AV.str (bH true).2.2]) []))
  (Tr.chk (mC x0 false&&bif n5 x0 false then mC x1 false else true) (Tr.br (bif n5 x0 false then n5 x1 false else false) (Tr.chk true (Tr.re (AV.agg [AV.int .i64 (bH false).1,AV.int .i64 (bH false).2.1,AV.str (bH false).2.2]) [])) (Tr.re (AV.agg [AV.int .i64 0,AV.int .i64 0,AV.str []]) []))))
def Zk (x0:Sem zf) (x1:Sem zf):=aq [zf] t0 100000000 (Xj x0 x1)
def MX:=FT [zf,zf] [zf] fun x=>Zk x.1 x.2.1
theorem Km:FK 191 MX:=ew.T1 (f:=Tryz.f191) (keep:=k0) (e:=e0)

def Xh (x0:Sem zf):Tr (Empty ⊕ au):=
 Tr.chk (mC x0 true)
 (Tr.br (n5 x0 true)
  (Tr.chk true (Tr.re (AV.agg [AV.int .i64 (bH false).1,AV.int .i64 (bH false).2.1,AV.str (bH false).2.2]) []))
  (Tr.chk (mC x0 false) (Tr.br (n5 x0 false) (Tr.chk true (Tr.re (AV.agg [AV.int .i64 (bH true).1,AV.int .i64 (bH true).2.1,AV.str (bH true).2.2]) [])) (Tr.re (AV.agg [AV.int .i64 0,AV.int .i64 0,AV.str []]) []))))
def Sq (x0:Sem zf):=aq [zf] t0 100000000 (Xh x0)
def MV:=FT [zf] [zf] fun x=>Sq x.1
theorem Kk:FK 189 MV:=ew.T1 (f:=Tryz.f189) (keep:=k0) (e:=e0)

def zbu (x0:Sem Sh.expr):Tr (Empty ⊕ au):=
 let a0:=IT (zC x0) 12
 Tr.chk (Ea (zC x0) 12&&bif a0 then A8 (zC x0) else true) (Tr.re (AV.bool (bif a0 then decide (Ec (zC x0)≤60) else false)) [])
def CG (x0:Sem Sh.expr):=aq [Sh.bool] t0 100000000 (zbu x0)
def CF (x0:Sem Sh.expr):=(CG x0).isSome
def IR (x0:Sem Sh.expr):=o1 (CG x0)
def Uh:=FT [Sh.expr] [Sh.bool] fun x=>CG x.1
theorem P0:FK 186 Uh:=ew.T1 (f:=Tryz.f186) (keep:=k0) (e:=e0)

def GG:=GF.addL [(67,T2),(246,M5),(190,MW),(191,MX),(189,MV),(186,Uh)]
theorem sr:zm GG:=ew.addL <| fc PK <| fc Ku <| fc Kl <| fc Km <| fc Kk <| fc P0 <| gX
end
noncomputable section

abbrev Rt:=my [(2,[0,3])]
inductive u7 where
 | h2 (i0:Sem zg) (s3:List UInt8)
abbrev Wq:u7→Nat×St
 | .h2 i0 s3=>(2,⟨tm 21 [(0,AV.int .i64 i0),(3,AV.str s3)],[]⟩)
def Xl (x0:Sem zg):Tr (u7 ⊕ au):=
 Tr.to (u7.h2 x0 [])
def Zw:u7→Tr (u7 ⊕ au)
 | .h2 i0 s3=>
  let a0:=gf [IntKind.u8.wrap (IntKind.i64.wrap (48 - IntKind.i64.wrap (Int.tmod i0 10)))]
  Tr.br (bif decide (i0 < 0) then true else s3==[])
  (Tr.chk true (Tr.chk (decide (length a0+s3.length≤1099511627776)) (Tr.chk true (Tr.to (u7.h2 (IntKind.i64.wrap (Int.tdiv i0 10)) (a0++s3))))))
  (Tr.re (AV.str s3) [])
def py (x0:Sem zg):=aq [Sh.str] Zw 100000000 (Xl x0)
def wz (x0:Sem zg):=(py x0).isSome
def tN (x0:Sem zg):=o1 (py x0)
def M3:=FT [zg] [Sh.str] fun x=>py x.1
theorem Ks:FK 275 M3:=sr.T1 (f:=Tryz.f275) (keep:=Rt) (e:=Wq)

def GH:=GG.add 275 M3
theorem su:zm GH:=sr.add Ks
end
noncomputable section

abbrev Rl:=my [(13,[1,3,4])]
inductive rq where
 | h13 (s3:List UInt8) (i4:Int) (z0:zu [CP.d zf])
abbrev Wl:rq→Nat×St
 | .h13 s3 i4 z0=>(13,⟨tm 54 [(1,AV.ptr 0 0),(3,AV.str s3),(4,AV.int .i64 i4)],[AO.box (bn [] [CP.d zf] z0)]⟩)
def W8 (x0:Sem zf):Tr (rq ⊕ au):=
 let a0:=IntKind.i64.wrap (0 - x0.2.1)
 Tr.chk (tK x0)
 (Tr.br (!A6 x0) (Tr.re (AV.str []) [])
  (Tr.br (x0.1==0) (Tr.re (AV.str [78,85,76,76]) []) (Tr.br (x0.1==1) (Tr.br (decide (x0.2.1 < 0)) (Tr.chk (wz x0.2.1) (Tr.chk (decide ([45].length+length (tN x0.2.1)≤1099511627776)) (Tr.re (AV.str ([45]++tN x0.2.1)) []))) (Tr.chk (wz a0) (Tr.re (AV.str (tN a0)) []))) (Tr.br (x0.1==2) (Tr.to (rq.h13 [39] 0 (x0,())))
  (Tr.br (x0.2.1==1) (Tr.re (AV.str [84,82,85,69]) []) (Tr.re (AV.str [70,65,76,83,69]) []))))))
def Zr:rq→Tr (rq ⊕ au)
 | .h13 s3 i4 z0=>
  let a0:=(↑(length z0.1.2.2):Int)
  let a1:=IntKind.i64.wrap (i4+1)
  let a2:=List.take (a1.toNat - i4.toNat) (List.drop i4.toNat z0.1.2.2)
  let a3:=s3++a2
  Tr.br (decide (i4 < a0))
  (Tr.chk (decide (0≤i4)&&decide (i4≤a1)&&decide (a1≤a0))
   (Tr.chk (decide (s3.length+a2.length≤1099511627776)) (Tr.chk (zH i4 (length z0.1.2.2)) (Tr.br ((↑(getD z0.1.2.2 i4.toNat 0).toNat:Int)==39) (Tr.chk (decide (length a3+[39].length≤1099511627776)) (Tr.to (rq.h13 (a3++[39]) a1 z0))) (Tr.to (rq.h13 a3 a1 z0))))))
  (Tr.chk (decide (s3.length+[39].length≤1099511627776)) (Tr.re (AV.str (s3++[39])) []))
def xS (x0:Sem zf):=aq [Sh.str] Zr 100000000 (W8 x0)
def lQ (x0:Sem zf):=(xS x0).isSome
def pu (x0:Sem zf):=o1 (xS x0)
def MG:=FT [zf] [Sh.str] fun x=>xS x.1
theorem J5:FK 241 MG:=su.T1 (f:=Tryz.f241) (keep:=Rl) (e:=Wl)

def xt:=GH.add 241 MG
theorem sw:zm xt:=su.add J5
end
noncomputable section

def xm (g:Sem Sh.expr→Sem Sh.str) (c:Sem Sh.expr→Bool):ba:=xt.add 242 (zA [Sh.expr] [Sh.str] (fun x=>c x.1) fun x=>(g x.1,()))
theorem BT {g:Sem Sh.expr→Sem Sh.str} {c:Sem Sh.expr→Bool} (hg:FK 242 (zA [Sh.expr] [Sh.str] (fun x=>c x.1) fun x=>(g x.1,()))):zm (xm g c):=sw.add hg
abbrev HN:Nat→zS:=fun _=>{ }
theorem RN (g:Sem Sh.expr→Sem Sh.str) (c:Sem Sh.expr→Bool):zz (xm g c).P 242 Tryz.f242 1:=aG (by kernel_rfl)
def Hj (g:Sem Sh.expr→Sem Sh.str) (c:Sem Sh.expr→Bool) (x0:Sem Sh.expr):Tr (Empty ⊕ au):=
 let a0:=zH 0 (ze.l x0).length
 let a1:=zC ((ze.l x0).getD (toNat 0) (zj Sh.expr))
 let a2:=c a1
 let a3:=g a1
 let a4:=[40,78,79,84,32]++a3
 let a5:=decide ([40].length+length a3≤1099511627776)
 let a6:=[40]++a3
 let a7:=zH 1 (ze.l x0).length
 let a8:=zC ((ze.l x0).getD (toNat 1) (zj Sh.expr))
 let a9:=c a8
 let a10:=a6++[32,65,78,68,32]
 let a11:=g a8
 let a12:=a10++a11
 let a13:=a6++[32,79,82,32]
 let a14:=a13++a11
 let a15:=a6++[32]
 let a16:=a15++ze.op x0
 let a17:=a16++[32]
 let a18:=a17++a11
 Tr.br (ze.op x0==[108,105,116]) (Tr.chk (lQ (ze.v x0)) (Tr.re (AV.str (pu (ze.v x0))) []))
 (Tr.br (ze.op x0==[99,111,108]) (Tr.re (AV.str (ze.s x0)) [])
  (Tr.br (ze.op x0==[110,111,116]) (Tr.chk a0 (Tr.chk a2 (Tr.chk (decide ([40,78,79,84,32].length+length a3≤1099511627776)) (Tr.chk (decide (length a4+[41].length≤1099511627776)) (Tr.re (AV.str (a4++[41])) []))))) (Tr.br (ze.op x0==[110,117,108,108]) (Tr.chk a0 (Tr.chk a2 (Tr.chk a5
  (Tr.chk (decide (length a6+[32,73,83,32,78,85,76,76,41].length≤1099511627776)) (Tr.re (AV.str (a6++[32,73,83,32,78,85,76,76,41])) []))))) (Tr.br (ze.op x0==[97,110,100]) (Tr.chk a0 (Tr.chk a2 (Tr.chk a5 (Tr.chk (decide (length a6+[32,65,78,68,32].length≤1099511627776)) (Tr.chk a7 (Tr.chk a9
  (Tr.chk (decide (length a10+length a11≤1099511627776)) (Tr.chk (decide (length a12+[41].length≤1099511627776)) (Tr.re (AV.str (a12++[41])) []))))))))) (Tr.br (ze.op x0==[111,114]) (Tr.chk a0 (Tr.chk a2 (Tr.chk a5 (Tr.chk (decide (length a6+[32,79,82,32].length≤1099511627776)) (Tr.chk a7 (Tr.chk a9
  (Tr.chk (decide (length a13+length a11≤1099511627776)) (Tr.chk (decide (length a14+[41].length≤1099511627776)) (Tr.re (AV.str (a14++[41])) []))))))))) (Tr.chk a0 (Tr.chk a2 (Tr.chk a5 (Tr.chk (decide (length a6+[32].length≤1099511627776)) (Tr.chk (decide (length a15+length (ze.op x0)≤1099511627776))
  (Tr.chk (decide (length a16+[32].length≤1099511627776)) (Tr.chk a7 (Tr.chk a9 (Tr.chk (decide (length a17+length a11≤1099511627776)) (Tr.chk (decide (length a18+[41].length≤1099511627776)) (Tr.re (AV.str (a18++[41])) []))))))))))))))))
theorem QM (g:Sem Sh.expr→Sem Sh.str) (c:Sem Sh.expr→Bool) (x0:Sem Sh.expr):rn (xm g c) 0 HN Tryz.f242 [zy Sh.expr x0] []=(Hj g c x0).map (lf Tryz.f242 e0):=by kernel_rfl
def n7 (o:Option (zw (List.map some [Sh.str]))):Sem Sh.str:=(fun r:zw (List.map some [Sh.str])=>r.1) (o.getD (bD [Sh.str]))
def L2 (g:Sem Sh.expr→Sem Sh.str) (c:Sem Sh.expr→Bool) (x0:Sem Sh.expr):Option (zw (List.map some [Sh.str])):=aq [Sh.str] t0 100000000 (Hj g c x0)
def gH:Nat→Sem Sh.expr→Option (zw (List.map some [Sh.str]))
 | 0=>fun _=>none
 | n+1=>L2 (fun x0=>n7 (gH n x0)) fun x0=>(gH n x0).isSome
theorem HA:zz xt.P 242 Tryz.f242 1:=aG (by kernel_rfl)
theorem yJ:∀ n,FK 242 (zA [Sh.expr] [Sh.str] (fun x=>(gH n x.1).isSome) fun x=>(n7 (gH n x.1),()))
 | 0=>cO ⟨Tryz.f242,HA.1,HA.2.1,HA.2.2.1⟩ (fun _=>rfl)
 | n+1=>g5 (E:=xm (fun x0=>n7 (gH n x0)) (fun x0=>(gH n x0).isSome)) (ks:=[Sh.expr]) (outs:=[Sh.str]) (keep:=HN) (gas:=400) (n:=100000000) (e:=e0) (t:=t0) (i:=fun x=>Hj (fun x0=>n7 (gH n x0)) (fun x0=>(gH n x0).isSome) x.1) (BT (yJ n)) (RN _ _) (fun x=>QM _ _ x.1) (FO _ _ _ _ _) (fun _=>by kernel_rfl) (fun _=>by kernel_rfl)
def D8 (x0:Sem Sh.expr):Option (zw (List.map some [Sh.str])):=gH 16 x0
def qT (x0:Sem Sh.expr):Bool:=(D8 x0).isSome
def pA (x0:Sem Sh.expr):Sem Sh.str:=n7 (D8 x0)
def MH:zB:=zA [Sh.expr] [Sh.str] (fun x=>qT x.1) fun x=>(pA x.1,())
theorem J6:FK 242 MH:=yJ 16

def xu:=xt.add 242 MH
theorem jK:zm xu:=sw.add J6
end
noncomputable section

abbrev Rq:=my [(6,[1,3])]
inductive u6 where
 | h6 (i3:Int) (z0:zu [CP.d zr])
abbrev Wp:u6→Nat×St
 | .h6 i3 z0=>(6,⟨tm 82 [(1,AV.ptr 0 0),(3,AV.int .i64 i3)],[AO.box (bn [] [CP.d zr] z0)]⟩)
def Xf (x0:Sem zr):Tr (u6 ⊕ au):=
 let a0:=(2,0,x0.2)
 Tr.br (x0.1==1) (Tr.chk (xU x0.2) (Tr.re (AV.bool (tO x0.2)) []))
 (Tr.br (x0.1==2) (Tr.to (u6.h6 0 (x0,())))
  (Tr.br (x0.1==3) (Tr.chk (tK a0) (Tr.re (AV.bool (A6 a0)) [])) (Tr.br (x0.1==4) (Tr.re (AV.bool (bif x0.2==[40] then true else bif x0.2==[41] then true else bif x0.2==[44] then true else bif x0.2==[61] then true else bif x0.2==[60] then true else bif x0.2==[43] then true else bif x0.2==[45] then true else x0.2==[42])) []) (Tr.re (AV.kb false) []))))
def Zv:u6→Tr (u6 ⊕ au)
 | .h6 i3 z0=>
  let a0:=(↑(length z0.1.2):Int)
  let a1:=(↑(getD z0.1.2 i3.toNat 0).toNat:Int)
  Tr.br (decide (i3 < a0))
  (Tr.chk (zH i3 (length z0.1.2))
   (Tr.chk (fU a1) (Tr.br (!gK a1) (Tr.re (AV.kb false) []) (Tr.to (u6.h6 (IntKind.i64.wrap (i3+1)) z0)))))
  (Tr.re (AV.bool (bif decide (1≤a0) then decide (a0≤19) else false)) [])
def CI (x0:Sem zr):=aq [Sh.bool] Zv 100000000 (Xf x0)
def ld (x0:Sem zr):=(CI x0).isSome
def qm (x0:Sem zr):=o1 (CI x0)
def MR:=FT [zr] [Sh.bool] fun x=>CI x.1
theorem Kg:FK 180 MR:=jK.T1 (f:=Tryz.f180) (keep:=Rq) (e:=Wp)

abbrev HJ:Nat→zS:=fun _=>{ }
theorem RI:zz xu.P 112 Tryz.f112 2:=aG (by kernel_rfl)
def Hg (y:zu zF) (x0:TS):Tr (Empty ⊕ au):=
 let a0:=(y.1,y.2.1,y.2.2.1,())
 let a1:=aV a0 x0
 Tr.chk (aD a0 x0)
 (Tr.br (!a1.1) (Tr.re (AV.agg [AV.str [],AV.int .i64 0,AV.int .i64 0,AV.str [],AV.str [],AV.nils]) (bx zF a1.2))
  (Tr.br (x0==[87,72,69,82,69]) Tr.err (Tr.chk (zI (a1.2.1,a1.2.2.1,a1.2.2.2.1,()) [40]) Tr.err)))
theorem QG (y:zu zF) (x0:TS):rn xu 1 HJ Tryz.f112 [AV.ptr 0 0,zy Sh.str x0] (bx zF y)=(Hg y x0).map (lf Tryz.f112 e0):=by kernel_rfl
def Ee (y:zu zF) (x0:TS):Option (zw (List.map some [Sh.expr])×zu zF):=uT [Sh.expr] zF t0 100000000 (Hg y x0)
def bR (y:zu zF) (x0:TS):Bool:=(Ee y x0).isSome
def cF (y:zu zF) (x0:TS):(Sem Sh.expr)×zu zF:=(fun r:zw (List.map some [Sh.expr])×zu zF=>(r.1.1,r.2)) ((Ee y x0).getD (bD [Sh.expr],eS zF))
def Mx:zB:=uG zF [Sh.str] [Sh.expr] zF (fun y x=>bR y x.1) fun y x=>(((cF y x.1).1,()),(cF y x.1).2)
theorem JW:FK 112 Mx:=oM (ps:=zF) (ks:=[Sh.str]) (outs:=[Sh.expr]) (keep:=HJ) (gas:=400) (n:=100000000) (e:=e0) (t:=t0) (i:=fun y x=>Hg y x.1) jK RI (fun y x=>QG y x.1) (FO _ _ _ _ _) (fun _ _=>by kernel_rfl) (fun _ _=>by kernel_rfl)

def zbq (x0:TS):Tr (Empty ⊕ au):=
 Tr.chk (xU x0&&bif tO x0 then CK x0 else true) (Tr.re (AV.bool (bif tO x0 then !I0 x0 else false)) [])
def x3 (x0:TS):=aq [Sh.bool] t0 100000000 (zbq x0)
def dQ (x0:TS):=(x3 x0).isSome
def fF (x0:TS):=o1 (x3 x0)
def Ud:=FT [Sh.str] [Sh.bool] fun x=>x3 x.1
theorem PW:FK 118 Ud:=jK.T1 (f:=Tryz.f118) (keep:=k0) (e:=e0)

def NL:=xu.addL [(180,MR),(112,Mx),(118,Ud)]
theorem lD:zm NL:=jK.addL <| fc Kg <| fc JW <| fc PW gX
end
noncomputable section

abbrev XY:=my [(3,[0,4,5]),(11,[0,4,5,6,7,8]),(15,[0,4,5,6,7,8]),(20,[0,4,5,8])]
inductive dz where
 | h3 (s0:TS) (i5:Int)
 | h11 (s0:TS) (i5:Int) (i6:Int) (i7:Int) (z0:zu [CP.d zr])
 | h15 (s0:TS) (i5:Int) (i6:Int) (i7:Int) (z0:zu [CP.d zr])
 | h20 (s0:TS) (i5:Int) (z0:zu [CP.d zr])
 | h3b (s0:TS) (i5:Int) (lh_0:LF)
 | h11b (s0:TS) (i5:Int) (i6:Int) (i7:Int) (z1:zu [CP.d zr]) (lh_0:LF)
 | h15b (s0:TS) (i5:Int) (i6:Int) (i7:Int) (z1:zu [CP.d zr]) (lh_0:LF)
 | h20b (s0:TS) (i5:Int) (z1:zu [CP.d zr]) (lh_0:LF)
abbrev Z8:dz→Nat×St
 | .h3 s0 i5=>(3,⟨tm 131 [(0,AV.str s0),(4,AV.nils),(5,AV.int .i64 i5)],[]⟩)
 | .h11 s0 i5 i6 i7 z0=>(11,⟨tm 131 [(0,AV.str s0),(4,AV.nils),(5,AV.int .i64 i5),(6,AV.int IntKind.u8 i6),(7,AV.int .i64 i7),(8,AV.ptr 0 0)],[AO.box (bn [] [CP.d zr] z0)]⟩)
 | .h15 s0 i5 i6 i7 z0=>(15,⟨tm 131 [(0,AV.str s0),(4,AV.nils),(5,AV.int .i64 i5),(6,AV.int IntKind.u8 i6),(7,AV.int .i64 i7),(8,AV.ptr 0 0)],[AO.box (bn [] [CP.d zr] z0)]⟩)
 | .h20 s0 i5 z0=>(20,⟨tm 131 [(0,AV.str s0),(4,AV.nils),(5,AV.int .i64 i5),(8,AV.ptr 0 0)],[AO.box (bn [] [CP.d zr] z0)]⟩)
 | .h3b s0 i5 lh_0=>(3,⟨tm 131 [(0,AV.str s0),(4,AV.vec 0),(5,AV.int .i64 i5)],[AO.vec zr lh_0]⟩)
 | .h11b s0 i5 i6 i7 z1 lh_0=>(11,⟨tm 131 [(0,AV.str s0),(4,AV.vec 0),(5,AV.int .i64 i5),(6,AV.int IntKind.u8 i6),(7,AV.int .i64 i7),(8,AV.ptr 1 0)],[AO.vec zr lh_0,AO.box (bn [] [CP.d zr] z1)]⟩)
 | .h15b s0 i5 i6 i7 z1 lh_0=>(15,⟨tm 131 [(0,AV.str s0),(4,AV.vec 0),(5,AV.int .i64 i5),(6,AV.int IntKind.u8 i6),(7,AV.int .i64 i7),(8,AV.ptr 1 0)],[AO.vec zr lh_0,AO.box (bn [] [CP.d zr] z1)]⟩)
 | .h20b s0 i5 z1 lh_0=>(20,⟨tm 131 [(0,AV.str s0),(4,AV.vec 0),(5,AV.int .i64 i5),(8,AV.ptr 1 0)],[AO.vec zr lh_0,AO.box (bn [] [CP.d zr] z1)]⟩)
def zbs (x0:TS):Tr (dz ⊕ au):=
 Tr.to (dz.h3 x0 0)
def zb1:dz→Tr (dz ⊕ au)
 | .h3 s0 i5=>
  let a0:=(↑(getD s0 i5.toNat 0).toNat:Int)
  let a1:=IntKind.i64.wrap (i5+1)
  let a2:=List.take (a1.toNat - i5.toNat) (List.drop i5.toNat s0)
  let a3:=((4,a2),())
  let a4:=(4,a2)
  let a5:=[a4]
  Tr.br (decide (i5 < (↑(length s0):Int)))
  (Tr.chk (zH i5 (length s0))
   (Tr.br (bif a0==32 then true else a0==10) (Tr.to (dz.h3 s0 a1)) (Tr.chk (decide (0≤i5)&&decide (i5≤a1)&&decide (a1≤(↑(length s0):Int))) (Tr.chk (lT a0) (Tr.br (n9 a0) (Tr.to (dz.h11 s0 a1 a0 i5 a3)) (Tr.chk (fU a0) (Tr.br (gK a0) (Tr.to (dz.h15 s0 a1 a0 i5 a3)) (Tr.br (a0==39) (Tr.to (dz.h20 s0 a1 ((3,[]),()))) (Tr.chk (ld a4)
   (Tr.br (!qm a4) (Tr.re (AV.tup [AV.nils,AV.kb false]) []) (Tr.chk (decide (a5.length≤1073741824)) (Tr.to (dz.h3b s0 a1 a5)))))))))))))
  (Tr.re (AV.tup [AV.nils,AV.bool true]) [])
 | .h11 s0 i5 i6 i7 z0=>
  let a0:=decide (i5 < (↑(length s0):Int))
  let a1:=(↑(getD s0 i5.toNat 0).toNat:Int)
  let a2:=List.take (i5.toNat - i7.toNat) (List.drop i7.toNat s0)
  let a3:=(1,a2)
  let a4:=[a3]
  Tr.chk (bif a0 then zH i5 (length s0)&&xW a1 else true)
  (Tr.br (bif a0 then CJ a1 else false) (Tr.to (dz.h11 s0 (IntKind.i64.wrap (i5+1)) i6 i7 z0))
   (Tr.chk (decide (0≤i7)&&decide (i7≤i5)&&decide (i5≤(↑(length s0):Int))) (Tr.chk (fU i6) (Tr.br (gK i6) (Tr.to (dz.h15 s0 i5 i6 i7 ((1,a2),()))) (Tr.br (i6==39) (Tr.to (dz.h20 s0 i5 ((3,[]),()))) (Tr.chk (ld a3) (Tr.br (!qm a3) (Tr.re (AV.tup [AV.nils,AV.kb false]) []) (Tr.chk (decide (a4.length≤1073741824)) (Tr.to (dz.h3b s0 i5 a4))))))))))
 | .h15 s0 i5 i6 i7 z0=>
  let a0:=decide (i5 < (↑(length s0):Int))
  let a1:=(↑(getD s0 i5.toNat 0).toNat:Int)
  let a2:=(2,List.take (i5.toNat - i7.toNat) (List.drop i7.toNat s0))
  let a3:=[a2]
  Tr.chk (bif a0 then zH i5 (length s0)&&fU a1 else true)
  (Tr.br (bif a0 then gK a1 else false) (Tr.to (dz.h15 s0 (IntKind.i64.wrap (i5+1)) i6 i7 z0))
   (Tr.chk (decide (0≤i7)&&decide (i7≤i5)&&decide (i5≤(↑(length s0):Int))) (Tr.br (i6==39) (Tr.to (dz.h20 s0 i5 ((3,[]),()))) (Tr.chk (ld a2) (Tr.br (!qm a2) (Tr.re (AV.tup [AV.nils,AV.kb false]) []) (Tr.chk (decide (a3.length≤1073741824)) (Tr.to (dz.h3b s0 i5 a3))))))))
 | .h20 s0 i5 z0=>
  let a0:=decide (i5 < (↑(length s0):Int))
  let a1:=(↑(getD s0 i5.toNat 0).toNat:Int)
  let a2:=a1 != 39
  let a3:=IntKind.i64.wrap (i5+1)
  let a4:=decide (a3 < (↑(length s0):Int))
  let a5:=List.take (a3.toNat - i5.toNat) (List.drop i5.toNat s0)
  let a6:=((z0.1.1,z0.1.2++a5),())
  Tr.chk (bif a0 then zH i5 (length s0)&&bif a2 then true else bif a4 then zH a3 (length s0) else true else true)
  (Tr.br (bif a0 then bif a2 then true else bif a4 then (↑(getD s0 a3.toNat 0).toNat:Int)==39 else false else false)
   (Tr.chk (decide (0≤i5)&&decide (i5≤a3)&&decide (a3≤(↑(length s0):Int))) (Tr.chk (decide (length z0.1.2+a5.length≤1099511627776)) (Tr.chk (zH i5 (length s0)) (Tr.br (a1==39) (Tr.to (dz.h20 s0 (IntKind.i64.wrap (a3+1)) a6)) (Tr.to (dz.h20 s0 a3 a6))))))
   (Tr.br (decide (i5 ≥ (↑(length s0):Int))) (Tr.re (AV.tup [AV.nils,AV.kb false]) []) (Tr.chk (ld z0.1) (Tr.br (!qm z0.1) (Tr.re (AV.tup [AV.nils,AV.kb false]) []) (Tr.chk (decide ([z0.1].length≤1073741824)) (Tr.to (dz.h3b s0 a3 [z0.1])))))))
 | .h3b s0 i5 lh_0=>
  let a0:=(↑(getD s0 i5.toNat 0).toNat:Int)
  let a1:=IntKind.i64.wrap (i5+1)
  let a2:=List.take (a1.toNat - i5.toNat) (List.drop i5.toNat s0)
  let a3:=((4,a2),())
  let a4:=(4,a2)
  let a5:=[a4]
  Tr.br (decide (i5 < (↑(length s0):Int)))
  (Tr.chk (zH i5 (length s0))
   (Tr.br (bif a0==32 then true else a0==10) (Tr.to (dz.h3b s0 a1 lh_0)) (Tr.chk (decide (0≤i5)&&decide (i5≤a1)&&decide (a1≤(↑(length s0):Int))) (Tr.chk (lT a0) (Tr.br (n9 a0) (Tr.to (dz.h11b s0 a1 a0 i5 a3 lh_0)) (Tr.chk (fU a0) (Tr.br (gK a0) (Tr.to (dz.h15b s0 a1 a0 i5 a3 lh_0)) (Tr.br (a0==39) (Tr.to (dz.h20b s0 a1 ((3,[]),()) lh_0))
   (Tr.chk (ld a4) (Tr.br (!qm a4) (Tr.re (AV.tup [AV.nils,AV.kb false]) []) (Tr.chk (decide (lh_0.length+a5.length≤1073741824)) (Tr.to (dz.h3b s0 a1 (lh_0++a5))))))))))))))
  (Tr.re (AV.tup [AV.vec 0,AV.bool (decide ((↑lh_0.length:Int)≤400))]) [AO.vec zr lh_0])
 | .h11b s0 i5 i6 i7 z1 lh_0=>
  let a0:=decide (i5 < (↑(length s0):Int))
  let a1:=(↑(getD s0 i5.toNat 0).toNat:Int)
  let a2:=List.take (i5.toNat - i7.toNat) (List.drop i7.toNat s0)
  let a3:=(1,a2)
  let a4:=[a3]
  Tr.chk (bif a0 then zH i5 (length s0)&&xW a1 else true)
  (Tr.br (bif a0 then CJ a1 else false) (Tr.to (dz.h11b s0 (IntKind.i64.wrap (i5+1)) i6 i7 z1 lh_0))
   (Tr.chk (decide (0≤i7)&&decide (i7≤i5)&&decide (i5≤(↑(length s0):Int))) (Tr.chk (fU i6) (Tr.br (gK i6) (Tr.to (dz.h15b s0 i5 i6 i7 ((1,a2),()) lh_0)) (Tr.br (i6==39) (Tr.to (dz.h20b s0 i5 ((3,[]),()) lh_0)) (Tr.chk (ld a3) (Tr.br (!qm a3) (Tr.re (AV.tup [AV.nils,AV.kb false]) [])
   (Tr.chk (decide (lh_0.length+a4.length≤1073741824)) (Tr.to (dz.h3b s0 i5 (lh_0++a4)))))))))))
 | .h15b s0 i5 i6 i7 z1 lh_0=>
  let a0:=decide (i5 < (↑(length s0):Int))
  let a1:=(↑(getD s0 i5.toNat 0).toNat:Int)
  let a2:=(2,List.take (i5.toNat - i7.toNat) (List.drop i7.toNat s0))
  let a3:=[a2]
  Tr.chk (bif a0 then zH i5 (length s0)&&fU a1 else true)
  (Tr.br (bif a0 then gK a1 else false) (Tr.to (dz.h15b s0 (IntKind.i64.wrap (i5+1)) i6 i7 z1 lh_0))
   (Tr.chk (decide (0≤i7)&&decide (i7≤i5)&&decide (i5≤(↑(length s0):Int))) (Tr.br (i6==39) (Tr.to (dz.h20b s0 i5 ((3,[]),()) lh_0)) (Tr.chk (ld a2) (Tr.br (!qm a2) (Tr.re (AV.tup [AV.nils,AV.kb false]) []) (Tr.chk (decide (lh_0.length+a3.length≤1073741824)) (Tr.to (dz.h3b s0 i5 (lh_0++a3)))))))))
 | .h20b s0 i5 z1 lh_0=>
  let a0:=decide (i5 < (↑(length s0):Int))
  let a1:=(↑(getD s0 i5.toNat 0).toNat:Int)
  let a2:=a1 != 39
  let a3:=IntKind.i64.wrap (i5+1)
  let a4:=decide (a3 < (↑(length s0):Int))
  let a5:=List.take (a3.toNat - i5.toNat) (List.drop i5.toNat s0)
  let a6:=((z1.1.1,z1.1.2++a5),())
  Tr.chk (bif a0 then zH i5 (length s0)&&bif a2 then true else bif a4 then zH a3 (length s0) else true else true)
  (Tr.br (bif a0 then bif a2 then true else bif a4 then (↑(getD s0 a3.toNat 0).toNat:Int)==39 else false else false)
   (Tr.chk (decide (0≤i5)&&decide (i5≤a3)&&decide (a3≤(↑(length s0):Int))) (Tr.chk (decide (length z1.1.2+a5.length≤1099511627776)) (Tr.chk (zH i5 (length s0)) (Tr.br (a1==39) (Tr.to (dz.h20b s0 (IntKind.i64.wrap (a3+1)) a6 lh_0)) (Tr.to (dz.h20b s0 a3 a6 lh_0))))))
   (Tr.br (decide (i5 ≥ (↑(length s0):Int))) (Tr.re (AV.tup [AV.nils,AV.kb false]) []) (Tr.chk (ld z1.1) (Tr.br (!qm z1.1) (Tr.re (AV.tup [AV.nils,AV.kb false]) []) (Tr.chk (decide (lh_0.length+[z1.1].length≤1073741824)) (Tr.to (dz.h3b s0 a3 (lh_0++[z1.1]))))))))
def CH (x0:TS):=aq [zr.sl,Sh.bool] zb1 100000000 (zbs x0)
def IZ (x0:TS):=(CH x0).isSome
def wA (x0:TS):=o2 (CH x0)
def Uf:=FT [Sh.str] [zr.sl,Sh.bool] fun x=>CH x.1
theorem PY:FK 105 Uf:=lD.T1 (f:=Tryz.f105) (keep:=XY) (e:=Z8)

def W6 (x0:Sem Sh.expr) (x1:TS):Tr (Empty ⊕ au):=
 let a0:=x1++[32,67,72,69,67,75,32,40,32]
 let a1:=a0++pA (zC x0)
 Tr.br (ze.op x0==[])
 (Tr.chk (lR (zC x0) (ze.mk [] (0,0,[]) [] [])) (Tr.re (AV.tup [AV.str [],AV.bool (pz (zC x0) (ze.mk [] (0,0,[]) [] []))]) []))
 (Tr.chk (CF (zC x0))
  (Tr.br (!IR (zC x0)) (Tr.re (AV.tup [AV.str [],AV.kb false]) []) (Tr.br (x1==[87,72,69,82,69]) (Tr.chk (qT (zC x0)) (Tr.chk (decide ([32,87,72,69,82,69,32].length+length (pA (zC x0))≤1099511627776)) (Tr.re (AV.tup [AV.str ([32,87,72,69,82,69,32]++pA (zC x0)),AV.kb true]) [])))
  (Tr.chk (decide (length x1+[32,67,72,69,67,75,32,40,32].length≤1099511627776)) (Tr.chk (qT (zC x0)) (Tr.chk (decide (length a0+length (pA (zC x0))≤1099511627776)) (Tr.chk (decide (length a1+[32,41].length≤1099511627776)) (Tr.re (AV.tup [AV.str (a1++[32,41]),AV.kb true]) []))))))))
def x7 (x0:Sem Sh.expr) (x1:TS):=aq [Sh.str,Sh.bool] t0 100000000 (W6 x0 x1)
def x6 (x0:Sem Sh.expr) (x1:TS):=(x7 x0 x1).isSome
def CN (x0:Sem Sh.expr) (x1:TS):=o2 (x7 x0 x1)
def ME:=FT [Sh.expr,Sh.str] [Sh.str,Sh.bool] fun x=>x7 x.1 x.2.1
theorem J3:FK 239 ME:=lD.T1 (f:=Tryz.f239) (keep:=k0) (e:=e0)

abbrev Rm:=my [(3,[0,4,5])]
inductive rr where
 | h3 (l0:LS) (s4:List UInt8) (i5:Int)
abbrev Wm:rr→Nat×St
 | .h3 l0 s4 i5=>(3,⟨tm 37 [(0,AV.sl Sh.str l0),(4,AV.str s4),(5,AV.int .i64 i5)],[]⟩)
def W9 (x0:Sem Sh.str.sl):Tr (rr ⊕ au):=
 Tr.to (rr.h3 x0 [] 0)
def Zs:rr→Tr (rr ⊕ au)
 | .h3 l0 s4 i5=>
  let a0:=l0.getD i5.toNat (zj Sh.str)
  let a1:=s4++[32,44,32]
  let a2:=IntKind.i64.wrap (i5+1)
  let a3:=decide (1≤(↑l0.length:Int))
  Tr.br (decide (i5 < (↑l0.length:Int)))
  (Tr.chk (zH i5 l0.length)
   (Tr.chk (dQ a0) (Tr.br (!fF a0) (Tr.re (AV.tup [AV.str [],AV.kb false]) []) (Tr.br (decide (i5 > 0)) (Tr.chk (decide (s4.length+[32,44,32].length≤1099511627776)) (Tr.chk (zH i5 l0.length) (Tr.chk (decide (length a1+length a0≤1099511627776)) (Tr.to (rr.h3 l0 (a1++a0) a2)))))
   (Tr.chk (zH i5 l0.length) (Tr.chk (decide (s4.length+length a0≤1099511627776)) (Tr.to (rr.h3 l0 (s4++a0) a2))))))))
  (Tr.re (AV.tup [AV.str (bif a3 then s4 else s4),AV.bool (bif a3 then decide ((↑l0.length:Int)≤8) else false)]) [])
def tS (x0:Sem Sh.str.sl):=aq [Sh.str,Sh.bool] Zs 100000000 (W9 x0)
def I5 (x0:Sem Sh.str.sl):=(tS x0).isSome
def Ma (x0:Sem Sh.str.sl):=o2 (tS x0)
def MI:=FT [Sh.str.sl] [Sh.str,Sh.bool] fun x=>tS x.1
theorem J7:FK 243 MI:=lD.T1 (f:=Tryz.f243) (keep:=Rm) (e:=Wm)

def NM:=NL.addL [(105,Uf),(239,ME),(243,MI)]
theorem vU:zm NM:=lD.addL <| fc PY <| fc J3 <| fc J7 gX
end
noncomputable section

abbrev Rk:=my [(4,[1,4,5,6]),(15,[1,4,5,8]),(20,[1,4,5,9])]
inductive kC where
 | h4 (b4:Bool) (s5:zn) (i6:Int) (z0:zu [CP.d zq])
 | h15 (b4:Bool) (s5:zn) (i8:Int) (z0:zu [CP.d zq])
 | h20 (b4:Bool) (s5:zn) (i9:Int) (z0:zu [CP.d zq])
abbrev Wk:kC→Nat×St
 | .h4 b4 s5 i6 z0=>(4,⟨tm 174 [(1,AV.ptr 0 0),(4,AV.bool b4),(5,AV.str s5),(6,AV.int .i64 i6)],[AO.box (bn [] [CP.d zq] z0)]⟩)
 | .h15 b4 s5 i8 z0=>(15,⟨tm 174 [(1,AV.ptr 0 0),(4,AV.bool b4),(5,AV.str s5),(8,AV.int .i64 i8)],[AO.box (bn [] [CP.d zq] z0)]⟩)
 | .h20 b4 s5 i9 z0=>(20,⟨tm 174 [(1,AV.ptr 0 0),(4,AV.bool b4),(5,AV.str s5),(9,AV.int .i64 i9)],[AO.box (bn [] [CP.d zq] z0)]⟩)
def W7 (x0:Sem zq):Tr (kC ⊕ au):=
 let a0:=[67,82,69,65,84,69,32,84,65,66,76,69,32]++x0.2.1
 let a1:=(↑(length x0.2.2.2.2.1):Int)
 let a2:=(↑(length x0.2.2.2.2.2.2.1):Int)
 let a3:=(↑(length x0.2.2.2.2.2.2.2.1):Int)
 Tr.chk (dQ x0.2.2.2.2.2.1)
 (Tr.chk (decide ([67,82,69,65,84,69,32,84,65,66,76,69,32].length+length x0.2.1≤1099511627776))
  (Tr.chk (decide (length a0+[32,40,32].length≤1099511627776)) (Tr.to (kC.h4 (bif fF x0.2.2.2.2.2.1 then bif decide (1≤a1) then bif decide (a1≤8) then bif decide (a2≤8) then decide (a3≤8) else false else false else false else false) (a0++[32,40,32]) 0 (x0,())))))
def Zq:kC→Tr (kC ⊕ au)
 | .h4 b4 s5 i6 z0=>
  let a0:=(↑(length z0.1.2.2.2.2.1):Int)
  let a1:=getD z0.1.2.2.2.2.1 i6.toNat (zj zi)
  let a2:=a1.1++[32]
  let a3:=[[],[73,78,84],[84,69,88,84],[66,79,79,76]].getD (toNat a1.2.1) (zj Sh.str)
  let a4:=a2++a3
  let a5:=s5++a4
  let a6:=a5++[32,78,79,84,32,78,85,76,76]
  let a7:=IntKind.i64.wrap (i6+1)
  let a8:=[75,69,89,32,40,32]++z0.1.2.2.2.2.2.1
  let a9:=a8++[32,41]
  Tr.br (decide (i6 < a0))
  (Tr.chk (zH i6 (length z0.1.2.2.2.2.1))
   (Tr.chk (dQ a1.1) (Tr.br (bif !fF a1.1 then true else bif decide (a1.2.1 < 1) then true else decide (a1.2.1 > 3)) (Tr.re (AV.tup [AV.str [],AV.kb false]) []) (Tr.chk (decide (length a1.1+[32].length≤1099511627776)) (Tr.chk (zH a1.2.1 [[],[73,78,84],[84,69,88,84],[66,79,79,76]].length) (Tr.chk (decide (length a2+length a3≤1099511627776))
   (Tr.chk (decide (length s5+length a4≤1099511627776)) (Tr.br a1.2.2 (Tr.chk (decide (length a5+[32,78,79,84,32,78,85,76,76].length≤1099511627776)) (Tr.chk (decide (length a6+[32,44,32].length≤1099511627776)) (Tr.to (kC.h4 b4 (a6++[32,44,32]) a7 z0))))
   (Tr.chk (decide (length a5+[32,44,32].length≤1099511627776)) (Tr.to (kC.h4 b4 (a5++[32,44,32]) a7 z0)))))))))))
  (Tr.chk (decide ([75,69,89,32,40,32].length+length z0.1.2.2.2.2.2.1≤1099511627776))
   (Tr.chk (decide (length a8+[32,41].length≤1099511627776)) (Tr.chk (decide (length s5+length a9≤1099511627776)) (Tr.to (kC.h15 b4 (s5++a9) 0 z0)))))
 | .h15 b4 s5 i8 z0=>
  let a0:=(↑(length z0.1.2.2.2.2.2.2.1):Int)
  let a1:=zH i8 (length z0.1.2.2.2.2.2.2.1)
  let a2:=getD z0.1.2.2.2.2.2.2.1 i8.toNat (zj Sh.str)
  let a3:=[32,44,32,85,78,73,81,85,69,32,40,32]++a2
  let a4:=a3++[32,41]
  Tr.br (decide (i8 < a0))
  (Tr.chk (bif b4 then a1&&dQ a2 else true)
   (Tr.chk a1 (Tr.chk (decide ([32,44,32,85,78,73,81,85,69,32,40,32].length+length a2≤1099511627776)) (Tr.chk (decide (length a3+[32,41].length≤1099511627776)) (Tr.chk (decide (length s5+length a4≤1099511627776)) (Tr.to (kC.h15 (bif b4 then fF a2 else false) (s5++a4) (IntKind.i64.wrap (i8+1)) z0)))))))
  (Tr.to (kC.h20 b4 s5 0 z0))
 | .h20 b4 s5 i9 z0=>
  let a0:=(↑(length z0.1.2.2.2.2.2.2.2.1):Int)
  let a1:=zH i9 (length z0.1.2.2.2.2.2.2.2.1)
  let a2:=getD z0.1.2.2.2.2.2.2.2.1 i9.toNat (zj bu)
  let a3:=fF a2.1
  let a4:=[32,44,32,82,69,70,69,82,69,78,67,69,83,32,40,32]++a2.1
  let a5:=a4++[32,41,32]
  let a6:=a5++a2.2
  let a7:=zC z0.1.2.2.2.2.2.2.2.2.1
  let a8:=CN a7 [32,44]
  let a9:=s5++a8.1
  let a10:=a9++[32,41]
  Tr.br (decide (i9 < a0))
  (Tr.chk (bif b4 then a1&&(dQ a2.1&&bif a3 then a1&&dQ a2.2 else true) else true)
   (Tr.chk a1 (Tr.chk (decide ([32,44,32,82,69,70,69,82,69,78,67,69,83,32,40,32].length+length a2.1≤1099511627776)) (Tr.chk (decide (length a4+[32,41,32].length≤1099511627776)) (Tr.chk a1 (Tr.chk (decide (length a5+length a2.2≤1099511627776)) (Tr.chk (decide (length s5+length a6≤1099511627776))
   (Tr.to (kC.h20 (bif b4 then bif a3 then fF a2.2 else false else false) (s5++a6) (IntKind.i64.wrap (i9+1)) z0)))))))))
  (Tr.chk (x6 a7 [32,44])
   (Tr.chk (decide (length s5+length a8.1≤1099511627776)&&decide (length a9+[32,41].length≤1099511627776)) (Tr.re (AV.tup [AV.str (bif b4 then a10 else a10),AV.bool (bif b4 then a8.2 else false)]) [])))
def pB (x0:Sem zq):=aq [Sh.str,Sh.bool] Zq 100000000 (W7 x0)
def Fx (x0:Sem zq):=(pB x0).isSome
def IX (x0:Sem zq):=o2 (pB x0)
def MF:=FT [zq] [Sh.str,Sh.bool] fun x=>pB x.1
theorem J4:FK 240 MF:=vU.T1 (f:=Tryz.f240) (keep:=Rk) (e:=Wk)

def GI:=NM.addL [(240,MF)]
theorem sv:zm GI:=vU.addL <| fc J4 <| gX
end
noncomputable section
abbrev We:List CP:=[.d .str,.d .str,.d .str,.nil,.nil,.d .str,.nil,.nil,.d .str,.d zg,.d zg,.d .str,.d .str,.nil,.d (.sl zf),.nil,.d .str,.d zg,.d zg,.d .str,.d .str,.nil,.d .str]
abbrev Wf:List CP:=[.d .str,.d .str,.d .str,.nil,.nil,.d .str,.nil,.nil,.d .str,.d zg,.d zg,.d .str,.d .str,.nil,.nil,.d (.sl aF),.d .expr,.d .str]

abbrev XV:=my [(15,[1,3,5,12,13]),(27,[1,3,5,8,9,14,15])]
inductive uC where
 | h15 (s12:List UInt8) (i13:Int) (z0:zu kB) (z1:zu dM) (z2:zu We)
 | h27 (s8:TS) (b9:Sem Sh.bool) (s14:List UInt8) (i15:Int) (z0:zu kB) (z1:zu dM) (z2:zu Wf)
abbrev Z6:uC→Nat×St
 | .h15 s12 i13 z0 z1 z2=>(15,⟨tm 430 [(1,AV.ptr 0 0),(3,AV.ptr 1 0),(5,AV.ptr 2 0),(12,AV.str s12),(13,AV.int .i64 i13)],[AO.box (bn [] kB z0),AO.box (bn [] dM z1),AO.box (bn [] We z2)]⟩)
 | .h27 s8 b9 s14 i15 z0 z1 z2=>(27,⟨tm 430 [(1,AV.ptr 0 0),(3,AV.ptr 1 0),(5,AV.ptr 2 0),(8,AV.str s8),(9,AV.bool b9),(14,AV.str s14),(15,AV.int .i64 i15)],[AO.box (bn [] kB z0),AO.box (bn [] dM z1),AO.box (bn [] Wf z2)]⟩)
def zbp (x0:Sem zq):Tr (uC ⊕ au):=
 let a0:=zC x0.2.2.2.2.2.2.2.2.1
 let a1:=zC x0.2.2.2.2.2.2.2.2.2.2.2.1
 let a2:=(x0.1,x0.2.1,x0.2.2.1,x0.2.2.2.1,x0.2.2.2.2.1,x0.2.2.2.2.2.1,x0.2.2.2.2.2.2.1,x0.2.2.2.2.2.2.2.1,a0,x0.2.2.2.2.2.2.2.2.2.1,x0.2.2.2.2.2.2.2.2.2.2.1,a1,x0.2.2.2.2.2.2.2.2.2.2.2.2)
 let a3:=IX a2
 let a4:=CN a1 [87,72,69,82,69]
 let a5:=[68,69,76,69,84,69,32,70,82,79,77,32]++x0.2.1
 let a6:=[83,69,76,69,67,84,32,42,32,70,82,79,77,32]++x0.2.1
 let a7:=[77,73,71,82,65,84,69,32,67,79,80,89,32]++x0.2.1
 let a8:=a7++[32,70,82,79,77,32]
 let a9:=a8++x0.2.2.1
 let a10:=a9++[32,40,32]
 let a11:=Ma x0.2.2.2.1
 let a12:=a10++a11.1
 let a13:=a12++[32,41]
 let a14:=CN a0 []
 let a15:=dQ x0.2.2.1
 let a16:=fF x0.2.2.1
 let a17:=[77,73,71,82,65,84,69,32,74,79,73,78,32]++x0.2.1
 let a18:=a17++[32,70,82,79,77,32]
 let a19:=a18++x0.2.2.1
 let a20:=a19++[32,44,32]
 let a21:=a20++x0.2.2.2.2.2.2.2.2.2.2.2.2
 let a22:=a21++[32,79,78,32]
 let a23:=a22++x0.2.2.2.2.2.1
 let a24:=dQ x0.2.2.2.2.2.2.2.2.2.2.2.2
 let a25:=fF x0.2.2.2.2.2.2.2.2.2.2.2.2
 let a26:=[77,73,71,82,65,84,69,32,71,82,79,85,80,32]++x0.2.1
 let a27:=a26++[32,70,82,79,77,32]
 let a28:=a27++x0.2.2.1
 let a29:=zH 0 (length x0.2.2.2.1)
 let a30:=a28++[32,66,89,32]
 let a31:=getD x0.2.2.2.1 (toNat 0) (zj Sh.str)
 let a32:=a30++a31
 let a33:=zH 1 (length x0.2.2.2.1)
 let a34:=a32++[32,83,85,77,32]
 let a35:=getD x0.2.2.2.1 (toNat 1) (zj Sh.str)
 let a36:=a34++a35
 let a37:=[71,82,65,78,84,32,82,69,65,68,32,79,78,32]++x0.2.1
 let a38:=a37++[32,84,79,32]
 let a39:=[71,82,65,78,84,32,87,82,73,84,69,32,79,78,32]++x0.2.1
 let a40:=a39++[32,84,79,32]
 let a41:=[82,69,86,79,75,69,32,82,69,65,68,32,79,78,32]++x0.2.1
 let a42:=a41++[32,70,82,79,77,32]
 let a43:=[82,69,86,79,75,69,32,87,82,73,84,69,32,79,78,32]++x0.2.1
 let a44:=a43++[32,70,82,79,77,32]
 Tr.chk (x6 a0 [])
 (Tr.chk (x6 a1 [87,72,69,82,69])
  (Tr.br (x0.1==[99,114,101,97,116,101]) (Tr.chk (Fx a2) (Tr.re (AV.tup [AV.str a3.1,AV.agg [AV.str x0.1,AV.str x0.2.1,AV.str [],AV.nils,AV.sl zi x0.2.2.2.2.1,AV.str x0.2.2.2.2.2.1,AV.sl Sh.str x0.2.2.2.2.2.2.1,AV.sl (Sh.str.pr Sh.str) x0.2.2.2.2.2.2.2.1,AV.str (ze.op x0.2.2.2.2.2.2.2.2.1),AV.int .i64 (ze.v x0.2.2.2.2.2.2.2.2.1).1,
  AV.int .i64 (ze.v x0.2.2.2.2.2.2.2.2.1).2.1,AV.str (ze.v x0.2.2.2.2.2.2.2.2.1).2.2,AV.str (ze.s x0.2.2.2.2.2.2.2.2.1),AV.sl Sh.expr (ze.l x0.2.2.2.2.2.2.2.2.1),AV.nils,AV.nils,AV.str [],AV.int .i64 0,AV.int .i64 0,AV.str [],AV.str [],AV.nils,AV.str []],AV.bool a3.2]) [])) (Tr.br (x0.1==[100,114,111,112])
  (Tr.chk (decide ([68,82,79,80,32,84,65,66,76,69,32].length+length x0.2.1≤1099511627776)) (Tr.re (AV.tup [AV.str ([68,82,79,80,32,84,65,66,76,69,32]++x0.2.1),AV.agg [AV.str x0.1,AV.str x0.2.1,AV.str [],AV.nils,AV.nils,AV.str [],AV.nils,AV.nils,AV.str [],AV.int .i64 0,
  AV.int .i64 0,AV.str [],AV.str [],AV.nils,AV.nils,AV.nils,AV.str [],AV.int .i64 0,AV.int .i64 0,AV.str [],AV.str [],AV.nils,AV.str []],AV.kb true]) [])) (Tr.br (x0.1==[105,110,115,101,114,116]) (Tr.to (uC.h15 [] 0 (x0,()) ([],[],[],[],[],0,0,[],[],[],0,0,[],[],[],())
  (x0.1,x0.2.1,[],[],[],0,0,[],[],x0.2.2.2.2.2.2.2.2.2.1,[],0,0,[],[],[],()))) (Tr.br (x0.1==[117,112,100,97,116,101]) (Tr.to (uC.h27 a4.1 a4.2 [] 0 (x0,()) ([],[],[],[],[],0,0,[],[],[],0,0,[],[],[],()) (x0.1,x0.2.1,[],[],[],0,0,[],[],x0.2.2.2.2.2.2.2.2.2.2.1,x0.2.2.2.2.2.2.2.2.2.2.2.1,[],()))) (Tr.br (x0.1==[100,101,108,101,116,101])
  (Tr.chk (decide ([68,69,76,69,84,69,32,70,82,79,77,32].length+length x0.2.1≤1099511627776)) (Tr.chk (decide (length a5+length a4.1≤1099511627776)) (Tr.re (AV.tup [AV.str (a5++a4.1),AV.agg [AV.str x0.1,AV.str x0.2.1,AV.str [],AV.nils,AV.nils,AV.str [],AV.nils,AV.nils,AV.str [],AV.int .i64 0,
  AV.int .i64 0,AV.str [],AV.str [],AV.nils,AV.nils,AV.nils,AV.str (ze.op x0.2.2.2.2.2.2.2.2.2.2.2.1),AV.int .i64 (ze.v x0.2.2.2.2.2.2.2.2.2.2.2.1).1,AV.int .i64 (ze.v x0.2.2.2.2.2.2.2.2.2.2.2.1).2.1,AV.str (ze.v x0.2.2.2.2.2.2.2.2.2.2.2.1).2.2,AV.str (ze.s x0.2.2.2.2.2.2.2.2.2.2.2.1),AV.sl Sh.expr (ze.l x0.2.2.2.2.2.2.2.2.2.2.2.1),AV.str []],AV.bool a4.2]) [])))
  (Tr.br (x0.1==[115,101,108,101,99,116]) (Tr.chk (decide ([83,69,76,69,67,84,32,42,32,70,82,79,77,32].length+length x0.2.1≤1099511627776)) (Tr.chk (decide (length a6+length a4.1≤1099511627776)) (Tr.re (AV.tup [AV.str (a6++a4.1),AV.agg [AV.str x0.1,AV.str x0.2.1,AV.str [],AV.nils,AV.nils,AV.str [],AV.nils,AV.nils,AV.str [],AV.int .i64 0,
  AV.int .i64 0,AV.str [],AV.str [],AV.nils,AV.nils,AV.nils,AV.str (ze.op x0.2.2.2.2.2.2.2.2.2.2.2.1),AV.int .i64 (ze.v x0.2.2.2.2.2.2.2.2.2.2.2.1).1,AV.int .i64 (ze.v x0.2.2.2.2.2.2.2.2.2.2.2.1).2.1,AV.str (ze.v x0.2.2.2.2.2.2.2.2.2.2.2.1).2.2,AV.str (ze.s x0.2.2.2.2.2.2.2.2.2.2.2.1),AV.sl Sh.expr (ze.l x0.2.2.2.2.2.2.2.2.2.2.2.1),AV.str []],AV.bool a4.2]) [])))
  (Tr.br (x0.1==[99,111,112,121]) (Tr.chk (I5 x0.2.2.2.1) (Tr.chk (decide ([77,73,71,82,65,84,69,32,67,79,80,89,32].length+length x0.2.1≤1099511627776)) (Tr.chk (decide (length a7+[32,70,82,79,77,32].length≤1099511627776)) (Tr.chk (decide (length a8+length x0.2.2.1≤1099511627776))
  (Tr.chk (decide (length a9+[32,40,32].length≤1099511627776)) (Tr.chk (decide (length a10+length a11.1≤1099511627776)) (Tr.chk (decide (length a12+[32,41].length≤1099511627776)) (Tr.chk (decide (length a13+length a14.1≤1099511627776)) (Tr.br a11.2 (Tr.br a14.2 (Tr.chk a15 (Tr.re (AV.tup [AV.str (a13++a14.1),AV.agg
  [AV.str x0.1,AV.str x0.2.1,AV.str x0.2.2.1,AV.sl Sh.str x0.2.2.2.1,AV.nils,AV.str [],AV.nils,AV.nils,AV.str (ze.op x0.2.2.2.2.2.2.2.2.1),AV.int .i64 (ze.v x0.2.2.2.2.2.2.2.2.1).1,AV.int .i64 (ze.v x0.2.2.2.2.2.2.2.2.1).2.1,AV.str (ze.v x0.2.2.2.2.2.2.2.2.1).2.2,AV.str (ze.s x0.2.2.2.2.2.2.2.2.1),
  AV.sl Sh.expr (ze.l x0.2.2.2.2.2.2.2.2.1),AV.nils,AV.nils,AV.str [],AV.int .i64 0,AV.int .i64 0,AV.str [],AV.str [],AV.nils,AV.str []],AV.bool a16]) [])) (Tr.re (AV.tup [AV.str (a13++a14.1),AV.agg [AV.str x0.1,AV.str x0.2.1,AV.str x0.2.2.1,AV.sl Sh.str x0.2.2.2.1,AV.nils,AV.str [],AV.nils,AV.nils,AV.str (ze.op x0.2.2.2.2.2.2.2.2.1),
  AV.int .i64 (ze.v x0.2.2.2.2.2.2.2.2.1).1,AV.int .i64 (ze.v x0.2.2.2.2.2.2.2.2.1).2.1,AV.str (ze.v x0.2.2.2.2.2.2.2.2.1).2.2,AV.str (ze.s x0.2.2.2.2.2.2.2.2.1),AV.sl Sh.expr (ze.l x0.2.2.2.2.2.2.2.2.1),AV.nils,AV.nils,AV.str [],AV.int .i64 0,AV.int .i64 0,AV.str [],AV.str [],AV.nils,AV.str []],AV.kb false]) [])) (Tr.re (AV.tup [AV.str (a13++a14.1),AV.agg
  [AV.str x0.1,AV.str x0.2.1,AV.str x0.2.2.1,AV.sl Sh.str x0.2.2.2.1,AV.nils,AV.str [],AV.nils,AV.nils,AV.str (ze.op x0.2.2.2.2.2.2.2.2.1),AV.int .i64 (ze.v x0.2.2.2.2.2.2.2.2.1).1,AV.int .i64 (ze.v x0.2.2.2.2.2.2.2.2.1).2.1,AV.str (ze.v x0.2.2.2.2.2.2.2.2.1).2.2,AV.str (ze.s x0.2.2.2.2.2.2.2.2.1),
  AV.sl Sh.expr (ze.l x0.2.2.2.2.2.2.2.2.1),AV.nils,AV.nils,AV.str [],AV.int .i64 0,AV.int .i64 0,AV.str [],AV.str [],AV.nils,AV.str []],AV.kb false]) [])))))))))) (Tr.br (x0.1==[106,111,105,110]) (Tr.chk (decide ([77,73,71,82,65,84,69,32,74,79,73,78,32].length+length x0.2.1≤1099511627776))
  (Tr.chk (decide (length a17+[32,70,82,79,77,32].length≤1099511627776)) (Tr.chk (decide (length a18+length x0.2.2.1≤1099511627776)) (Tr.chk (decide (length a19+[32,44,32].length≤1099511627776)) (Tr.chk (decide (length a20+length x0.2.2.2.2.2.2.2.2.2.2.2.2≤1099511627776))
  (Tr.chk (decide (length a21+[32,79,78,32].length≤1099511627776)) (Tr.chk (decide (length a22+length x0.2.2.2.2.2.1≤1099511627776)) (Tr.chk (decide (length a23+length a14.1≤1099511627776)) (Tr.br a14.2 (Tr.chk a15 (Tr.br a16 (Tr.chk a24 (Tr.br a25 (Tr.chk (dQ x0.2.2.2.2.2.1) (Tr.re (AV.tup [AV.str (a23++a14.1),AV.agg
  [AV.str x0.1,AV.str x0.2.1,AV.str x0.2.2.1,AV.nils,AV.nils,AV.str x0.2.2.2.2.2.1,AV.nils,AV.nils,AV.str (ze.op x0.2.2.2.2.2.2.2.2.1),AV.int .i64 (ze.v x0.2.2.2.2.2.2.2.2.1).1,AV.int .i64 (ze.v x0.2.2.2.2.2.2.2.2.1).2.1,AV.str (ze.v x0.2.2.2.2.2.2.2.2.1).2.2,AV.str (ze.s x0.2.2.2.2.2.2.2.2.1),AV.sl Sh.expr (ze.l x0.2.2.2.2.2.2.2.2.1),AV.nils,AV.nils,AV.str [],
  AV.int .i64 0,AV.int .i64 0,AV.str [],AV.str [],AV.nils,AV.str x0.2.2.2.2.2.2.2.2.2.2.2.2],AV.bool (fF x0.2.2.2.2.2.1)]) [])) (Tr.re (AV.tup [AV.str (a23++a14.1),AV.agg [AV.str x0.1,AV.str x0.2.1,AV.str x0.2.2.1,AV.nils,AV.nils,AV.str x0.2.2.2.2.2.1,AV.nils,AV.nils,AV.str (ze.op x0.2.2.2.2.2.2.2.2.1),AV.int .i64 (ze.v x0.2.2.2.2.2.2.2.2.1).1,
  AV.int .i64 (ze.v x0.2.2.2.2.2.2.2.2.1).2.1,AV.str (ze.v x0.2.2.2.2.2.2.2.2.1).2.2,AV.str (ze.s x0.2.2.2.2.2.2.2.2.1),AV.sl Sh.expr (ze.l x0.2.2.2.2.2.2.2.2.1),AV.nils,AV.nils,AV.str [],AV.int .i64 0,AV.int .i64 0,AV.str [],AV.str [],AV.nils,AV.str x0.2.2.2.2.2.2.2.2.2.2.2.2],AV.kb false]) []))) (Tr.re (AV.tup [AV.str (a23++a14.1),AV.agg
  [AV.str x0.1,AV.str x0.2.1,AV.str x0.2.2.1,AV.nils,AV.nils,AV.str x0.2.2.2.2.2.1,AV.nils,AV.nils,AV.str (ze.op x0.2.2.2.2.2.2.2.2.1),AV.int .i64 (ze.v x0.2.2.2.2.2.2.2.2.1).1,AV.int .i64 (ze.v x0.2.2.2.2.2.2.2.2.1).2.1,AV.str (ze.v x0.2.2.2.2.2.2.2.2.1).2.2,AV.str (ze.s x0.2.2.2.2.2.2.2.2.1),AV.sl Sh.expr (ze.l x0.2.2.2.2.2.2.2.2.1),AV.nils,AV.nils,AV.str [],
  AV.int .i64 0,AV.int .i64 0,AV.str [],AV.str [],AV.nils,AV.str x0.2.2.2.2.2.2.2.2.2.2.2.2],AV.kb false]) []))) (Tr.re (AV.tup [AV.str (a23++a14.1),AV.agg [AV.str x0.1,AV.str x0.2.1,AV.str x0.2.2.1,AV.nils,AV.nils,AV.str x0.2.2.2.2.2.1,AV.nils,AV.nils,AV.str (ze.op x0.2.2.2.2.2.2.2.2.1),AV.int .i64 (ze.v x0.2.2.2.2.2.2.2.2.1).1,
  AV.int .i64 (ze.v x0.2.2.2.2.2.2.2.2.1).2.1,AV.str (ze.v x0.2.2.2.2.2.2.2.2.1).2.2,AV.str (ze.s x0.2.2.2.2.2.2.2.2.1),AV.sl Sh.expr (ze.l x0.2.2.2.2.2.2.2.2.1),AV.nils,AV.nils,AV.str [],AV.int .i64 0,AV.int .i64 0,AV.str [],AV.str [],AV.nils,AV.str x0.2.2.2.2.2.2.2.2.2.2.2.2],AV.kb false]) [])))))))))) (Tr.br (x0.1==[103,114,111,117,112])
  (Tr.br ((↑(length x0.2.2.2.1):Int) != 2) (Tr.re (AV.tup [AV.str [],AV.agg [AV.str x0.1,AV.str x0.2.1,AV.str x0.2.2.1,AV.sl Sh.str x0.2.2.2.1,AV.nils,AV.str [],AV.nils,AV.nils,AV.str (ze.op x0.2.2.2.2.2.2.2.2.1),AV.int .i64 (ze.v x0.2.2.2.2.2.2.2.2.1).1,AV.int .i64 (ze.v x0.2.2.2.2.2.2.2.2.1).2.1,
  AV.str (ze.v x0.2.2.2.2.2.2.2.2.1).2.2,AV.str (ze.s x0.2.2.2.2.2.2.2.2.1),AV.sl Sh.expr (ze.l x0.2.2.2.2.2.2.2.2.1),AV.nils,AV.nils,AV.str [],AV.int .i64 0,AV.int .i64 0,AV.str [],AV.str [],AV.nils,AV.str []],AV.kb false]) []) (Tr.chk (decide ([77,73,71,82,65,84,69,32,71,82,79,85,80,32].length+length x0.2.1≤1099511627776))
  (Tr.chk (decide (length a26+[32,70,82,79,77,32].length≤1099511627776)) (Tr.chk (decide (length a27+length x0.2.2.1≤1099511627776)) (Tr.chk (decide (length a28+[32,66,89,32].length≤1099511627776)) (Tr.chk a29 (Tr.chk (decide (length a30+length a31≤1099511627776))
  (Tr.chk (decide (length a32+[32,83,85,77,32].length≤1099511627776)) (Tr.chk a33 (Tr.chk (decide (length a34+length a35≤1099511627776)) (Tr.chk (decide (length a36+length a14.1≤1099511627776)) (Tr.br a14.2 (Tr.chk a15 (Tr.br a16 (Tr.chk a29 (Tr.chk (dQ a31) (Tr.br (fF a31) (Tr.chk a33 (Tr.chk (dQ a35) (Tr.re (AV.tup [AV.str (a36++a14.1),
  AV.agg [AV.str x0.1,AV.str x0.2.1,AV.str x0.2.2.1,AV.sl Sh.str x0.2.2.2.1,AV.nils,AV.str [],AV.nils,AV.nils,AV.str (ze.op x0.2.2.2.2.2.2.2.2.1),AV.int .i64 (ze.v x0.2.2.2.2.2.2.2.2.1).1,AV.int .i64 (ze.v x0.2.2.2.2.2.2.2.2.1).2.1,AV.str (ze.v x0.2.2.2.2.2.2.2.2.1).2.2,AV.str (ze.s x0.2.2.2.2.2.2.2.2.1),AV.sl Sh.expr (ze.l x0.2.2.2.2.2.2.2.2.1),AV.nils,AV.nils,
  AV.str [],AV.int .i64 0,AV.int .i64 0,AV.str [],AV.str [],AV.nils,AV.str []],AV.bool (fF a35)]) []))) (Tr.re (AV.tup [AV.str (a36++a14.1),AV.agg [AV.str x0.1,AV.str x0.2.1,AV.str x0.2.2.1,AV.sl Sh.str x0.2.2.2.1,AV.nils,AV.str [],AV.nils,AV.nils,AV.str (ze.op x0.2.2.2.2.2.2.2.2.1),AV.int .i64 (ze.v x0.2.2.2.2.2.2.2.2.1).1,
  AV.int .i64 (ze.v x0.2.2.2.2.2.2.2.2.1).2.1,AV.str (ze.v x0.2.2.2.2.2.2.2.2.1).2.2,AV.str (ze.s x0.2.2.2.2.2.2.2.2.1),AV.sl Sh.expr (ze.l x0.2.2.2.2.2.2.2.2.1),AV.nils,AV.nils,AV.str [],AV.int .i64 0,AV.int .i64 0,AV.str [],AV.str [],AV.nils,AV.str []],AV.kb false]) [])))) (Tr.re (AV.tup [AV.str (a36++a14.1),AV.agg
  [AV.str x0.1,AV.str x0.2.1,AV.str x0.2.2.1,AV.sl Sh.str x0.2.2.2.1,AV.nils,AV.str [],AV.nils,AV.nils,AV.str (ze.op x0.2.2.2.2.2.2.2.2.1),AV.int .i64 (ze.v x0.2.2.2.2.2.2.2.2.1).1,AV.int .i64 (ze.v x0.2.2.2.2.2.2.2.2.1).2.1,AV.str (ze.v x0.2.2.2.2.2.2.2.2.1).2.2,AV.str (ze.s x0.2.2.2.2.2.2.2.2.1),
  AV.sl Sh.expr (ze.l x0.2.2.2.2.2.2.2.2.1),AV.nils,AV.nils,AV.str [],AV.int .i64 0,AV.int .i64 0,AV.str [],AV.str [],AV.nils,AV.str []],AV.kb false]) []))) (Tr.re (AV.tup [AV.str (a36++a14.1),AV.agg [AV.str x0.1,AV.str x0.2.1,AV.str x0.2.2.1,AV.sl Sh.str x0.2.2.2.1,AV.nils,AV.str [],AV.nils,AV.nils,AV.str (ze.op x0.2.2.2.2.2.2.2.2.1),
  AV.int .i64 (ze.v x0.2.2.2.2.2.2.2.2.1).1,AV.int .i64 (ze.v x0.2.2.2.2.2.2.2.2.1).2.1,AV.str (ze.v x0.2.2.2.2.2.2.2.2.1).2.2,AV.str (ze.s x0.2.2.2.2.2.2.2.2.1),AV.sl Sh.expr (ze.l x0.2.2.2.2.2.2.2.2.1),AV.nils,AV.nils,AV.str [],AV.int .i64 0,AV.int .i64 0,AV.str [],AV.str [],AV.nils,AV.str []],AV.kb false]) []))))))))))))) (Tr.br (x0.1==[114,101,97,100])
  (Tr.chk (decide ([71,82,65,78,84,32,82,69,65,68,32,79,78,32].length+length x0.2.1≤1099511627776)) (Tr.chk (decide (length a37+[32,84,79,32].length≤1099511627776)) (Tr.chk (decide (length a38+length x0.2.2.2.2.2.2.2.2.2.2.2.2≤1099511627776)) (Tr.chk a24 (Tr.re (AV.tup [AV.str (a38++x0.2.2.2.2.2.2.2.2.2.2.2.2),AV.agg
  [AV.str x0.1,AV.str x0.2.1,AV.str [],AV.nils,AV.nils,AV.str [],AV.nils,AV.nils,AV.str [],AV.int .i64 0,AV.int .i64 0,AV.str [],AV.str [],AV.nils,AV.nils,AV.nils,AV.str [],AV.int .i64 0,AV.int .i64 0,AV.str [],AV.str [],AV.nils,AV.str x0.2.2.2.2.2.2.2.2.2.2.2.2],AV.bool a25]) []))))) (Tr.br (x0.1==[119,114,105,116,101])
  (Tr.chk (decide ([71,82,65,78,84,32,87,82,73,84,69,32,79,78,32].length+length x0.2.1≤1099511627776)) (Tr.chk (decide (length a39+[32,84,79,32].length≤1099511627776)) (Tr.chk (decide (length a40+length x0.2.2.2.2.2.2.2.2.2.2.2.2≤1099511627776)) (Tr.chk a24 (Tr.re (AV.tup [AV.str (a40++x0.2.2.2.2.2.2.2.2.2.2.2.2),AV.agg
  [AV.str x0.1,AV.str x0.2.1,AV.str [],AV.nils,AV.nils,AV.str [],AV.nils,AV.nils,AV.str [],AV.int .i64 0,AV.int .i64 0,AV.str [],AV.str [],AV.nils,AV.nils,AV.nils,AV.str [],AV.int .i64 0,AV.int .i64 0,AV.str [],AV.str [],AV.nils,AV.str x0.2.2.2.2.2.2.2.2.2.2.2.2],AV.bool a25]) []))))) (Tr.br (x0.1==[117,110,114,101,97,100])
  (Tr.chk (decide ([82,69,86,79,75,69,32,82,69,65,68,32,79,78,32].length+length x0.2.1≤1099511627776)) (Tr.chk (decide (length a41+[32,70,82,79,77,32].length≤1099511627776)) (Tr.chk (decide (length a42+length x0.2.2.2.2.2.2.2.2.2.2.2.2≤1099511627776)) (Tr.chk a24 (Tr.re (AV.tup [AV.str (a42++x0.2.2.2.2.2.2.2.2.2.2.2.2),AV.agg
  [AV.str x0.1,AV.str x0.2.1,AV.str [],AV.nils,AV.nils,AV.str [],AV.nils,AV.nils,AV.str [],AV.int .i64 0,AV.int .i64 0,AV.str [],AV.str [],AV.nils,AV.nils,AV.nils,AV.str [],AV.int .i64 0,AV.int .i64 0,AV.str [],AV.str [],AV.nils,AV.str x0.2.2.2.2.2.2.2.2.2.2.2.2],AV.bool a25]) []))))) (Tr.br (x0.1==[117,110,119,114,105,116,101]) (Tr.chk
  (decide ([82,69,86,79,75,69,32,87,82,73,84,69,32,79,78,32].length+length x0.2.1≤1099511627776)) (Tr.chk (decide (length a43+[32,70,82,79,77,32].length≤1099511627776)) (Tr.chk (decide (length a44+length x0.2.2.2.2.2.2.2.2.2.2.2.2≤1099511627776)) (Tr.chk a24 (Tr.re (AV.tup [AV.str (a44++x0.2.2.2.2.2.2.2.2.2.2.2.2),AV.agg
  [AV.str x0.1,AV.str x0.2.1,AV.str [],AV.nils,AV.nils,AV.str [],AV.nils,AV.nils,AV.str [],AV.int .i64 0,AV.int .i64 0,AV.str [],AV.str [],AV.nils,AV.nils,AV.nils,AV.str [],AV.int .i64 0,AV.int .i64 0,AV.str [],AV.str [],AV.nils,AV.str x0.2.2.2.2.2.2.2.2.2.2.2.2],AV.bool a25]) []))))) (Tr.re (AV.tup [AV.str [],AV.agg
  [AV.str x0.1,AV.str x0.2.1,AV.str [],AV.nils,AV.nils,AV.str [],AV.nils,AV.nils,AV.str [],AV.int .i64 0,AV.int .i64 0,AV.str [],AV.str [],AV.nils,AV.nils,AV.nils,AV.str [],AV.int .i64 0,AV.int .i64 0,AV.str [],AV.str [],AV.nils,AV.str []],AV.kb false]) [])))))))))))))))
def zbZ:uC→Tr (uC ⊕ au)
 | .h15 s12 i13 z0 z1 z2=>
  let a0:=(↑(length z0.1.2.2.2.2.2.2.2.2.2.1):Int)
  let a1:=zH i13 (length z0.1.2.2.2.2.2.2.2.2.2.1)
  let a2:=getD z0.1.2.2.2.2.2.2.2.2.2.1 i13.toNat (zj zf)
  let a3:=lQ a2
  let a4:=s12++[32,44,32]
  let a5:=pu a2
  let a6:=IntKind.i64.wrap (i13+1)
  let a7:=[73,78,83,69,82,84,32,73,78,84,79,32]++z0.1.2.1
  let a8:=a7++[32,86,65,76,85,69,83,32,40,32]
  let a9:=a8++s12
  Tr.br (decide (i13 < a0))
  (Tr.chk a1
   (Tr.chk (tK a2) (Tr.br (!A6 a2) (Tr.re (AV.tup [AV.str [],AV.agg [AV.str z2.1,AV.str z2.2.1,AV.str z2.2.2.1,AV.nils,AV.nils,AV.str z2.2.2.2.1,AV.nils,AV.nils,AV.str z2.2.2.2.2.1,AV.int .i64 z2.2.2.2.2.2.1,AV.int .i64 z2.2.2.2.2.2.2.1,AV.str z2.2.2.2.2.2.2.2.1,AV.str z2.2.2.2.2.2.2.2.2.1,AV.nils,AV.sl zf z2.2.2.2.2.2.2.2.2.2.1,AV.nils,
   AV.str z2.2.2.2.2.2.2.2.2.2.2.1,AV.int .i64 z2.2.2.2.2.2.2.2.2.2.2.2.1,AV.int .i64 z2.2.2.2.2.2.2.2.2.2.2.2.2.1,AV.str z2.2.2.2.2.2.2.2.2.2.2.2.2.2.1,AV.str z2.2.2.2.2.2.2.2.2.2.2.2.2.2.2.1,AV.nils,AV.str z2.2.2.2.2.2.2.2.2.2.2.2.2.2.2.2.1],AV.kb false]) []) (Tr.br (decide (i13 > 0)) (Tr.chk (decide (s12.length+[32,44,32].length≤1099511627776))
   (Tr.chk a1 (Tr.chk a3 (Tr.chk (decide (length a4+length a5≤1099511627776)) (Tr.to (uC.h15 (a4++a5) a6 z0 z1 z2)))))) (Tr.chk a1 (Tr.chk a3 (Tr.chk (decide (s12.length+length a5≤1099511627776)) (Tr.to (uC.h15 (s12++a5) a6 z0 z1 z2)))))))))
  (Tr.chk (decide ([73,78,83,69,82,84,32,73,78,84,79,32].length+length z0.1.2.1≤1099511627776))
   (Tr.chk (decide (length a7+[32,86,65,76,85,69,83,32,40,32].length≤1099511627776)) (Tr.chk (decide (length a8+s12.length≤1099511627776)) (Tr.chk (decide (length a9+[32,41].length≤1099511627776)) (Tr.br (decide (1≤a0)) (Tr.re (AV.tup [AV.str (a9++[32,41]),AV.agg
   [AV.str z2.1,AV.str z2.2.1,AV.str z2.2.2.1,AV.nils,AV.nils,AV.str z2.2.2.2.1,AV.nils,AV.nils,AV.str z2.2.2.2.2.1,AV.int .i64 z2.2.2.2.2.2.1,AV.int .i64 z2.2.2.2.2.2.2.1,AV.str z2.2.2.2.2.2.2.2.1,AV.str z2.2.2.2.2.2.2.2.2.1,AV.nils,AV.sl zf z2.2.2.2.2.2.2.2.2.2.1,AV.nils,AV.str z2.2.2.2.2.2.2.2.2.2.2.1,AV.int .i64 z2.2.2.2.2.2.2.2.2.2.2.2.1,
   AV.int .i64 z2.2.2.2.2.2.2.2.2.2.2.2.2.1,AV.str z2.2.2.2.2.2.2.2.2.2.2.2.2.2.1,AV.str z2.2.2.2.2.2.2.2.2.2.2.2.2.2.2.1,AV.nils,AV.str z2.2.2.2.2.2.2.2.2.2.2.2.2.2.2.2.1],AV.bool (decide (a0≤12))]) []) (Tr.re (AV.tup [AV.str (a9++[32,41]),AV.agg [AV.str z2.1,AV.str z2.2.1,AV.str z2.2.2.1,AV.nils,AV.nils,AV.str z2.2.2.2.1,AV.nils,AV.nils,
   AV.str z2.2.2.2.2.1,AV.int .i64 z2.2.2.2.2.2.1,AV.int .i64 z2.2.2.2.2.2.2.1,AV.str z2.2.2.2.2.2.2.2.1,AV.str z2.2.2.2.2.2.2.2.2.1,AV.nils,AV.sl zf z2.2.2.2.2.2.2.2.2.2.1,AV.nils,AV.str z2.2.2.2.2.2.2.2.2.2.2.1,AV.int .i64 z2.2.2.2.2.2.2.2.2.2.2.2.1,AV.int .i64 z2.2.2.2.2.2.2.2.2.2.2.2.2.1,AV.str z2.2.2.2.2.2.2.2.2.2.2.2.2.2.1,AV.str z2.2.2.2.2.2.2.2.2.2.2.2.2.2.2.1,
   AV.nils,AV.str z2.2.2.2.2.2.2.2.2.2.2.2.2.2.2.2.1],AV.kb false]) []))))))
 | .h27 s8 b9 s14 i15 z0 z1 z2=>
  let a0:=(↑(length z0.1.2.2.2.2.2.2.2.2.2.2.1):Int)
  let a1:=zH i15 (length z0.1.2.2.2.2.2.2.2.2.2.2.1)
  let a2:=getD z0.1.2.2.2.2.2.2.2.2.2.2.1 i15.toNat (zj aF)
  let a3 := !fF a2.1
  let a4:=zC a2.2
  let a5:=decide (length a2.1+[32,61,32].length≤1099511627776)
  let a6:=qT a4
  let a7:=a2.1++[32,61,32]
  let a8:=pA a4
  let a9:=decide (length a7+length a8≤1099511627776)
  let a10:=s14++[32,44,32]
  let a11:=a7++a8
  let a12:=IntKind.i64.wrap (i15+1)
  let a13:=[85,80,68,65,84,69,32]++z0.1.2.1
  let a14:=a13++[32,83,69,84,32]
  let a15:=a14++s14
  Tr.br (decide (i15 < a0))
  (Tr.chk (a1&&(dQ a2.1&&bif a3 then true else a1&&CF a4))
   (Tr.br (bif a3 then true else !IR a4) (Tr.re (AV.tup [AV.str [],AV.agg [AV.str z2.1,AV.str z2.2.1,AV.str z2.2.2.1,AV.nils,AV.nils,AV.str z2.2.2.2.1,AV.nils,AV.nils,AV.str z2.2.2.2.2.1,AV.int .i64 z2.2.2.2.2.2.1,AV.int .i64 z2.2.2.2.2.2.2.1,AV.str z2.2.2.2.2.2.2.2.1,AV.str z2.2.2.2.2.2.2.2.2.1,AV.nils,AV.nils,
   AV.sl (Sh.str.pr Sh.expr) z2.2.2.2.2.2.2.2.2.2.1,AV.str (ze.op z2.2.2.2.2.2.2.2.2.2.2.1),AV.int .i64 (ze.v z2.2.2.2.2.2.2.2.2.2.2.1).1,AV.int .i64 (ze.v z2.2.2.2.2.2.2.2.2.2.2.1).2.1,AV.str (ze.v z2.2.2.2.2.2.2.2.2.2.2.1).2.2,AV.str (ze.s z2.2.2.2.2.2.2.2.2.2.2.1),AV.sl Sh.expr (ze.l z2.2.2.2.2.2.2.2.2.2.2.1),AV.str z2.2.2.2.2.2.2.2.2.2.2.2.1],AV.kb false]) [])
   (Tr.br (decide (i15 > 0)) (Tr.chk (decide (s14.length+[32,44,32].length≤1099511627776)) (Tr.chk a1 (Tr.chk a5 (Tr.chk a1 (Tr.chk a6 (Tr.chk a9 (Tr.chk (decide (length a10+length a11≤1099511627776)) (Tr.to (uC.h27 s8 b9 (a10++a11) a12 z0 z1 z2))))))))) (Tr.chk a1 (Tr.chk a5 (Tr.chk a1
   (Tr.chk a6 (Tr.chk a9 (Tr.chk (decide (s14.length+length a11≤1099511627776)) (Tr.to (uC.h27 s8 b9 (s14++a11) a12 z0 z1 z2)))))))))))
  (Tr.chk (decide ([85,80,68,65,84,69,32].length+length z0.1.2.1≤1099511627776))
   (Tr.chk (decide (length a13+[32,83,69,84,32].length≤1099511627776)) (Tr.chk (decide (length a14+s14.length≤1099511627776)) (Tr.chk (decide (length a15+length s8≤1099511627776)) (Tr.br b9 (Tr.br (decide (1≤a0)) (Tr.re (AV.tup [AV.str (a15++s8),AV.agg [AV.str z2.1,AV.str z2.2.1,AV.str z2.2.2.1,AV.nils,AV.nils,AV.str z2.2.2.2.1,AV.nils,AV.nils,
   AV.str z2.2.2.2.2.1,AV.int .i64 z2.2.2.2.2.2.1,AV.int .i64 z2.2.2.2.2.2.2.1,AV.str z2.2.2.2.2.2.2.2.1,AV.str z2.2.2.2.2.2.2.2.2.1,AV.nils,AV.nils,AV.sl (Sh.str.pr Sh.expr) z2.2.2.2.2.2.2.2.2.2.1,AV.str (ze.op z2.2.2.2.2.2.2.2.2.2.2.1),AV.int .i64 (ze.v z2.2.2.2.2.2.2.2.2.2.2.1).1,AV.int .i64 (ze.v z2.2.2.2.2.2.2.2.2.2.2.1).2.1,AV.str (ze.v z2.2.2.2.2.2.2.2.2.2.2.1).2.2,
   AV.str (ze.s z2.2.2.2.2.2.2.2.2.2.2.1),AV.sl Sh.expr (ze.l z2.2.2.2.2.2.2.2.2.2.2.1),AV.str z2.2.2.2.2.2.2.2.2.2.2.2.1],AV.bool (decide (a0≤8))]) []) (Tr.re (AV.tup [AV.str (a15++s8),AV.agg [AV.str z2.1,AV.str z2.2.1,AV.str z2.2.2.1,AV.nils,AV.nils,AV.str z2.2.2.2.1,AV.nils,AV.nils,AV.str z2.2.2.2.2.1,AV.int .i64 z2.2.2.2.2.2.1,AV.int .i64 z2.2.2.2.2.2.2.1,
   AV.str z2.2.2.2.2.2.2.2.1,AV.str z2.2.2.2.2.2.2.2.2.1,AV.nils,AV.nils,AV.sl (Sh.str.pr Sh.expr) z2.2.2.2.2.2.2.2.2.2.1,AV.str (ze.op z2.2.2.2.2.2.2.2.2.2.2.1),AV.int .i64 (ze.v z2.2.2.2.2.2.2.2.2.2.2.1).1,AV.int .i64 (ze.v z2.2.2.2.2.2.2.2.2.2.2.1).2.1,AV.str (ze.v z2.2.2.2.2.2.2.2.2.2.2.1).2.2,
   AV.str (ze.s z2.2.2.2.2.2.2.2.2.2.2.1),AV.sl Sh.expr (ze.l z2.2.2.2.2.2.2.2.2.2.2.1),AV.str z2.2.2.2.2.2.2.2.2.2.2.2.1],AV.kb false]) [])) (Tr.re (AV.tup [AV.str (a15++s8),AV.agg [AV.str z2.1,AV.str z2.2.1,AV.str z2.2.2.1,AV.nils,AV.nils,AV.str z2.2.2.2.1,AV.nils,AV.nils,AV.str z2.2.2.2.2.1,AV.int .i64 z2.2.2.2.2.2.1,AV.int .i64 z2.2.2.2.2.2.2.1,
   AV.str z2.2.2.2.2.2.2.2.1,AV.str z2.2.2.2.2.2.2.2.2.1,AV.nils,AV.nils,AV.sl (Sh.str.pr Sh.expr) z2.2.2.2.2.2.2.2.2.2.1,AV.str (ze.op z2.2.2.2.2.2.2.2.2.2.2.1),AV.int .i64 (ze.v z2.2.2.2.2.2.2.2.2.2.2.1).1,AV.int .i64 (ze.v z2.2.2.2.2.2.2.2.2.2.2.1).2.1,AV.str (ze.v z2.2.2.2.2.2.2.2.2.2.2.1).2.2,AV.str (ze.s z2.2.2.2.2.2.2.2.2.2.2.1),
   AV.sl Sh.expr (ze.l z2.2.2.2.2.2.2.2.2.2.2.1),AV.str z2.2.2.2.2.2.2.2.2.2.2.2.1],AV.kb false]) []))))))
def tT (x0:Sem zq):=aq [Sh.str,zq,Sh.bool] zbZ 100000000 (zbp x0)
def I6 (x0:Sem zq):=(tT x0).isSome
def Mb (x0:Sem zq):=o3 (tT x0)
def Ub:=FT [zq] [Sh.str,zq,Sh.bool] fun x=>tT x.1
theorem PU:FK 183 Ub:=sv.T1 (f:=Tryz.f183) (keep:=XV) (e:=Z6)

def NN:=GI.add 183 Ub
theorem vV:zm NN:=sv.add PU
end

noncomputable def zbk (x0:Sem zq):Tr (Empty ⊕ au):=
 let a0:=(x0.1,x0.2.1,x0.2.2.1,x0.2.2.2.1,x0.2.2.2.2.1,x0.2.2.2.2.2.1,x0.2.2.2.2.2.2.1,x0.2.2.2.2.2.2.2.1,zC x0.2.2.2.2.2.2.2.2.1,x0.2.2.2.2.2.2.2.2.2.1,x0.2.2.2.2.2.2.2.2.2.2.1,zC x0.2.2.2.2.2.2.2.2.2.2.2.1,x0.2.2.2.2.2.2.2.2.2.2.2.2)
 let a1:=Mb a0
 let a2 := !a1.2.2
 let a3 := !fF x0.2.1
 let a4:=(a1.2.1.1,a1.2.1.2.1,a1.2.1.2.2.1,a1.2.1.2.2.2.1,a1.2.1.2.2.2.2.1,a1.2.1.2.2.2.2.2.1,a1.2.1.2.2.2.2.2.2.1,a1.2.1.2.2.2.2.2.2.2.1,zC a1.2.1.2.2.2.2.2.2.2.2.1,a1.2.1.2.2.2.2.2.2.2.2.2.1,a1.2.1.2.2.2.2.2.2.2.2.2.2.1,zC a1.2.1.2.2.2.2.2.2.2.2.2.2.2.1,a1.2.1.2.2.2.2.2.2.2.2.2.2.2.2)
 let a5:=wA a1.1
 Tr.chk (I6 a0)
 (Tr.chk (bif a2 then true else dQ x0.2.1&&bif a3 then true else L9 a4 a0)
  (Tr.br (bif a2 then true else bif a3 then true else !Sr a4 a0) (Tr.re (AV.tup [AV.str [],AV.kb false]) []) (Tr.chk (IZ a1.1) (Tr.br (!a5.2) (Tr.re (AV.tup [AV.str [],AV.kb false]) []) (Tr.re (AV.tup [AV.str a1.1,AV.kb true]) [])))))
noncomputable def x5 (x0:Sem zq):=aq [Sh.str,Sh.bool] t0 100000000 (zbk x0)
noncomputable def iE (x0:Sem zq):=(x5 x0).isSome
noncomputable def lg (x0:Sem zq):=o2 (x5 x0)
noncomputable def TM:=FT [zq] [Sh.str,Sh.bool] fun x=>x5 x.1
theorem Pw:FK 116 TM:=vV.T1 (f:=Tryz.f116) (keep:=k0) (e:=e0)

noncomputable def At:=NN.add 116 TM
theorem lE:zm At:=vV.add Pw
noncomputable section

def Xp (x0:Sem zr.sl) (x1:Sem zg) (x2:Sem Sh.str):Tr (Empty ⊕ au):=
 let a0:=decide (x1 < (↑(length x0):Int))
 let a1:=getD x0 (toNat x1) (zj zr)
 let a2:=a1.1==1
 let a3:=a1.1==4
 let a4:=a1.2==x2
 Tr.chk
 (bif a0 then zH x1 (length x0)&&bif a2 then zH x1 (length x0) else zH x1 (length x0)&&bif a3 then zH x1 (length x0) else true
 else true)
 (Tr.re (AV.bool (bif a0 then bif a2 then a4 else bif a3 then a4 else false else false)) [])
def I1 (x0:Sem zr.sl) (x1:Sem zg) (x2:Sem Sh.str):=aq [Sh.bool] t0 100000000 (Xp x0 x1 x2)
def iD (x0:Sem zr.sl) (x1:Sem zg) (x2:Sem Sh.str):=(I1 x0 x1 x2).isSome
def oe (x0:Sem zr.sl) (x1:Sem zg) (x2:Sem Sh.str):=o1 (I1 x0 x1 x2)
def Nd:=FT [zr.sl,zg,Sh.str] [Sh.bool] fun x=>I1 x.1 x.2.1 x.2.2.1
theorem KC:FK 274 Nd:=lE.T1 (f:=Tryz.f274) (keep:=k0) (e:=e0)

abbrev Rw:=my [(3,[0,2,4,5]),(10,[0,2,6,7]),(18,[0,2,6,8])]
inductive j8 where
 | h3 (s0:Sem Sh.str) (l4:List (Sem zf)) (i5:Int) (z0:zu [CP.d zf])
 | h10 (s0:Sem Sh.str) (i7:Int) (z0:zu [CP.d zf]) (z1:zu [CP.d zf])
 | h18 (s0:Sem Sh.str) (i8:Int) (z0:zu [CP.d zf]) (z1:zu [CP.d zf])
abbrev Ws:j8→Nat×St
 | .h3 s0 l4 i5 z0=>(3,⟨tm 145 [(0,AV.str s0),(2,AV.ptr 0 0),(4,AV.sl zf l4),(5,AV.int .i64 i5)],[AO.box (bn [] [CP.d zf] z0)]⟩)
 | .h10 s0 i7 z0 z1=>(10,⟨tm 145 [(0,AV.str s0),(2,AV.ptr 0 0),(6,AV.ptr 1 0),(7,AV.int .i64 i7)],[AO.box (bn [] [CP.d zf] z0),AO.box (bn [] [CP.d zf] z1)]⟩)
 | .h18 s0 i8 z0 z1=>(18,⟨tm 145 [(0,AV.str s0),(2,AV.ptr 0 0),(6,AV.ptr 1 0),(8,AV.int .i64 i8)],[AO.box (bn [] [CP.d zf] z0),AO.box (bn [] [CP.d zf] z1)]⟩)
def Xr (x0:Sem Sh.str):Tr (j8 ⊕ au):=
 Tr.to (j8.h3 x0 [(0,0,[]),(3,0,[]),(3,1,[])] 0 ((0,0,[]),()))
def Zy:j8→Tr (j8 ⊕ au)
 | .h3 s0 l4 i5 z0=>
  let a0:=l4.getD i5.toNat (zj zf)
  let a1:=decide ((↑(length s0):Int) ≥ 2)
  let a2:=(↑(getD s0 (toNat 0) 0).toNat:Int)==39
  let a3:=IntKind.i64.wrap ((↑(length s0):Int) - 1)
  Tr.br (decide (i5 < (↑l4.length:Int)))
  (Tr.chk (zH i5 l4.length) (Tr.chk (lQ a0) (Tr.br (pu a0==s0) (Tr.chk (zH i5 l4.length) (Tr.re (AV.tup [AV.agg [AV.int .i64 a0.1,AV.int .i64 a0.2.1,AV.str a0.2.2],AV.kb true]) [])) (Tr.to (j8.h3 s0 l4 (IntKind.i64.wrap (i5+1)) z0)))))
  (Tr.chk (bif a1 then zH 0 (length s0)&&bif a2 then zH a3 (length s0) else true else true) (Tr.br (bif a1 then bif a2 then (↑(getD s0 a3.toNat 0).toNat:Int)==39 else false else false) (Tr.to (j8.h10 s0 1 z0 ((2,0,[]),()))) (Tr.to (j8.h18 s0 0 z0 ((1,0,[]),())))))
 | .h10 s0 i7 z0 z1=>
  let a0:=IntKind.i64.wrap ((↑(length s0):Int) - 1)
  let a1:=IntKind.i64.wrap (i7+1)
  let a2:=List.take (a1.toNat - i7.toNat) (List.drop i7.toNat s0)
  let a3:=((z1.1.1,z1.1.2.1,z1.1.2.2++a2),())
  Tr.br (decide (i7 < a0))
  (Tr.chk (decide (0≤i7)&&decide (i7≤a1)&&decide (a1≤(↑(length s0):Int))) (Tr.chk (decide (length z1.1.2.2+a2.length≤1099511627776)) (Tr.chk (zH i7 (length s0)) (Tr.br ((↑(getD s0 i7.toNat 0).toNat:Int)==39) (Tr.to (j8.h10 s0 (IntKind.i64.wrap (a1+1)) z0 a3)) (Tr.to (j8.h10 s0 a1 z0 a3))))))
  (Tr.chk (lQ z1.1) (Tr.re (AV.tup [AV.agg [AV.int .i64 z1.1.1,AV.int .i64 z1.1.2.1,AV.str z1.1.2.2],AV.bool (pu z1.1==s0)]) []))
 | .h18 s0 i8 z0 z1=>
  let a0:=zH 0 (length s0)
  let a1:=(↑(getD s0 (toNat 0) 0).toNat:Int)
  let a2:=IntKind.i64.wrap (i8+1)
  let a3:=(↑(getD s0 i8.toNat 0).toNat:Int)
  let a4:=decide (a3 < 48)
  let a5:=decide (a3 > 57)
  let a6:=decide (z1.1.2.1 < -922337203685477580)
  let a7:=z1.1.2.1==-922337203685477580
  let a8:=IntKind.i64.wrap (0 - z1.1.2.1)
  let a9:=(z1.1.1,a8,z1.1.2.2)
  Tr.br (decide (i8 < (↑(length s0):Int)))
  (Tr.chk (bif i8==0 then a0 else true) (Tr.br (bif i8==0 then a1==45 else false) (Tr.to (j8.h18 s0 a2 z0 z1)) (Tr.chk (zH i8 (length s0)&&bif a4 then true else zH i8 (length s0)&&bif a5 then true else bif a6 then true else bif a7 then zH i8 (length s0) else true)
  (Tr.br (bif a4 then true else bif a5 then true else bif a6 then true else bif a7 then decide (a3 > 56) else false) (Tr.re (AV.tup [AV.agg [AV.int .i64 0,AV.int .i64 0,AV.str []],AV.kb false]) []) (Tr.chk (zH i8 (length s0)) (Tr.to (j8.h18 s0 a2 z0 ((z1.1.1,IntKind.i64.wrap (IntKind.i64.wrap (IntKind.i64.wrap (10 * z1.1.2.1) - IntKind.i64.wrap a3)+48),z1.1.2.2),()))))))))
  (Tr.chk (bif s0==[] then true else a0) (Tr.br (bif s0==[] then true else a1 != 45) (Tr.br (z1.1.2.1==-9223372036854775808) (Tr.re (AV.tup [AV.agg [AV.int .i64 0,AV.int .i64 0,AV.str []],AV.kb false]) []) (Tr.chk (lQ a9) (Tr.re (AV.tup [AV.agg [AV.int .i64 z1.1.1,AV.int .i64 a8,AV.str z1.1.2.2],AV.bool (pu a9==s0)]) []))) (Tr.chk (lQ z1.1)
  (Tr.re (AV.tup [AV.agg [AV.int .i64 z1.1.1,AV.int .i64 z1.1.2.1,AV.str z1.1.2.2],AV.bool (pu z1.1==s0)]) []))))
def tL (x0:Sem Sh.str):=aq [zf,Sh.bool] Zy 100000000 (Xr x0)
def A7 (x0:Sem Sh.str):=(tL x0).isSome
def n6 (x0:Sem Sh.str):=o2 (tL x0)
def Nh:=FT [Sh.str] [zf,Sh.bool] fun x=>tL x.1
theorem KF:FK 292 Nh:=lE.T1 (f:=Tryz.f292) (keep:=Rw) (e:=Ws)

def NQ:=At.addL [(274,Nd),(292,Nh)]
theorem wb:zm NQ:=lE.addL <| fc KC <| fc KF <|  gX
end
noncomputable section

abbrev Ru:=my [(1,[0,1,4])]
inductive u9 where
 | h1 (s0:Sem Sh.str) (s1:Sem Sh.str) (z0:zu [CP.d zf])
abbrev Wr:u9→Nat×St
 | .h1 s0 s1 z0=>(1,⟨tm 25 [(0,AV.str s0),(1,AV.str s1),(4,AV.ptr 0 0)],[AO.box (bn [] [CP.d zf] z0)]⟩)
def Xq (x0:Sem Sh.str) (x1:Sem Sh.str):Tr (u9 ⊕ au):=
 Tr.to (u9.h1 x0 x1 ((0,0,[]),()))
def Zx:u9→Tr (u9 ⊕ au)
 | .h1 s0 s1 z0=>
  let a0:=decide ((↑(length s1):Int) > 0)
  Tr.chk (bif a0 then zH 0 (length s1) else true)
  (Tr.br (bif a0 then (↑(getD s1 (toNat 0) 0).toNat:Int)==48 else false) (Tr.chk (decide (0≤1)&&decide (1≤(↑(length s1):Int))&&decide ((↑(length s1):Int)≤(↑(length s1):Int))) (Tr.to (u9.h1 s0 (List.take ((↑(length s1):Int).toNat - toNat 1) (List.drop (toNat 1) s1)) z0)))
  (Tr.br (s1==[]) (Tr.re (AV.tup [AV.agg [AV.int .i64 1,AV.int .i64 0,AV.str []],AV.kb true]) []) (Tr.chk (decide (length s0+length s1≤1099511627776)) (Tr.chk (A7 (s0++s1)) (Tr.re (AV.tup [AV.agg [AV.int .i64 (n6 (s0++s1)).1.1,AV.int .i64 (n6 (s0++s1)).1.2.1,AV.str (n6 (s0++s1)).1.2.2],AV.bool (n6 (s0++s1)).2]) [])))))
def CM (x0:Sem Sh.str) (x1:Sem Sh.str):=aq [zf,Sh.bool] Zx 100000000 (Xq x0 x1)
def I2 (x0:Sem Sh.str) (x1:Sem Sh.str):=(CM x0 x1).isSome
def Ot (x0:Sem Sh.str) (x1:Sem Sh.str):=o2 (CM x0 x1)
def Ng:=FT [Sh.str,Sh.str] [zf,Sh.bool] fun x=>CM x.1 x.2.1
theorem KE:FK 291 Ng:=wb.T1 (f:=Tryz.f291) (keep:=Ru) (e:=Wr)

def NR:=NQ.add 291 Ng
theorem wc:zm NR:=wb.add KE
end

noncomputable def Xo (x0:Sem zr.sl) (x1:Sem zg):Tr (Empty ⊕ au):=
 let a0:=IntKind.i64.wrap (x1+1)
 let a1:=decide (a0 ≥ (↑(length x0):Int))
 let a2:=zH a0 (length x0)
 let a3:=getD x0 a0.toNat (zj zr)
 let a4:=Ot [45] a3.2
 let a5:=getD x0 (toNat x1) (zj zr)
 let a6:=Ot [] a5.2
 let a7:=oe x0 x1 [84,82,85,69]
 let a8:=oe x0 x1 [70,65,76,83,69]
 let a9:=n6 a5.2
 Tr.br (decide (x1 ≥ (↑(length x0):Int)))
 (Tr.re (AV.tup [AV.agg [AV.str [],AV.int .i64 0,AV.int .i64 0,AV.str [],AV.str [],AV.nils],AV.int .i64 (-1)]) [])
 (Tr.chk (zH x1 (length x0))
  (Tr.chk (iD x0 x1 [45]) (Tr.br (oe x0 x1 [45]) (Tr.chk (bif a1 then true else a2) (Tr.br (bif a1 then true else a3.1 != 2) (Tr.re (AV.tup [AV.agg [AV.str [],AV.int .i64 0,AV.int .i64 0,AV.str [],AV.str [],AV.nils],AV.int .i64 (-1)]) []) (Tr.chk a2 (Tr.chk (I2 [45] a3.2) (Tr.br (!a4.2)
  (Tr.re (AV.tup [AV.agg [AV.str [],AV.int .i64 0,AV.int .i64 0,AV.str [],AV.str [],AV.nils],AV.int .i64 (-1)]) []) (Tr.re (AV.tup [AV.agg [AV.str [108,105,116],AV.int .i64 a4.1.1,AV.int .i64 a4.1.2.1,AV.str a4.1.2.2,AV.str [],AV.nils],AV.int .i64 (IntKind.i64.wrap (x1+2))]) [])))))) (Tr.br (a5.1==2) (Tr.chk (I2 [] a5.2) (Tr.br (!a6.2)
  (Tr.re (AV.tup [AV.agg [AV.str [],AV.int .i64 0,AV.int .i64 0,AV.str [],AV.str [],AV.nils],AV.int .i64 (-1)]) []) (Tr.re (AV.tup [AV.agg [AV.str [108,105,116],AV.int .i64 a6.1.1,AV.int .i64 a6.1.2.1,AV.str a6.1.2.2,AV.str [],AV.nils],AV.int .i64 a0]) []))) (Tr.br (a5.1==3) (Tr.re
  (AV.tup [AV.agg [AV.str [108,105,116],AV.int .i64 2,AV.int .i64 0,AV.str a5.2,AV.str [],AV.nils],AV.int .i64 a0]) []) (Tr.chk (iD x0 x1 [40]) (Tr.br (oe x0 x1 [40]) Tr.err (Tr.chk (iD x0 x1 [84,82,85,69]&&bif a7 then true else iD x0 x1 [70,65,76,83,69]&&bif a8 then true else iD x0 x1 [78,85,76,76])
  (Tr.br (bif a7 then true else bif a8 then true else oe x0 x1 [78,85,76,76]) (Tr.chk (A7 a5.2) (Tr.re (AV.tup [AV.agg [AV.str [108,105,116],AV.int .i64 a9.1.1,AV.int .i64 a9.1.2.1,AV.str a9.1.2.2,AV.str [],AV.nils],AV.int .i64 a0]) [])) (Tr.br (a5.1==1) (Tr.re (AV.tup [AV.agg [AV.str [99,111,108],AV.int .i64 0,AV.int .i64 0,AV.str [],AV.str a5.2,AV.nils],
  AV.int .i64 a0]) []) (Tr.re (AV.tup [AV.agg [AV.str [],AV.int .i64 0,AV.int .i64 0,AV.str [],AV.str [],AV.nils],AV.int .i64 (-1)]) [])))))))))))
noncomputable def xY (x0:Sem zr.sl) (x1:Sem zg):=aq [Sh.expr,zg] t0 100000000 (Xo x0 x1)
noncomputable def L8 (x0:Sem zr.sl) (x1:Sem zg):=(xY x0 x1).isSome
noncomputable def nb (x0:Sem zr.sl) (x1:Sem zg):=o2 (xY x0 x1)
noncomputable def Nc:=FT [zr.sl,zg] [Sh.expr,zg] fun x=>xY x.1 x.2.1
theorem KB:FK 273 Nc:=wc.T1 (f:=Tryz.f273) (keep:=k0) (e:=e0)

noncomputable def Du:=NR.add 273 Nc
theorem wd:zm Du:=wc.add KB
end Cad
