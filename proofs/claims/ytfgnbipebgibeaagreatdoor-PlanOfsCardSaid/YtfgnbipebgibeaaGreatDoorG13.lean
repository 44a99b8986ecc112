/- The document's reader: names. The document's values that are known; expressions' forms and types; the same tables. The document's order, logic; expressions that may be; the same plans. The document's texts of numbers. The document's texts of values. The document's texts of expressions. The document's reader: tokens. The document's reader: cut; names. The document's writer: creates; columns, sources. The document's writer. The document's statements: texts. Functions on two variables to which pointers lead. -/
import Derived.Test.YtfgnbipebgibeaaGreatDoorG12
import Derived.Test.YtfgnbipebgibeaaGreatDoorG11
namespace Cad
open Go Go.Proofs
open Int (toNat)
open List (getD)
open List (length)
noncomputable section
set_option maxHeartbeats 4000000

abbrev XS:=qm [(2,[0,3])]
inductive BT where
 | h2 (s0:TS) (i3:Int)
abbrev zbu:BT→Nat×St
 | .h2 s0 i3=>(2,⟨tm 28 [(0,AV.str s0),(3,AV.int .i64 i3)],[]⟩)
def Ux (x0:TS):Tr (BT ⊕ aF):=
 Tr.to (BT.h2 x0 0)
def tL:BT→Tr (BT ⊕ aF)
 | .h2 s0 i3=>
  let a0:=(↑(getD s0 i3.toNat 0).toNat:Int)
  let a1:=decide (1≤(↑(length s0):Int))
  let a2:=decide ((↑(length s0):Int)≤16)
  let a3:=(↑(getD s0 (toNat 0) 0).toNat:Int)
  Tr.br (decide (i3 < (↑(length s0):Int)))
  (Tr.chk (zR i3 (length s0)) (Tr.chk (pE a0) (Tr.br (!uV a0) (Tr.re (AV.kb false) []) (Tr.to (BT.h2 s0 (IntKind.i64.wrap (i3+1)))))))
  (Tr.chk (bif a1 then bif a2 then zR 0 (length s0)&&jJ a3 else true else true)
   (Tr.re (AV.bool (bif a1 then bif a2 then lS a3 else false else false)) []))
def wV (x0:TS):=aA [Sh.bool] tL 100000000 (Ux x0)
def tf (x0:TS):=(wV x0).isSome
def rD (x0:TS):=o1 (wV x0)
def Ts:=FT [Sh.str] [Sh.bool] fun x=>wV x.1
theorem Q8:FK 132 Ts:=oW.T1 (f:=Tryz.f132) (keep:=XS) (e:=zbu)

abbrev OO:Nat→aJ:=fun _=>{ }
theorem X5:zK Cz.P 107 Tryz.f107 2:=bN (by kernel_rfl)
def Oq (y:zo aG) (x0:TS):Tr (Empty ⊕ aF):=
 let a0:=(y.1,y.2.1,y.2.2.1,())
 let a1:=eK a0 x0
 Tr.chk (dv a0 x0)
 (Tr.br (!a1.1) (Tr.re (AV.tup []) [AO.box [AV.sl zq a1.2.1,AV.int .i64 a1.2.2.1,AV.kb false]])
  (Tr.re (AV.tup []) (ay aG a1.2)))
theorem Xf (y:zo aG) (x0:TS):rn Cz 1 OO Tryz.f107 [AV.ptr 0 0,zF Sh.str x0] (ay aG y)=(Oq y x0).map (lf Tryz.f107 e0):=by kernel_rfl
def K5 (y:zo aG) (x0:TS):Option (zC (List.map some [])×zo aG):=j7 [] aG t0 100000000 (Oq y x0)
def aT (y:zo aG) (x0:TS):Bool:=(K5 y x0).isSome
def bC (y:zo aG) (x0:TS):zo aG:=(fun r:zC (List.map some [])×zo aG=>r.2) ((K5 y x0).getD (cA [],fH aG))
def Ta:zT:=qN aG [Sh.str] [] aG (fun y x=>aT y x.1) fun y x=>((),bC y x.1)
theorem QR:FK 107 Ta:=jL (ps:=aG) (ks:=[Sh.str]) (outs:=[]) (keep:=OO) (gas:=400) (n:=100000000) (e:=e0) (t:=t0) (i:=fun y x=>Oq y x.1) oW X5 (fun y x=>Xf y x.1) (QH _ _ _ _ _) (fun _ _=>by kernel_rfl) (fun _ _=>by kernel_rfl)

abbrev OP:Nat→aJ:=fun _=>{ }
theorem X6:zK Cz.P 108 Tryz.f108 1:=bN (by kernel_rfl)
def Ot (y:zo aG):Tr (Empty ⊕ aF):=
 let a0:=decide (y.2.1 < (↑(length y.1):Int))
 let a1:=zR y.2.1 (length y.1)
 let a2:=getD y.1 (toNat y.2.1) (zi zq)
 let a3:=a2.1==1
 let a4:=IntKind.i64.wrap (y.2.1+1)
 let a5:=IntKind.i64.wrap (a4 - 1)
 let a6:=getD y.1 a5.toNat (zi zq)
 Tr.chk (bif a0 then a1&&bif a3 then a1&&AB a2.2 else true else true)
 (Tr.br (bif a0 then bif a3 then !HB a2.2 else false else false)
  (Tr.chk (zR a5 (length y.1)) (Tr.re (AV.str a6.2) (ay aG (y.1,a4,y.2.2))))
  (Tr.re (AV.str []) [AO.box [AV.sl zq y.1,AV.int .i64 y.2.1,AV.kb false]]))
theorem Xg (y:zo aG):rn Cz 1 OP Tryz.f108 [AV.ptr 0 0] (ay aG y)=(Ot y).map (lf Tryz.f108 e0):=by kernel_rfl
def K6 (y:zo aG):Option (zC (List.map some [Sh.str])×zo aG):=j7 [Sh.str] aG t0 100000000 (Ot y)
def bf (y:zo aG):Bool:=(K6 y).isSome
def bJ (y:zo aG):(Sem Sh.str)×zo aG:=(fun r:zC (List.map some [Sh.str])×zo aG=>(r.1.1,r.2)) ((K6 y).getD (cA [Sh.str],fH aG))
def Tb:zT:=qN aG [] [Sh.str] aG (fun y _=>bf y) fun y _=>(((bJ y).1,()),(bJ y).2)
theorem QS:FK 108 Tb:=jL (ps:=aG) (ks:=[]) (outs:=[Sh.str]) (keep:=OP) (gas:=400) (n:=100000000) (e:=e0) (t:=t0) (i:=fun y x=>Ot y) oW X6 (fun y x=>Xg y) (QH _ _ _ _ _) (fun _ _=>by kernel_rfl) (fun _ _=>by kernel_rfl)

def CA:=Cz.addL [(132,Ts),(107,Ta),(108,Tb)]
theorem jD:zy CA:=oW.addL <| fc Q8 <| fc QR <| fc QS jp
end
noncomputable section

def Uv (x0:Sem zg):Tr (Empty ⊕ aF):=
 Tr.chk (kY x0)
 (Tr.br (qy x0) (Tr.re (AV.agg [AV.int .i64 x0.1,AV.int .i64 x0.2.1,AV.str x0.2.2]) [])
  (Tr.re (AV.agg [AV.int .i64 0,AV.int .i64 0,AV.str []]) []))
def sV (x0:Sem zg):=aA [zg] t0 100000000 (Uv x0)
def pp (x0:Sem zg):=(sV x0).isSome
def eI (x0:Sem zg):=o1 (sV x0)
def S8:=FT [zg] [zg] fun x=>sV x.1
theorem QP:FK 104 S8:=jD.T1 (f:=Tryz.f104) (keep:=k0) (e:=e0)

def Uu (x0:Sem zg) (x1:Sem Sh.bool):Tr (Empty ⊕ aF):=
 Tr.chk (kc x1) (Tr.re (AV.bool (x0.1==(aS x1).1&&(x0.2.1==(aS x1).2.1&&(x0.2.2==(aS x1).2.2&&true)))) [])
def Hk (x0:Sem zg) (x1:Sem Sh.bool):=aA [Sh.bool] t0 100000000 (Uu x0 x1)
def lK (x0:Sem zg) (x1:Sem Sh.bool):=(Hk x0 x1).isSome
def ol (x0:Sem zg) (x1:Sem Sh.bool):=o1 (Hk x0 x1)
def S6:=FT [zg,Sh.bool] [Sh.bool] fun x=>Hk x.1 x.2.1
theorem QN:FK 102 S6:=jD.T1 (f:=Tryz.f102) (keep:=k0) (e:=e0)

def DU (g:Sem Sh.expr→Sem zf→Sem Sh.bool) (c:Sem Sh.expr→Sem zf→Bool):bS:=CA.add 138 (zN [Sh.expr,zf] [Sh.bool] (fun x=>c x.1 x.2.1) fun x=>(g x.1 x.2.1,()))
theorem In {g:Sem Sh.expr→Sem zf→Sem Sh.bool} {c:Sem Sh.expr→Sem zf→Bool} (hg:FK 138 (zN [Sh.expr,zf] [Sh.bool] (fun x=>c x.1 x.2.1) fun x=>(g x.1 x.2.1,()))):zy (DU g c):=jD.add hg
abbrev OU:Nat→aJ:=fun _=>{ }
theorem Yb (g:Sem Sh.expr→Sem zf→Sem Sh.bool) (c:Sem Sh.expr→Sem zf→Bool):zK (DU g c).P 138 Tryz.f138 2:=bN (by kernel_rfl)
def Ko (g:Sem Sh.expr→Sem zf→Sem Sh.bool) (c:Sem Sh.expr→Sem zf→Bool) (x0:Sem Sh.expr) (x1:Sem zf):Tr (Empty ⊕ aF):=
 let a0:=(↑(ze.l x0).length:Int)==0
 let a1:=(ze.v x0).1==0&&((ze.v x0).2.1==0&&((ze.v x0).2.2==[]&&true))
 let a2:=(↑(ze.l x0).length:Int)==1
 let a3:=zR 0 (ze.l x0).length
 let a4:=zm ((ze.l x0).getD (toNat 0) (zi Sh.expr))
 let a5:=IntKind.i64.wrap (x1 - 1)
 let a6:=c a4 a5
 let a7:=g a4 a5
 let a8:=(↑(ze.l x0).length:Int)==2
 let a9:=zm ((ze.l x0).getD (toNat 1) (zi Sh.expr))
 Tr.br (x1==0) (Tr.re (AV.kb false) [])
 (Tr.br (ze.op x0==[108,105,116])
  (Tr.chk (kY (ze.v x0)) (Tr.re (AV.bool (bif qy (ze.v x0) then bif ze.s x0==[] then a0 else false else false)) []))
  (Tr.br (ze.op x0==[99,111,108]) (Tr.chk (bif a1 then tf (ze.s x0)&&bif rD (ze.s x0) then AB (ze.s x0) else true else true) (Tr.re (AV.bool (bif a1 then bif rD (ze.s x0) then bif !HB (ze.s x0) then a0 else false else false else false)) [])) (Tr.br (bif ze.op x0==[110,111,116] then true else ze.op x0==[110,117,108,108])
  (Tr.chk (bif a1 then bif ze.s x0==[] then bif a2 then a3&&a6 else true else true else true) (Tr.re (AV.bool (bif a1 then bif ze.s x0==[] then bif a2 then a7 else false else false else false)) [])) (Tr.chk (EH (ze.op x0)) (Tr.br (KX (ze.op x0)) (Tr.chk
  (bif a1 then bif ze.s x0==[] then bif a8 then a3&&(a6&&bif a7 then zR 1 (ze.l x0).length&&c a9 a5 else true) else true else true else true) (Tr.re (AV.bool (bif a1 then bif ze.s x0==[] then bif a8 then bif a7 then g a9 a5 else false else false else false else false)) [])) (Tr.re (AV.kb false) []))))))
theorem Xo (g:Sem Sh.expr→Sem zf→Sem Sh.bool) (c:Sem Sh.expr→Sem zf→Bool) (x0:Sem Sh.expr) (x1:Sem zf):rn (DU g c) 0 OU Tryz.f138 [zF Sh.expr x0,zF zf x1] []=(Ko g c x0 x1).map (lf Tryz.f138 e0):=by kernel_rfl
def mL (o:Option (zC (List.map some [Sh.bool]))):Sem Sh.bool:=(fun r:zC (List.map some [Sh.bool])=>r.1) (o.getD (cA [Sh.bool]))
def EG (g:Sem Sh.expr→Sem zf→Sem Sh.bool) (c:Sem Sh.expr→Sem zf→Bool) (x0:Sem Sh.expr) (x1:Sem zf):Option (zC (List.map some [Sh.bool])):=aA [Sh.bool] t0 100000000 (Ko g c x0 x1)
def fw:Nat→Sem Sh.expr→Sem zf→Option (zC (List.map some [Sh.bool]))
 | 0=>fun _ _=>none
 | n+1=>EG (fun x0 x1=>mL (fw n x0 x1)) fun x0 x1=>(fw n x0 x1).isSome
theorem OL:zK CA.P 138 Tryz.f138 2:=bN (by kernel_rfl)
theorem FG:∀ n,FK 138 (zN [Sh.expr,zf] [Sh.bool] (fun x=>(fw n x.1 x.2.1).isSome) fun x=>(mL (fw n x.1 x.2.1),()))
 | 0=>eW ⟨Tryz.f138,OL.1,OL.2.1,OL.2.2.1⟩ (fun _=>rfl)
 | n+1=>mf (E:=DU (fun x0 x1=>mL (fw n x0 x1)) (fun x0 x1=>(fw n x0 x1).isSome)) (ks:=[Sh.expr,zf]) (outs:=[Sh.bool]) (keep:=OU) (gas:=400) (n:=100000000) (e:=e0) (t:=t0) (i:=fun x=>Ko (fun x0 x1=>mL (fw n x0 x1)) (fun x0 x1=>(fw n x0 x1).isSome) x.1 x.2.1) (In (FG n)) (Yb _ _) (fun x=>Xo _ _ x.1 x.2.1) (QH _ _ _ _ _) (fun _=>by kernel_rfl) (fun _=>by kernel_rfl)
def EF (x0:Sem Sh.expr) (x1:Sem zf):Option (zC (List.map some [Sh.bool])):=fw 16 x0 x1
def wP (x0:Sem Sh.expr) (x1:Sem zf):Bool:=(EF x0 x1).isSome
def EE (x0:Sem Sh.expr) (x1:Sem zf):Sem Sh.bool:=mL (EF x0 x1)
def Ty:zT:=zN [Sh.expr,zf] [Sh.bool] (fun x=>wP x.1 x.2.1) fun x=>(EE x.1 x.2.1,())
theorem Re:FK 138 Ty:=FG 16

def Gk (g:Sem Sh.expr→Sem (Sh.sl zh)→Sem zf×Sem zf) (c:Sem Sh.expr→Sem (Sh.sl zh)→Bool):bS:=CA.add 84 (zN [Sh.expr,Sh.sl zh] [zf,zf] (fun x=>c x.1 x.2.1) fun x=>((g x.1 x.2.1).1,(g x.1 x.2.1).2,()))
theorem L1 {g:Sem Sh.expr→Sem (Sh.sl zh)→Sem zf×Sem zf} {c:Sem Sh.expr→Sem (Sh.sl zh)→Bool} (hg:FK 84 (zN [Sh.expr,Sh.sl zh] [zf,zf] (fun x=>c x.1 x.2.1) fun x=>((g x.1 x.2.1).1,(g x.1 x.2.1).2,()))):zy (Gk g c):=jD.add hg
abbrev O2:Nat→aJ:=fun j=>if j=5 then { slots:=[1,2,6] } else { }
inductive Lx where
 | h5 (l1:LC) (i6:Int) (z0:zo [CP.d Sh.expr])
abbrev NL:Lx→Nat×St
 | .h5 l1 i6 z0=>(5,⟨tm 116 [(1,AV.sl zh l1),(2,AV.ptr 0 0),(6,AV.int .i64 i6)],[AO.box (ch [] [CP.d Sh.expr] z0)]⟩)
theorem zdL (g:Sem Sh.expr→Sem zh.sl→Sem zf×Sem zf) (c:Sem Sh.expr→Sem zh.sl→Bool):zK (Gk g c).P 84 Tryz.f84 2:=bN (by kernel_rfl)
def yI (g:Sem Sh.expr→Sem zh.sl→Sem zf×Sem zf) (c:Sem Sh.expr→Sem zh.sl→Bool) (x0:Sem Sh.expr) (x1:Sem zh.sl):Tr (Lx ⊕ aF):=
 let a0:=zm ((ze.l x0).getD (toNat 0) (zi Sh.expr))
 let a1:=g a0 x1
 let a2:=zm ((ze.l x0).getD (toNat 1) (zi Sh.expr))
 let a3:=g a2 x1
 let a4:=ze.op x0==[110,117,108,108]
 let a5:=ze.op x0==[61]
 let a6:=a1.1 != 0
 let a7:=a3.1 != 0
 let a8:=ze.op x0==[60]
 let a9:=ze.op x0==[43]
 let a10:=a1.1 != 1
 let a11:=bif a7 then a3.1 != 1 else false
 let a12:=ze.op x0==[45]
 let a13:=a1.1 != 3
 let a14:=bif a7 then a3.1 != 3 else false
 let a15:=bif a6 then a10 else false
 let a16:=bif a6 then a13 else false
 Tr.br (ze.op x0==[108,105,116]) (Tr.re (AV.tup [AV.int .i64 (ze.v x0).1,AV.int .i64 0]) [])
 (Tr.br (ze.op x0==[99,111,108]) (Tr.to (Lx.h5 x1 0 (x0,())))
  (Tr.chk (zR 0 (ze.l x0).length) (Tr.chk (c a0 x1) (Tr.br (a1.2 != 0) (Tr.re (AV.tup [AV.int .i64 0,AV.int .i64 a1.2]) []) (Tr.br ((↑(ze.l x0).length:Int)==2) (Tr.chk (zR 1 (ze.l x0).length) (Tr.chk (c a2 x1) (Tr.br (a3.2 != 0) (Tr.re (AV.tup [AV.int .i64 0,AV.int .i64 a3.2]) []) (Tr.br a4 (Tr.re (AV.tup [AV.int .i64 3,AV.int .i64 0]) []) (Tr.br a5
  (Tr.br (bif a6 then bif a7 then a1.1 != a3.1 else false else false) (Tr.re (AV.tup [AV.int .i64 0,AV.int .i64 5]) []) (Tr.re (AV.tup [AV.int .i64 3,AV.int .i64 0]) [])) (Tr.br a8 (Tr.br (bif a6 then bif a7 then a1.1 != a3.1 else false else false) (Tr.re (AV.tup [AV.int .i64 0,AV.int .i64 5]) []) (Tr.re (AV.tup [AV.int .i64 3,AV.int .i64 0]) [])) (Tr.br a9
  (Tr.br (bif a6 then bif a10 then true else a11 else a11) (Tr.re (AV.tup [AV.int .i64 0,AV.int .i64 5]) []) (Tr.re (AV.tup [AV.int .i64 1,AV.int .i64 0]) [])) (Tr.br a12 (Tr.br (bif a6 then bif a10 then true else a11 else a11) (Tr.re (AV.tup [AV.int .i64 0,AV.int .i64 5]) []) (Tr.re (AV.tup [AV.int .i64 1,AV.int .i64 0]) []))
  (Tr.br (bif a6 then bif a13 then true else a14 else a14) (Tr.re (AV.tup [AV.int .i64 0,AV.int .i64 5]) []) (Tr.re (AV.tup [AV.int .i64 3,AV.int .i64 0]) [])))))))))) (Tr.br a4 (Tr.re (AV.tup [AV.int .i64 3,AV.int .i64 0]) []) (Tr.br a5 (Tr.br (bif a6 then bif a6 then a1.1 != a1.1 else false else false) (Tr.re (AV.tup [AV.int .i64 0,AV.int .i64 5]) [])
  (Tr.re (AV.tup [AV.int .i64 3,AV.int .i64 0]) [])) (Tr.br a8 (Tr.br (bif a6 then bif a6 then a1.1 != a1.1 else false else false) (Tr.re (AV.tup [AV.int .i64 0,AV.int .i64 5]) []) (Tr.re (AV.tup [AV.int .i64 3,AV.int .i64 0]) [])) (Tr.br a9 (Tr.br (bif a6 then bif a10 then true else a15 else a15) (Tr.re (AV.tup [AV.int .i64 0,AV.int .i64 5]) [])
  (Tr.re (AV.tup [AV.int .i64 1,AV.int .i64 0]) [])) (Tr.br a12 (Tr.br (bif a6 then bif a10 then true else a15 else a15) (Tr.re (AV.tup [AV.int .i64 0,AV.int .i64 5]) []) (Tr.re (AV.tup [AV.int .i64 1,AV.int .i64 0]) [])) (Tr.br (bif a6 then bif a13 then true else a16 else a16) (Tr.re (AV.tup [AV.int .i64 0,AV.int .i64 5]) []) (Tr.re (AV.tup [AV.int .i64 3,AV.int .i64 0]) []))))))))))))
theorem zbZ (g:Sem Sh.expr→Sem zh.sl→Sem zf×Sem zf) (c:Sem Sh.expr→Sem zh.sl→Bool) (x0:Sem Sh.expr) (x1:Sem zh.sl):rn (Gk g c) 0 O2 Tryz.f84 [zF Sh.expr x0,zF zh.sl x1] []=(yI g c x0 x1).map (lf Tryz.f84 NL):=by kernel_rfl
def HY (_:Sem Sh.expr→Sem zh.sl→Sem zf×Sem zf) (_:Sem Sh.expr→Sem zh.sl→Bool):Lx→Tr (Lx ⊕ aF)
 | .h5 l1 i6 z0=>
  let a0:=l1.getD i6.toNat (zi zh)
  Tr.br (decide (i6 < (↑l1.length:Int)))
  (Tr.chk (zR i6 l1.length)
   (Tr.br (a0.1==ze.s z0.1) (Tr.chk (zR i6 l1.length) (Tr.re (AV.tup [AV.int .i64 a0.2.1,AV.int .i64 0]) [])) (Tr.to (Lx.h5 l1 (IntKind.i64.wrap (i6+1)) z0))))
  (Tr.re (AV.tup [AV.int .i64 0,AV.int .i64 4]) [])
theorem zd5 (g:Sem Sh.expr→Sem zh.sl→Sem zf×Sem zf) (c:Sem Sh.expr→Sem zh.sl→Bool):∀ s,run (Gk g c) 0 O2 (Func.results Tryz.f84).toList 400 (zI Tryz.f84 (NL s).1) (NL s).2=(HY g c s).map (lf Tryz.f84 NL)
 | .h5 l1 i6 z0=>by kernel_rfl
def fv (o:Option (zC (List.map some [zf,zf]))):Sem zf×Sem zf:=(fun r:zC (List.map some [zf,zf])=>(r.1,r.2.1)) (o.getD (cA [zf,zf]))
def KW (g:Sem Sh.expr→Sem zh.sl→Sem zf×Sem zf) (c:Sem Sh.expr→Sem zh.sl→Bool) (x0:Sem Sh.expr) (x1:Sem zh.sl):Option (zC (List.map some [zf,zf])):=aA [zf,zf] (HY g c) 100000000 (yI g c x0 x1)
def bL:Nat→Sem Sh.expr→Sem zh.sl→Option (zC (List.map some [zf,zf]))
 | 0=>fun _ _=>none
 | n+1=>KW (fun x0 x1=>fv (bL n x0 x1)) fun x0 x1=>(bL n x0 x1).isSome
theorem XI:zK CA.P 84 Tryz.f84 2:=bN (by kernel_rfl)
theorem JU:∀ n,FK 84 (zN [Sh.expr,zh.sl] [zf,zf] (fun x=>(bL n x.1 x.2.1).isSome) fun x=>((fv (bL n x.1 x.2.1)).1,(fv (bL n x.1 x.2.1)).2,()))
 | 0=>eW ⟨Tryz.f84,XI.1,XI.2.1,XI.2.2.1⟩ (fun _=>rfl)
 | n+1=>mf (E:=Gk (fun x0 x1=>fv (bL n x0 x1)) (fun x0 x1=>(bL n x0 x1).isSome)) (ks:=[Sh.expr,zh.sl]) (outs:=[zf,zf]) (keep:=O2) (gas:=400) (n:=100000000) (e:=NL) (t:=HY (fun x0 x1=>fv (bL n x0 x1)) (fun x0 x1=>(bL n x0 x1).isSome)) (i:=fun x=>yI (fun x0 x1=>fv (bL n x0 x1)) (fun x0 x1=>(bL n x0 x1).isSome) x.1 x.2.1) (L1 (JU n)) (zdL _ _) (fun x=>zbZ _ _ x.1 x.2.1) (zd5 _ _) (fun _=>by kernel_rfl) (fun _=>by kernel_rfl)
def wO (x0:Sem Sh.expr) (x1:Sem zh.sl):Option (zC (List.map some [zf,zf])):=bL 16 x0 x1
def mK (x0:Sem Sh.expr) (x1:Sem zh.sl):Bool:=(wO x0 x1).isSome
def gQ (x0:Sem Sh.expr) (x1:Sem zh.sl):Sem zf×Sem zf:=fv (wO x0 x1)
def ZV:zT:=zN [Sh.expr,zh.sl] [zf,zf] (fun x=>mK x.1 x.2.1) fun x=>((gQ x.1 x.2.1).1,(gQ x.1 x.2.1).2,())
theorem WD:FK 84 ZV:=JU 16

abbrev zcv:=qm [(4,[2,3,5]),(9,[2,3,6]),(14,[2,3,7])]
inductive xw where
 | h4 (i5:Int) (z0:zo [CP.d zl]) (z1:zo [CP.d zl])
 | h9 (i6:Int) (z0:zo [CP.d zl]) (z1:zo [CP.d zl])
 | h14 (i7:Int) (z0:zo [CP.d zl]) (z1:zo [CP.d zl])
abbrev zeO:xw→Nat×St
 | .h4 i5 z0 z1=>(4,⟨tm 106 [(2,AV.ptr 0 0),(3,AV.ptr 1 0),(5,AV.int .i64 i5)],[AO.box (ch [] [CP.d zl] z0),AO.box (ch [] [CP.d zl] z1)]⟩)
 | .h9 i6 z0 z1=>(9,⟨tm 106 [(2,AV.ptr 0 0),(3,AV.ptr 1 0),(6,AV.int .i64 i6)],[AO.box (ch [] [CP.d zl] z0),AO.box (ch [] [CP.d zl] z1)]⟩)
 | .h14 i7 z0 z1=>(14,⟨tm 106 [(2,AV.ptr 0 0),(3,AV.ptr 1 0),(7,AV.int .i64 i7)],[AO.box (ch [] [CP.d zl] z0),AO.box (ch [] [CP.d zl] z1)]⟩)
def XD (x0:Sem zl) (x1:Sem zl):Tr (xw ⊕ aF):=
 Tr.br
 (bif !x0.1==x1.1 then true
 else
  bif x0.2.2.1 != x1.2.2.1 then true
  else bif (↑(length x0.2.1):Int) != (↑(length x1.2.1):Int) then true else bif (↑(length x0.2.2.2.1):Int) != (↑(length x1.2.2.2.1):Int) then true else (↑(length x0.2.2.2.2.1):Int) != (↑(length x1.2.2.2.2.1):Int))
 (Tr.re (AV.kb false) []) (Tr.to (xw.h4 0 (x0,()) (x1,())))
def JE:xw→Tr (xw ⊕ aF)
 | .h4 i5 z0 z1=>
  let a0:=(↑(length z0.1.2.1):Int)
  let a1:=getD z0.1.2.1 i5.toNat (zi zh)
  let a2:=getD z1.1.2.1 i5.toNat (zi zh)
  Tr.br (decide (i5 < a0))
  (Tr.chk (zR i5 (length z0.1.2.1))
   (Tr.chk (zR i5 (length z1.1.2.1)) (Tr.br (!(a1.1==a2.1&&(a1.2.1==a2.2.1&&(a1.2.2==a2.2.2&&true)))) (Tr.re (AV.kb false) []) (Tr.to (xw.h4 (IntKind.i64.wrap (i5+1)) z0 z1)))))
  (Tr.to (xw.h9 0 z0 z1))
 | .h9 i6 z0 z1=>
  let a0:=(↑(length z0.1.2.2.2.1):Int)
  Tr.br (decide (i6 < a0))
  (Tr.chk (zR i6 (length z0.1.2.2.2.1))
   (Tr.chk (zR i6 (length z1.1.2.2.2.1)) (Tr.br (getD z0.1.2.2.2.1 i6.toNat (zi zf) != getD z1.1.2.2.2.1 i6.toNat (zi zf)) (Tr.re (AV.kb false) []) (Tr.to (xw.h9 (IntKind.i64.wrap (i6+1)) z0 z1)))))
  (Tr.to (xw.h14 0 z0 z1))
 | .h14 i7 z0 z1=>
  let a0:=(↑(length z0.1.2.2.2.2.1):Int)
  let a1:=getD z0.1.2.2.2.2.1 i7.toNat (zi zq)
  let a2:=getD z1.1.2.2.2.2.1 i7.toNat (zi zq)
  let a3:=zm z0.1.2.2.2.2.2
  let a4:=zm z1.1.2.2.2.2.2
  Tr.br (decide (i7 < a0))
  (Tr.chk (zR i7 (length z0.1.2.2.2.2.1))
   (Tr.chk (zR i7 (length z1.1.2.2.2.2.1)) (Tr.br (!(a1.1==a2.1&&(a1.2==a2.2&&true))) (Tr.re (AV.kb false) []) (Tr.to (xw.h14 (IntKind.i64.wrap (i7+1)) z0 z1)))))
  (Tr.chk (eP a3 a4) (Tr.re (AV.bool (da a3 a4)) []))
def sZ (x0:Sem zl) (x1:Sem zl):=aA [Sh.bool] JE 100000000 (XD x0 x1)
def sY (x0:Sem zl) (x1:Sem zl):=(sZ x0 x1).isSome
def ov (x0:Sem zl) (x1:Sem zl):=o1 (sZ x0 x1)
def Zp:=FT [zl,zl] [Sh.bool] fun x=>sZ x.1 x.2.1
theorem V4:FK 38 Zp:=jD.T1 (f:=Tryz.f38) (keep:=zcv) (e:=zeO)

def NP:=CA.addL [(104,S8),(102,S6),(138,Ty),(84,ZV),(38,Zp)]
theorem fb:zy NP:=jD.addL <| fc QP <| fc QN <| fc Re <| fc WD <| fc V4 jp
end
noncomputable section

def zcb (x0:Sem zg) (x1:Sem zg):Tr (Empty ⊕ aF):=
 let a0:=(eI x0).1==(eI x1).1
 let a1:=(eI x0).2.1==(eI x1).2.1
 Tr.chk (pp x0)
 (Tr.chk (pp x1)
  (Tr.br (a0&&(a1&&((eI x0).2.2==(eI x1).2.2&&true))) (Tr.re (AV.int .i64 0) []) (Tr.br (bif decide ((eI x0).1 < (eI x1).1) then true else bif a0 then bif decide ((eI x0).2.1 < (eI x1).2.1) then true else bif a1 then Op.bytesLess (eI x0).2.2 (eI x1).2.2 else false else false) (Tr.re (AV.int .i64 (-1)) []) (Tr.re (AV.int .i64 1) []))))
def oo (x0:Sem zg) (x1:Sem zg):=aA [zf] t0 100000000 (zcb x0 x1)
def Ah (x0:Sem zg) (x1:Sem zg):=(oo x0 x1).isSome
def EA (x0:Sem zg) (x1:Sem zg):=o1 (oo x0 x1)
def ZD:=FT [zg,zg] [zf] fun x=>oo x.1 x.2.1
theorem Wk:FK 62 ZD:=fb.T1 (f:=Tryz.f62) (keep:=k0) (e:=e0)

def UH (x0:Sem zg) (x1:Sem zg):Tr (Empty ⊕ aF):=
 Tr.chk (pp x0)
 (Tr.chk (pp x1)
  (Tr.re (AV.bool (bif (eI x0).1==0 then true else bif (eI x1).1==0 then true else (eI x0).1 != (eI x1).1)) []))
def oq (x0:Sem zg) (x1:Sem zg):=aA [Sh.bool] t0 100000000 (UH x0 x1)
def lL (x0:Sem zg) (x1:Sem zg):=(oq x0 x1).isSome
def pm (x0:Sem zg) (x1:Sem zg):=o1 (oq x0 x1)
def TO:=FT [zg,zg] [Sh.bool] fun x=>oq x.1 x.2.1
theorem Ru:FK 189 TO:=fb.T1 (f:=Tryz.f189) (keep:=k0) (e:=e0)

def UB (x0:Sem zg) (x1:Sem zg):Tr (Empty ⊕ aF):=
 Tr.chk (lK x0 false&&bif ol x0 false then true else lK x1 false)
 (Tr.br (bif ol x0 false then true else ol x1 false)
  (Tr.chk true (Tr.re (AV.agg [AV.int .i64 (aS false).1,AV.int .i64 (aS false).2.1,AV.str (aS false).2.2]) []))
  (Tr.chk (lK x0 true&&bif ol x0 true then lK x1 true else true) (Tr.br (bif ol x0 true then ol x1 true else false) (Tr.chk true (Tr.re (AV.agg [AV.int .i64 (aS true).1,AV.int .i64 (aS true).2.1,AV.str (aS true).2.2]) [])) (Tr.re (AV.agg [AV.int .i64 0,AV.int .i64 0,AV.str []]) []))))
def Ad (x0:Sem zg) (x1:Sem zg):=aA [zg] t0 100000000 (UB x0 x1)
def Ew (x0:Sem zg) (x1:Sem zg):=(Ad x0 x1).isSome
def C2 (x0:Sem zg) (x1:Sem zg):=o1 (Ad x0 x1)
def TC:=FT [zg,zg] [zg] fun x=>Ad x.1 x.2.1
theorem Ri:FK 144 TC:=fb.T1 (f:=Tryz.f144) (keep:=k0) (e:=e0)

def UC (x0:Sem zg) (x1:Sem zg):Tr (Empty ⊕ aF):=
 Tr.chk (lK x0 true&&bif ol x0 true then true else lK x1 true)
 (Tr.br (bif ol x0 true then true else ol x1 true)
  (Tr.chk true (Tr.re (AV.agg [AV.int .i64 (aS true).1,AV.int .i64 (aS true).2.1,AV.str (aS true).2.2]) []))
  (Tr.chk (lK x0 false&&bif ol x0 false then lK x1 false else true) (Tr.br (bif ol x0 false then ol x1 false else false) (Tr.chk true (Tr.re (AV.agg [AV.int .i64 (aS false).1,AV.int .i64 (aS false).2.1,AV.str (aS false).2.2]) [])) (Tr.re (AV.agg [AV.int .i64 0,AV.int .i64 0,AV.str []]) []))))
def Hn (x0:Sem zg) (x1:Sem zg):=aA [zg] t0 100000000 (UC x0 x1)
def KS (x0:Sem zg) (x1:Sem zg):=(Hn x0 x1).isSome
def Mv (x0:Sem zg) (x1:Sem zg):=o1 (Hn x0 x1)
def TD:=FT [zg,zg] [zg] fun x=>Hn x.1 x.2.1
theorem Rj:FK 145 TD:=fb.T1 (f:=Tryz.f145) (keep:=k0) (e:=e0)

def UA (x0:Sem zg):Tr (Empty ⊕ aF):=
 Tr.chk (lK x0 true)
 (Tr.br (ol x0 true)
  (Tr.chk true (Tr.re (AV.agg [AV.int .i64 (aS false).1,AV.int .i64 (aS false).2.1,AV.str (aS false).2.2]) []))
  (Tr.chk (lK x0 false) (Tr.br (ol x0 false) (Tr.chk true (Tr.re (AV.agg [AV.int .i64 (aS true).1,AV.int .i64 (aS true).2.1,AV.str (aS true).2.2]) [])) (Tr.re (AV.agg [AV.int .i64 0,AV.int .i64 0,AV.str []]) []))))
def Ag (x0:Sem zg):=aA [zg] t0 100000000 (UA x0)
def Ez (x0:Sem zg):=(Ag x0).isSome
def C4 (x0:Sem zg):=o1 (Ag x0)
def TB:=FT [zg] [zg] fun x=>Ag x.1
theorem Rh:FK 143 TB:=fb.T1 (f:=Tryz.f143) (keep:=k0) (e:=e0)

def zcg (x0:Sem Sh.expr):Tr (Empty ⊕ aF):=
 let a0:=EE (zm x0) 12
 Tr.chk (wP (zm x0) 12&&bif a0 then sX (zm x0) else true) (Tr.re (AV.bool (bif a0 then decide (wQ (zm x0)≤60) else false)) [])
def Am (x0:Sem Sh.expr):=aA [Sh.bool] t0 100000000 (zcg x0)
def uR (x0:Sem Sh.expr):=(Am x0).isSome
def C9 (x0:Sem Sh.expr):=o1 (Am x0)
def ZU:=FT [Sh.expr] [Sh.bool] fun x=>Am x.1
theorem WC:FK 83 ZU:=fb.T1 (f:=Tryz.f83) (keep:=k0) (e:=e0)

abbrev zck:=qm [(4,[2,3,5])]
inductive Ls where
 | h4 (i5:Int) (z0:zo [CP.d aB]) (z1:zo [CP.d aB])
abbrev zeI:Ls→Nat×St
 | .h4 i5 z0 z1=>(4,⟨tm 67 [(2,AV.ptr 0 0),(3,AV.ptr 1 0),(5,AV.int .i64 i5)],[AO.box (ch [] [CP.d aB] z0),AO.box (ch [] [CP.d aB] z1)]⟩)
def Xy (x0:Sem aB) (x1:Sem aB):Tr (Ls ⊕ aF):=
 let a0 := !x0.1==x1.1
 let a1 := !x0.2.1==x1.2.1
 let a2 := !x0.2.2.1==x1.2.2.1
 let a3:=x0.2.2.2.2.2 != x1.2.2.2.2.2
 let a4:=(x0.2.2.2.1.1,x0.2.2.2.1.2.1,x0.2.2.2.1.2.2.1,x0.2.2.2.1.2.2.2.1,x0.2.2.2.1.2.2.2.2.1,zm x0.2.2.2.1.2.2.2.2.2)
 let a5:=(x1.2.2.2.1.1,x1.2.2.2.1.2.1,x1.2.2.2.1.2.2.1,x1.2.2.2.1.2.2.2.1,x1.2.2.2.1.2.2.2.2.1,zm x1.2.2.2.1.2.2.2.2.2)
 Tr.chk (bif a0 then true else bif a1 then true else bif a2 then true else bif a3 then true else sY a4 a5)
 (Tr.br
  (bif a0 then true
  else bif a1 then true else bif a2 then true else bif a3 then true else bif !ov a4 a5 then true else (↑(length x0.2.2.2.2.1):Int) != (↑(length x1.2.2.2.2.1):Int))
  (Tr.re (AV.kb false) []) (Tr.to (Ls.h4 0 (x0,()) (x1,()))))
def zed:Ls→Tr (Ls ⊕ aF)
 | .h4 i5 z0 z1=>
  let a0:=(↑(length z0.1.2.2.2.2.1):Int)
  Tr.br (decide (i5 < a0))
  (Tr.chk (zR i5 (length z0.1.2.2.2.2.1))
   (Tr.chk (zR i5 (length z1.1.2.2.2.2.1)) (Tr.br (getD z0.1.2.2.2.2.1 i5.toNat (zi zf) != getD z1.1.2.2.2.2.1 i5.toNat (zi zf)) (Tr.re (AV.kb false) []) (Tr.to (Ls.h4 (IntKind.i64.wrap (i5+1)) z0 z1)))))
  (Tr.re (AV.kb true) [])
def sL (x0:Sem aB) (x1:Sem aB):=aA [Sh.bool] zed 100000000 (Xy x0 x1)
def lJ (x0:Sem aB) (x1:Sem aB):=(sL x0 x1).isSome
def pi (x0:Sem aB) (x1:Sem aB):=o1 (sL x0 x1)
def YZ:=FT [aB,aB] [Sh.bool] fun x=>sL x.1 x.2.1
theorem Vz:FK 12 YZ:=fb.T1 (f:=Tryz.f12) (keep:=zck) (e:=zeI)

def NQ:=NP.addL [(62,ZD),(189,TO),(144,TC),(145,TD),(143,TB),(83,ZU),(12,YZ)]
theorem yg:zy NQ:=fb.addL <| fc Wk <| fc Ru <| fc Ri <| fc Rj <| fc Rh <| fc WC <| fc Vz jp
end
noncomputable section

abbrev XX:=qm [(2,[0,3])]
inductive BW where
 | h2 (i0:Sem zf) (s3:List UInt8)
abbrev zbx:BW→Nat×St
 | .h2 i0 s3=>(2,⟨tm 21 [(0,AV.int .i64 i0),(3,AV.str s3)],[]⟩)
def zb6 (x0:Sem zf):Tr (BW ⊕ aF):=
 Tr.to (BW.h2 x0 [])
def A6:BW→Tr (BW ⊕ aF)
 | .h2 i0 s3=>
  let a0:=ii [IntKind.u8.wrap (IntKind.i64.wrap (48 - IntKind.i64.wrap (Int.tmod i0 10)))]
  Tr.br (bif decide (i0 < 0) then true else s3==[])
  (Tr.chk true (Tr.chk (decide (length a0+s3.length≤1099511627776)) (Tr.chk true (Tr.to (BW.h2 (IntKind.i64.wrap (Int.tdiv i0 10)) (a0++s3))))))
  (Tr.re (AV.str s3) [])
def po (x0:Sem zf):=aA [Sh.str] A6 100000000 (zb6 x0)
def jH (x0:Sem zf):=(po x0).isSome
def kd (x0:Sem zf):=o1 (po x0)
def TM:=FT [zf] [Sh.str] fun x=>po x.1
theorem Rs:FK 184 TM:=yg.T1 (f:=Tryz.f184) (keep:=XX) (e:=zbx)

def NV:=NQ.add 184 TM
theorem yi:zy NV:=yg.add Rs
end
noncomputable section

abbrev XQ:=qm [(13,[1,3,4])]
inductive xu where
 | h13 (s3:List UInt8) (i4:Int) (z0:zo [CP.d zg])
abbrev zbs:xu→Nat×St
 | .h13 s3 i4 z0=>(13,⟨tm 54 [(1,AV.ptr 0 0),(3,AV.str s3),(4,AV.int .i64 i4)],[AO.box (ch [] [CP.d zg] z0)]⟩)
def vL (x0:Sem zg):Tr (xu ⊕ aF):=
 let a0:=IntKind.i64.wrap (0 - x0.2.1)
 Tr.chk (kY x0)
 (Tr.br (!qy x0) (Tr.re (AV.str []) [])
  (Tr.br (x0.1==0) (Tr.re (AV.str [78,85,76,76]) []) (Tr.br (x0.1==1) (Tr.br (decide (x0.2.1 < 0)) (Tr.chk (jH x0.2.1) (Tr.chk (decide ([45].length+length (kd x0.2.1)≤1099511627776)) (Tr.re (AV.str ([45]++kd x0.2.1)) []))) (Tr.chk (jH a0) (Tr.re (AV.str (kd a0)) []))) (Tr.br (x0.1==2) (Tr.to (xu.h13 [39] 0 (x0,())))
  (Tr.br (x0.2.1==1) (Tr.re (AV.str [84,82,85,69]) []) (Tr.re (AV.str [70,65,76,83,69]) []))))))
def tK:xu→Tr (xu ⊕ aF)
 | .h13 s3 i4 z0=>
  let a0:=(↑(length z0.1.2.2):Int)
  let a1:=IntKind.i64.wrap (i4+1)
  let a2:=List.take (a1.toNat - i4.toNat) (List.drop i4.toNat z0.1.2.2)
  let a3:=s3++a2
  Tr.br (decide (i4 < a0))
  (Tr.chk (decide (0≤i4)&&decide (i4≤a1)&&decide (a1≤a0))
   (Tr.chk (decide (s3.length+a2.length≤1099511627776)) (Tr.chk (zR i4 (length z0.1.2.2)) (Tr.br ((↑(getD z0.1.2.2 i4.toNat 0).toNat:Int)==39) (Tr.chk (decide (length a3+[39].length≤1099511627776)) (Tr.to (xu.h13 (a3++[39]) a1 z0))) (Tr.to (xu.h13 a3 a1 z0))))))
  (Tr.chk (decide (s3.length+[39].length≤1099511627776)) (Tr.re (AV.str (s3++[39])) []))
def wK (x0:Sem zg):=aA [Sh.str] tK 100000000 (vL x0)
def sT (x0:Sem zg):=(wK x0).isSome
def Aj (x0:Sem zg):=o1 (wK x0)
def To:=FT [zg] [Sh.str] fun x=>wK x.1
theorem Q5:FK 129 To:=yi.T1 (f:=Tryz.f129) (keep:=XQ) (e:=zbs)

def DZ:=NV.add 129 To
theorem yl:zy DZ:=yi.add Q5
end
noncomputable section

def DT (g:Sem Sh.expr→Sem Sh.str) (c:Sem Sh.expr→Bool):bS:=DZ.add 130 (zN [Sh.expr] [Sh.str] (fun x=>c x.1) fun x=>(g x.1,()))
theorem Im {g:Sem Sh.expr→Sem Sh.str} {c:Sem Sh.expr→Bool} (hg:FK 130 (zN [Sh.expr] [Sh.str] (fun x=>c x.1) fun x=>(g x.1,()))):zy (DT g c):=yl.add hg
abbrev OT:Nat→aJ:=fun _=>{ }
theorem Ya (g:Sem Sh.expr→Sem Sh.str) (c:Sem Sh.expr→Bool):zK (DT g c).P 130 Tryz.f130 1:=bN (by kernel_rfl)
def nb (g:Sem Sh.expr→Sem Sh.str) (c:Sem Sh.expr→Bool) (x0:Sem Sh.expr):Tr (Empty ⊕ aF):=
 let a0:=zR 0 (ze.l x0).length
 let a1:=zm ((ze.l x0).getD (toNat 0) (zi Sh.expr))
 let a2:=c a1
 let a3:=g a1
 let a4:=[40,78,79,84,32]++a3
 let a5:=decide ([40].length+length a3≤1099511627776)
 let a6:=[40]++a3
 let a7:=zR 1 (ze.l x0).length
 let a8:=zm ((ze.l x0).getD (toNat 1) (zi Sh.expr))
 let a9:=c a8
 let a10:=a6++[32,65,78,68,32]
 let a11:=g a8
 let a12:=a10++a11
 let a13:=a6++[32,79,82,32]
 let a14:=a13++a11
 let a15:=a6++[32]
 let a16:=a15++ze.op x0
 let a17:=a16++[32]
 let a18:=a17++a11
 Tr.br (ze.op x0==[108,105,116]) (Tr.chk (sT (ze.v x0)) (Tr.re (AV.str (Aj (ze.v x0))) []))
 (Tr.br (ze.op x0==[99,111,108]) (Tr.re (AV.str (ze.s x0)) [])
  (Tr.br (ze.op x0==[110,111,116]) (Tr.chk a0 (Tr.chk a2 (Tr.chk (decide ([40,78,79,84,32].length+length a3≤1099511627776)) (Tr.chk (decide (length a4+[41].length≤1099511627776)) (Tr.re (AV.str (a4++[41])) []))))) (Tr.br (ze.op x0==[110,117,108,108]) (Tr.chk a0 (Tr.chk a2 (Tr.chk a5
  (Tr.chk (decide (length a6+[32,73,83,32,78,85,76,76,41].length≤1099511627776)) (Tr.re (AV.str (a6++[32,73,83,32,78,85,76,76,41])) []))))) (Tr.br (ze.op x0==[97,110,100]) (Tr.chk a0 (Tr.chk a2 (Tr.chk a5 (Tr.chk (decide (length a6+[32,65,78,68,32].length≤1099511627776)) (Tr.chk a7 (Tr.chk a9
  (Tr.chk (decide (length a10+length a11≤1099511627776)) (Tr.chk (decide (length a12+[41].length≤1099511627776)) (Tr.re (AV.str (a12++[41])) []))))))))) (Tr.br (ze.op x0==[111,114]) (Tr.chk a0 (Tr.chk a2 (Tr.chk a5 (Tr.chk (decide (length a6+[32,79,82,32].length≤1099511627776)) (Tr.chk a7 (Tr.chk a9
  (Tr.chk (decide (length a13+length a11≤1099511627776)) (Tr.chk (decide (length a14+[41].length≤1099511627776)) (Tr.re (AV.str (a14++[41])) []))))))))) (Tr.chk a0 (Tr.chk a2 (Tr.chk a5 (Tr.chk (decide (length a6+[32].length≤1099511627776)) (Tr.chk (decide (length a15+length (ze.op x0)≤1099511627776))
  (Tr.chk (decide (length a16+[32].length≤1099511627776)) (Tr.chk a7 (Tr.chk a9 (Tr.chk (decide (length a17+length a11≤1099511627776)) (Tr.chk (decide (length a18+[41].length≤1099511627776)) (Tr.re (AV.str (a18++[41])) []))))))))))))))))
theorem Xn (g:Sem Sh.expr→Sem Sh.str) (c:Sem Sh.expr→Bool) (x0:Sem Sh.expr):rn (DT g c) 0 OT Tryz.f130 [zF Sh.expr x0] []=(nb g c x0).map (lf Tryz.f130 e0):=by kernel_rfl
def gP (o:Option (zC (List.map some [Sh.str]))):Sem Sh.str:=(fun r:zC (List.map some [Sh.str])=>r.1) (o.getD (cA [Sh.str]))
def KV (g:Sem Sh.expr→Sem Sh.str) (c:Sem Sh.expr→Bool) (x0:Sem Sh.expr):Option (zC (List.map some [Sh.str])):=aA [Sh.str] t0 100000000 (nb g c x0)
def cv:Nat→Sem Sh.expr→Option (zC (List.map some [Sh.str]))
 | 0=>fun _=>none
 | n+1=>KV (fun x0=>gP (cv n x0)) fun x0=>(cv n x0).isSome
theorem OK:zK DZ.P 130 Tryz.f130 1:=bN (by kernel_rfl)
theorem FF:∀ n,FK 130 (zN [Sh.expr] [Sh.str] (fun x=>(cv n x.1).isSome) fun x=>(gP (cv n x.1),()))
 | 0=>eW ⟨Tryz.f130,OK.1,OK.2.1,OK.2.2.1⟩ (fun _=>rfl)
 | n+1=>mf (E:=DT (fun x0=>gP (cv n x0)) (fun x0=>(cv n x0).isSome)) (ks:=[Sh.expr]) (outs:=[Sh.str]) (keep:=OT) (gas:=400) (n:=100000000) (e:=e0) (t:=t0) (i:=fun x=>nb (fun x0=>gP (cv n x0)) (fun x0=>(cv n x0).isSome) x.1) (Im (FF n)) (Ya _ _) (fun x=>Xn _ _ x.1) (QH _ _ _ _ _) (fun _=>by kernel_rfl) (fun _=>by kernel_rfl)
def ED (x0:Sem Sh.expr):Option (zC (List.map some [Sh.str])):=cv 16 x0
def pw (x0:Sem Sh.expr):Bool:=(ED x0).isSome
def ot (x0:Sem Sh.expr):Sem Sh.str:=gP (ED x0)
def Tp:zT:=zN [Sh.expr] [Sh.str] (fun x=>pw x.1) fun x=>(ot x.1,())
theorem Q6:FK 130 Tp:=FF 16

def D0:=DZ.add 130 Tp
theorem mt:zy D0:=yl.add Q6
end
noncomputable section

abbrev XU:=qm [(6,[1,3])]
inductive BV where
 | h6 (i3:Int) (z0:zo [CP.d zq])
abbrev zbw:BV→Nat×St
 | .h6 i3 z0=>(6,⟨tm 82 [(1,AV.ptr 0 0),(3,AV.int .i64 i3)],[AO.box (ch [] [CP.d zq] z0)]⟩)
def GO (x0:Sem zq):Tr (BV ⊕ aF):=
 let a0:=(2,0,x0.2)
 Tr.br (x0.1==1) (Tr.chk (tf x0.2) (Tr.re (AV.bool (rD x0.2)) []))
 (Tr.br (x0.1==2) (Tr.to (BV.h6 0 (x0,())))
  (Tr.br (x0.1==3) (Tr.chk (kY a0) (Tr.re (AV.bool (qy a0)) [])) (Tr.br (x0.1==4) (Tr.re (AV.bool (bif x0.2==[40] then true else bif x0.2==[41] then true else bif x0.2==[44] then true else bif x0.2==[61] then true else bif x0.2==[60] then true else bif x0.2==[43] then true else bif x0.2==[45] then true else x0.2==[42])) []) (Tr.re (AV.kb false) []))))
def tM:BV→Tr (BV ⊕ aF)
 | .h6 i3 z0=>
  let a0:=(↑(length z0.1.2):Int)
  let a1:=(↑(getD z0.1.2 i3.toNat 0).toNat:Int)
  Tr.br (decide (i3 < a0))
  (Tr.chk (zR i3 (length z0.1.2))
   (Tr.chk (fh a1) (Tr.br (!gh a1) (Tr.re (AV.kb false) []) (Tr.to (BV.h6 (IntKind.i64.wrap (i3+1)) z0)))))
  (Tr.re (AV.bool (bif decide (1≤a0) then decide (a0≤19) else false)) [])
def EV (x0:Sem zq):=aA [Sh.bool] tM 100000000 (GO x0)
def gS (x0:Sem zq):=(EV x0).isSome
def kO (x0:Sem zq):=o1 (EV x0)
def Tx:=FT [zq] [Sh.bool] fun x=>EV x.1
theorem Rd:FK 137 Tx:=mt.T1 (f:=Tryz.f137) (keep:=XU) (e:=zbw)

abbrev OQ:Nat→aJ:=fun _=>{ }
theorem X7:zK D0.P 111 Tryz.f111 2:=bN (by kernel_rfl)
def Ou (y:zo aG) (x0:TS):Tr (Empty ⊕ aF):=
 let a0:=(y.1,y.2.1,y.2.2.1,())
 let a1:=eK a0 x0
 Tr.chk (dv a0 x0)
 (Tr.br (!a1.1) (Tr.re (AV.agg [AV.str [],AV.int .i64 0,AV.int .i64 0,AV.str [],AV.str [],AV.nils]) (ay aG a1.2))
  (Tr.br (x0==[87,72,69,82,69]) Tr.err (Tr.chk (aT (a1.2.1,a1.2.2.1,a1.2.2.2.1,()) [40]) Tr.err)))
theorem Xh (y:zo aG) (x0:TS):rn D0 1 OQ Tryz.f111 [AV.ptr 0 0,zF Sh.str x0] (ay aG y)=(Ou y x0).map (lf Tryz.f111 e0):=by kernel_rfl
def K4 (y:zo aG) (x0:TS):Option (zC (List.map some [Sh.expr])×zo aG):=j7 [Sh.expr] aG t0 100000000 (Ou y x0)
def dk (y:zo aG) (x0:TS):Bool:=(K4 y x0).isSome
def ei (y:zo aG) (x0:TS):(Sem Sh.expr)×zo aG:=(fun r:zC (List.map some [Sh.expr])×zo aG=>(r.1.1,r.2)) ((K4 y x0).getD (cA [Sh.expr],fH aG))
def Tc:zT:=qN aG [Sh.str] [Sh.expr] aG (fun y x=>dk y x.1) fun y x=>(((ei y x.1).1,()),(ei y x.1).2)
theorem QT:FK 111 Tc:=jL (ps:=aG) (ks:=[Sh.str]) (outs:=[Sh.expr]) (keep:=OQ) (gas:=400) (n:=100000000) (e:=e0) (t:=t0) (i:=fun y x=>Ou y x.1) mt X7 (fun y x=>Xh y x.1) (QH _ _ _ _ _) (fun _ _=>by kernel_rfl) (fun _ _=>by kernel_rfl)

def zcf (x0:TS):Tr (Empty ⊕ aF):=
 Tr.chk (tf x0&&bif rD x0 then AB x0 else true) (Tr.re (AV.bool (bif rD x0 then !HB x0 else false)) [])
def tn (x0:TS):=aA [Sh.bool] t0 100000000 (zcf x0)
def dj (x0:TS):=(tn x0).isSome
def bj (x0:TS):=o1 (tn x0)
def ZQ:=FT [Sh.str] [Sh.bool] fun x=>tn x.1
theorem Wy:FK 79 ZQ:=mt.T1 (f:=Tryz.f79) (keep:=k0) (e:=e0)

def Uj:=D0.addL [(137,Tx),(111,Tc),(79,ZQ)]
theorem oX:zy Uj:=mt.addL <| fc Rd <| fc QT <| fc Wy jp
end
noncomputable section

abbrev zcP:=qm [(3,[0,4,5]),(11,[0,4,5,6,7,8]),(15,[0,4,5,6,7,8]),(20,[0,4,5,8])]
inductive dN where
 | h3 (s0:TS) (i5:Int)
 | h11 (s0:TS) (i5:Int) (i6:Int) (i7:Int) (z0:zo [CP.d zq])
 | h15 (s0:TS) (i5:Int) (i6:Int) (i7:Int) (z0:zo [CP.d zq])
 | h20 (s0:TS) (i5:Int) (z0:zo [CP.d zq])
 | h3b (s0:TS) (i5:Int) (lh_0:LF)
 | h11b (s0:TS) (i5:Int) (i6:Int) (i7:Int) (z1:zo [CP.d zq]) (lh_0:LF)
 | h15b (s0:TS) (i5:Int) (i6:Int) (i7:Int) (z1:zo [CP.d zq]) (lh_0:LF)
 | h20b (s0:TS) (i5:Int) (z1:zo [CP.d zq]) (lh_0:LF)
abbrev ze1:dN→Nat×St
 | .h3 s0 i5=>(3,⟨tm 131 [(0,AV.str s0),(4,AV.nils),(5,AV.int .i64 i5)],[]⟩)
 | .h11 s0 i5 i6 i7 z0=>(11,⟨tm 131 [(0,AV.str s0),(4,AV.nils),(5,AV.int .i64 i5),(6,AV.int IntKind.u8 i6),(7,AV.int .i64 i7),(8,AV.ptr 0 0)],[AO.box (ch [] [CP.d zq] z0)]⟩)
 | .h15 s0 i5 i6 i7 z0=>(15,⟨tm 131 [(0,AV.str s0),(4,AV.nils),(5,AV.int .i64 i5),(6,AV.int IntKind.u8 i6),(7,AV.int .i64 i7),(8,AV.ptr 0 0)],[AO.box (ch [] [CP.d zq] z0)]⟩)
 | .h20 s0 i5 z0=>(20,⟨tm 131 [(0,AV.str s0),(4,AV.nils),(5,AV.int .i64 i5),(8,AV.ptr 0 0)],[AO.box (ch [] [CP.d zq] z0)]⟩)
 | .h3b s0 i5 lh_0=>(3,⟨tm 131 [(0,AV.str s0),(4,AV.vec 0),(5,AV.int .i64 i5)],[AO.vec zq lh_0]⟩)
 | .h11b s0 i5 i6 i7 z1 lh_0=>(11,⟨tm 131 [(0,AV.str s0),(4,AV.vec 0),(5,AV.int .i64 i5),(6,AV.int IntKind.u8 i6),(7,AV.int .i64 i7),(8,AV.ptr 1 0)],[AO.vec zq lh_0,AO.box (ch [] [CP.d zq] z1)]⟩)
 | .h15b s0 i5 i6 i7 z1 lh_0=>(15,⟨tm 131 [(0,AV.str s0),(4,AV.vec 0),(5,AV.int .i64 i5),(6,AV.int IntKind.u8 i6),(7,AV.int .i64 i7),(8,AV.ptr 1 0)],[AO.vec zq lh_0,AO.box (ch [] [CP.d zq] z1)]⟩)
 | .h20b s0 i5 z1 lh_0=>(20,⟨tm 131 [(0,AV.str s0),(4,AV.vec 0),(5,AV.int .i64 i5),(8,AV.ptr 1 0)],[AO.vec zq lh_0,AO.box (ch [] [CP.d zq] z1)]⟩)
def zf8 (x0:TS):Tr (dN ⊕ aF):=
 Tr.to (dN.h3 x0 0)
def cF:dN→Tr (dN ⊕ aF)
 | .h3 s0 i5=>
  let a0:=(↑(getD s0 i5.toNat 0).toNat:Int)
  let a1:=IntKind.i64.wrap (i5+1)
  let a2:=List.take (a1.toNat - i5.toNat) (List.drop i5.toNat s0)
  let a3:=((4,a2),())
  let a4:=(4,a2)
  let a5:=[a4]
  Tr.br (decide (i5 < (↑(length s0):Int)))
  (Tr.chk (zR i5 (length s0))
   (Tr.br (bif a0==32 then true else a0==10) (Tr.to (dN.h3 s0 a1)) (Tr.chk (decide (0≤i5)&&decide (i5≤a1)&&decide (a1≤(↑(length s0):Int))) (Tr.chk (jJ a0) (Tr.br (lS a0) (Tr.to (dN.h11 s0 a1 a0 i5 a3)) (Tr.chk (fh a0) (Tr.br (gh a0) (Tr.to (dN.h15 s0 a1 a0 i5 a3)) (Tr.br (a0==39) (Tr.to (dN.h20 s0 a1 ((3,[]),()))) (Tr.chk (gS a4)
   (Tr.br (!kO a4) (Tr.re (AV.tup [AV.nils,AV.kb false]) []) (Tr.chk (decide (a5.length≤1073741824)) (Tr.to (dN.h3b s0 a1 a5)))))))))))))
  (Tr.re (AV.tup [AV.nils,AV.bool true]) [])
 | .h11 s0 i5 i6 i7 z0=>
  let a0:=decide (i5 < (↑(length s0):Int))
  let a1:=(↑(getD s0 i5.toNat 0).toNat:Int)
  let a2:=List.take (i5.toNat - i7.toNat) (List.drop i7.toNat s0)
  let a3:=(1,a2)
  let a4:=[a3]
  Tr.chk (bif a0 then zR i5 (length s0)&&pE a1 else true)
  (Tr.br (bif a0 then uV a1 else false) (Tr.to (dN.h11 s0 (IntKind.i64.wrap (i5+1)) i6 i7 z0))
   (Tr.chk (decide (0≤i7)&&decide (i7≤i5)&&decide (i5≤(↑(length s0):Int))) (Tr.chk (fh i6) (Tr.br (gh i6) (Tr.to (dN.h15 s0 i5 i6 i7 ((1,a2),()))) (Tr.br (i6==39) (Tr.to (dN.h20 s0 i5 ((3,[]),()))) (Tr.chk (gS a3) (Tr.br (!kO a3) (Tr.re (AV.tup [AV.nils,AV.kb false]) []) (Tr.chk (decide (a4.length≤1073741824)) (Tr.to (dN.h3b s0 i5 a4))))))))))
 | .h15 s0 i5 i6 i7 z0=>
  let a0:=decide (i5 < (↑(length s0):Int))
  let a1:=(↑(getD s0 i5.toNat 0).toNat:Int)
  let a2:=(2,List.take (i5.toNat - i7.toNat) (List.drop i7.toNat s0))
  let a3:=[a2]
  Tr.chk (bif a0 then zR i5 (length s0)&&fh a1 else true)
  (Tr.br (bif a0 then gh a1 else false) (Tr.to (dN.h15 s0 (IntKind.i64.wrap (i5+1)) i6 i7 z0))
   (Tr.chk (decide (0≤i7)&&decide (i7≤i5)&&decide (i5≤(↑(length s0):Int))) (Tr.br (i6==39) (Tr.to (dN.h20 s0 i5 ((3,[]),()))) (Tr.chk (gS a2) (Tr.br (!kO a2) (Tr.re (AV.tup [AV.nils,AV.kb false]) []) (Tr.chk (decide (a3.length≤1073741824)) (Tr.to (dN.h3b s0 i5 a3))))))))
 | .h20 s0 i5 z0=>
  let a0:=decide (i5 < (↑(length s0):Int))
  let a1:=(↑(getD s0 i5.toNat 0).toNat:Int)
  let a2:=a1 != 39
  let a3:=IntKind.i64.wrap (i5+1)
  let a4:=decide (a3 < (↑(length s0):Int))
  let a5:=List.take (a3.toNat - i5.toNat) (List.drop i5.toNat s0)
  let a6:=((z0.1.1,z0.1.2++a5),())
  Tr.chk (bif a0 then zR i5 (length s0)&&bif a2 then true else bif a4 then zR a3 (length s0) else true else true)
  (Tr.br (bif a0 then bif a2 then true else bif a4 then (↑(getD s0 a3.toNat 0).toNat:Int)==39 else false else false)
   (Tr.chk (decide (0≤i5)&&decide (i5≤a3)&&decide (a3≤(↑(length s0):Int))) (Tr.chk (decide (length z0.1.2+a5.length≤1099511627776)) (Tr.chk (zR i5 (length s0)) (Tr.br (a1==39) (Tr.to (dN.h20 s0 (IntKind.i64.wrap (a3+1)) a6)) (Tr.to (dN.h20 s0 a3 a6))))))
   (Tr.br (decide (i5 ≥ (↑(length s0):Int))) (Tr.re (AV.tup [AV.nils,AV.kb false]) []) (Tr.chk (gS z0.1) (Tr.br (!kO z0.1) (Tr.re (AV.tup [AV.nils,AV.kb false]) []) (Tr.chk (decide ([z0.1].length≤1073741824)) (Tr.to (dN.h3b s0 a3 [z0.1])))))))
 | .h3b s0 i5 lh_0=>
  let a0:=(↑(getD s0 i5.toNat 0).toNat:Int)
  let a1:=IntKind.i64.wrap (i5+1)
  let a2:=List.take (a1.toNat - i5.toNat) (List.drop i5.toNat s0)
  let a3:=((4,a2),())
  let a4:=(4,a2)
  let a5:=[a4]
  Tr.br (decide (i5 < (↑(length s0):Int)))
  (Tr.chk (zR i5 (length s0))
   (Tr.br (bif a0==32 then true else a0==10) (Tr.to (dN.h3b s0 a1 lh_0)) (Tr.chk (decide (0≤i5)&&decide (i5≤a1)&&decide (a1≤(↑(length s0):Int))) (Tr.chk (jJ a0) (Tr.br (lS a0) (Tr.to (dN.h11b s0 a1 a0 i5 a3 lh_0)) (Tr.chk (fh a0) (Tr.br (gh a0) (Tr.to (dN.h15b s0 a1 a0 i5 a3 lh_0)) (Tr.br (a0==39) (Tr.to (dN.h20b s0 a1 ((3,[]),()) lh_0))
   (Tr.chk (gS a4) (Tr.br (!kO a4) (Tr.re (AV.tup [AV.nils,AV.kb false]) []) (Tr.chk (decide (lh_0.length+a5.length≤1073741824)) (Tr.to (dN.h3b s0 a1 (lh_0++a5))))))))))))))
  (Tr.re (AV.tup [AV.vec 0,AV.bool (decide ((↑lh_0.length:Int)≤400))]) [AO.vec zq lh_0])
 | .h11b s0 i5 i6 i7 z1 lh_0=>
  let a0:=decide (i5 < (↑(length s0):Int))
  let a1:=(↑(getD s0 i5.toNat 0).toNat:Int)
  let a2:=List.take (i5.toNat - i7.toNat) (List.drop i7.toNat s0)
  let a3:=(1,a2)
  let a4:=[a3]
  Tr.chk (bif a0 then zR i5 (length s0)&&pE a1 else true)
  (Tr.br (bif a0 then uV a1 else false) (Tr.to (dN.h11b s0 (IntKind.i64.wrap (i5+1)) i6 i7 z1 lh_0))
   (Tr.chk (decide (0≤i7)&&decide (i7≤i5)&&decide (i5≤(↑(length s0):Int))) (Tr.chk (fh i6) (Tr.br (gh i6) (Tr.to (dN.h15b s0 i5 i6 i7 ((1,a2),()) lh_0)) (Tr.br (i6==39) (Tr.to (dN.h20b s0 i5 ((3,[]),()) lh_0)) (Tr.chk (gS a3) (Tr.br (!kO a3) (Tr.re (AV.tup [AV.nils,AV.kb false]) [])
   (Tr.chk (decide (lh_0.length+a4.length≤1073741824)) (Tr.to (dN.h3b s0 i5 (lh_0++a4)))))))))))
 | .h15b s0 i5 i6 i7 z1 lh_0=>
  let a0:=decide (i5 < (↑(length s0):Int))
  let a1:=(↑(getD s0 i5.toNat 0).toNat:Int)
  let a2:=(2,List.take (i5.toNat - i7.toNat) (List.drop i7.toNat s0))
  let a3:=[a2]
  Tr.chk (bif a0 then zR i5 (length s0)&&fh a1 else true)
  (Tr.br (bif a0 then gh a1 else false) (Tr.to (dN.h15b s0 (IntKind.i64.wrap (i5+1)) i6 i7 z1 lh_0))
   (Tr.chk (decide (0≤i7)&&decide (i7≤i5)&&decide (i5≤(↑(length s0):Int))) (Tr.br (i6==39) (Tr.to (dN.h20b s0 i5 ((3,[]),()) lh_0)) (Tr.chk (gS a2) (Tr.br (!kO a2) (Tr.re (AV.tup [AV.nils,AV.kb false]) []) (Tr.chk (decide (lh_0.length+a3.length≤1073741824)) (Tr.to (dN.h3b s0 i5 (lh_0++a3)))))))))
 | .h20b s0 i5 z1 lh_0=>
  let a0:=decide (i5 < (↑(length s0):Int))
  let a1:=(↑(getD s0 i5.toNat 0).toNat:Int)
  let a2:=a1 != 39
  let a3:=IntKind.i64.wrap (i5+1)
  let a4:=decide (a3 < (↑(length s0):Int))
  let a5:=List.take (a3.toNat - i5.toNat) (List.drop i5.toNat s0)
  let a6:=((z1.1.1,z1.1.2++a5),())
  Tr.chk (bif a0 then zR i5 (length s0)&&bif a2 then true else bif a4 then zR a3 (length s0) else true else true)
  (Tr.br (bif a0 then bif a2 then true else bif a4 then (↑(getD s0 a3.toNat 0).toNat:Int)==39 else false else false)
   (Tr.chk (decide (0≤i5)&&decide (i5≤a3)&&decide (a3≤(↑(length s0):Int))) (Tr.chk (decide (length z1.1.2+a5.length≤1099511627776)) (Tr.chk (zR i5 (length s0)) (Tr.br (a1==39) (Tr.to (dN.h20b s0 (IntKind.i64.wrap (a3+1)) a6 lh_0)) (Tr.to (dN.h20b s0 a3 a6 lh_0))))))
   (Tr.br (decide (i5 ≥ (↑(length s0):Int))) (Tr.re (AV.tup [AV.nils,AV.kb false]) []) (Tr.chk (gS z1.1) (Tr.br (!kO z1.1) (Tr.re (AV.tup [AV.nils,AV.kb false]) []) (Tr.chk (decide (lh_0.length+[z1.1].length≤1073741824)) (Tr.to (dN.h3b s0 a3 (lh_0++[z1.1]))))))))
def EU (x0:TS):=aA [zq.sl,Sh.bool] cF 100000000 (zf8 x0)
def ET (x0:TS):=(EU x0).isSome
def vZ (x0:TS):=o2 (EU x0)
def ZS:=FT [Sh.str] [zq.sl,Sh.bool] fun x=>EU x.1
theorem WA:FK 81 ZS:=oX.T1 (f:=Tryz.f81) (keep:=zcP) (e:=ze1)

def GN (x0:Sem Sh.expr) (x1:TS):Tr (Empty ⊕ aF):=
 let a0:=x1++[32,67,72,69,67,75,32,40,32]
 let a1:=a0++ot (zm x0)
 Tr.br (ze.op x0==[])
 (Tr.chk (eP (zm x0) (ze.mk [] (0,0,[]) [] [])) (Tr.re (AV.tup [AV.str [],AV.bool (da (zm x0) (ze.mk [] (0,0,[]) [] []))]) []))
 (Tr.chk (uR (zm x0))
  (Tr.br (!C9 (zm x0)) (Tr.re (AV.tup [AV.str [],AV.kb false]) []) (Tr.br (x1==[87,72,69,82,69]) (Tr.chk (pw (zm x0)) (Tr.chk (decide ([32,87,72,69,82,69,32].length+length (ot (zm x0))≤1099511627776)) (Tr.re (AV.tup [AV.str ([32,87,72,69,82,69,32]++ot (zm x0)),AV.kb true]) [])))
  (Tr.chk (decide (length x1+[32,67,72,69,67,75,32,40,32].length≤1099511627776)) (Tr.chk (pw (zm x0)) (Tr.chk (decide (length a0+length (ot (zm x0))≤1099511627776)) (Tr.chk (decide (length a1+[32,41].length≤1099511627776)) (Tr.re (AV.tup [AV.str (a1++[32,41]),AV.kb true]) []))))))))
def wX (x0:Sem Sh.expr) (x1:TS):=aA [Sh.str,Sh.bool] t0 100000000 (GN x0 x1)
def tp (x0:Sem Sh.expr) (x1:TS):=(wX x0 x1).isSome
def AD (x0:Sem Sh.expr) (x1:TS):=o2 (wX x0 x1)
def Tm:=FT [Sh.expr,Sh.str] [Sh.str,Sh.bool] fun x=>wX x.1 x.2.1
theorem Q3:FK 127 Tm:=oX.T1 (f:=Tryz.f127) (keep:=k0) (e:=e0)

abbrev XR:=qm [(3,[0,4,5])]
inductive xv where
 | h3 (l0:LS) (s4:List UInt8) (i5:Int)
abbrev zbt:xv→Nat×St
 | .h3 l0 s4 i5=>(3,⟨tm 37 [(0,AV.sl Sh.str l0),(4,AV.str s4),(5,AV.int .i64 i5)],[]⟩)
def zb2 (x0:Sem Sh.str.sl):Tr (xv ⊕ aF):=
 Tr.to (xv.h3 x0 [] 0)
def A2:xv→Tr (xv ⊕ aF)
 | .h3 l0 s4 i5=>
  let a0:=l0.getD i5.toNat (zi Sh.str)
  let a1:=s4++[32,44,32]
  let a2:=IntKind.i64.wrap (i5+1)
  let a3:=decide (1≤(↑l0.length:Int))
  Tr.br (decide (i5 < (↑l0.length:Int)))
  (Tr.chk (zR i5 l0.length)
   (Tr.chk (dj a0) (Tr.br (!bj a0) (Tr.re (AV.tup [AV.str [],AV.kb false]) []) (Tr.br (decide (i5 > 0)) (Tr.chk (decide (s4.length+[32,44,32].length≤1099511627776)) (Tr.chk (zR i5 l0.length) (Tr.chk (decide (length a1+length a0≤1099511627776)) (Tr.to (xv.h3 l0 (a1++a0) a2)))))
   (Tr.chk (zR i5 l0.length) (Tr.chk (decide (s4.length+length a0≤1099511627776)) (Tr.to (xv.h3 l0 (s4++a0) a2))))))))
  (Tr.re (AV.tup [AV.str (bif a3 then s4 else s4),AV.bool (bif a3 then decide ((↑l0.length:Int)≤8) else false)]) [])
def tq (x0:Sem Sh.str.sl):=aA [Sh.str,Sh.bool] A2 100000000 (zb2 x0)
def AE (x0:Sem Sh.str.sl):=(tq x0).isSome
def EX (x0:Sem Sh.str.sl):=o2 (tq x0)
def Tq:=FT [Sh.str.sl] [Sh.str,Sh.bool] fun x=>tq x.1
theorem Q7:FK 131 Tq:=oX.T1 (f:=Tryz.f131) (keep:=XR) (e:=zbt)

def Uk:=Uj.addL [(81,ZS),(127,Tm),(131,Tq)]
theorem lz:zy Uk:=oX.addL <| fc WA <| fc Q3 <| fc Q7 jp
end
noncomputable section

abbrev XP:=qm [(4,[1,4,5,6]),(15,[1,4,5,8]),(20,[1,4,5,9])]
inductive nv where
 | h4 (b4:Bool) (s5:zw) (i6:Int) (z0:zo [CP.d zk])
 | h15 (b4:Bool) (s5:zw) (i8:Int) (z0:zo [CP.d zk])
 | h20 (b4:Bool) (s5:zw) (i9:Int) (z0:zo [CP.d zk])
abbrev zbr:nv→Nat×St
 | .h4 b4 s5 i6 z0=>(4,⟨tm 174 [(1,AV.ptr 0 0),(4,AV.bool b4),(5,AV.str s5),(6,AV.int .i64 i6)],[AO.box (ch [] [CP.d zk] z0)]⟩)
 | .h15 b4 s5 i8 z0=>(15,⟨tm 174 [(1,AV.ptr 0 0),(4,AV.bool b4),(5,AV.str s5),(8,AV.int .i64 i8)],[AO.box (ch [] [CP.d zk] z0)]⟩)
 | .h20 b4 s5 i9 z0=>(20,⟨tm 174 [(1,AV.ptr 0 0),(4,AV.bool b4),(5,AV.str s5),(9,AV.int .i64 i9)],[AO.box (ch [] [CP.d zk] z0)]⟩)
def Ox (x0:Sem zk):Tr (nv ⊕ aF):=
 let a0:=[67,82,69,65,84,69,32,84,65,66,76,69,32]++x0.2.1
 let a1:=(↑(length x0.2.2.2.2.1):Int)
 let a2:=(↑(length x0.2.2.2.2.2.2.1):Int)
 let a3:=(↑(length x0.2.2.2.2.2.2.2.1):Int)
 Tr.chk (dj x0.2.2.2.2.2.1)
 (Tr.chk (decide ([67,82,69,65,84,69,32,84,65,66,76,69,32].length+length x0.2.1≤1099511627776))
  (Tr.chk (decide (length a0+[32,40,32].length≤1099511627776)) (Tr.to (nv.h4 (bif bj x0.2.2.2.2.2.1 then bif decide (1≤a1) then bif decide (a1≤8) then bif decide (a2≤8) then decide (a3≤8) else false else false else false else false) (a0++[32,40,32]) 0 (x0,())))))
def eR:nv→Tr (nv ⊕ aF)
 | .h4 b4 s5 i6 z0=>
  let a0:=(↑(length z0.1.2.2.2.2.1):Int)
  let a1:=getD z0.1.2.2.2.2.1 i6.toNat (zi zh)
  let a2:=a1.1++[32]
  let a3:=[[],[73,78,84],[84,69,88,84],[66,79,79,76]].getD (toNat a1.2.1) (zi Sh.str)
  let a4:=a2++a3
  let a5:=s5++a4
  let a6:=a5++[32,78,79,84,32,78,85,76,76]
  let a7:=IntKind.i64.wrap (i6+1)
  let a8:=[75,69,89,32,40,32]++z0.1.2.2.2.2.2.1
  let a9:=a8++[32,41]
  Tr.br (decide (i6 < a0))
  (Tr.chk (zR i6 (length z0.1.2.2.2.2.1))
   (Tr.chk (dj a1.1) (Tr.br (bif !bj a1.1 then true else bif decide (a1.2.1 < 1) then true else decide (a1.2.1 > 3)) (Tr.re (AV.tup [AV.str [],AV.kb false]) []) (Tr.chk (decide (length a1.1+[32].length≤1099511627776)) (Tr.chk (zR a1.2.1 [[],[73,78,84],[84,69,88,84],[66,79,79,76]].length) (Tr.chk (decide (length a2+length a3≤1099511627776))
   (Tr.chk (decide (length s5+length a4≤1099511627776)) (Tr.br a1.2.2 (Tr.chk (decide (length a5+[32,78,79,84,32,78,85,76,76].length≤1099511627776)) (Tr.chk (decide (length a6+[32,44,32].length≤1099511627776)) (Tr.to (nv.h4 b4 (a6++[32,44,32]) a7 z0))))
   (Tr.chk (decide (length a5+[32,44,32].length≤1099511627776)) (Tr.to (nv.h4 b4 (a5++[32,44,32]) a7 z0)))))))))))
  (Tr.chk (decide ([75,69,89,32,40,32].length+length z0.1.2.2.2.2.2.1≤1099511627776))
   (Tr.chk (decide (length a8+[32,41].length≤1099511627776)) (Tr.chk (decide (length s5+length a9≤1099511627776)) (Tr.to (nv.h15 b4 (s5++a9) 0 z0)))))
 | .h15 b4 s5 i8 z0=>
  let a0:=(↑(length z0.1.2.2.2.2.2.2.1):Int)
  let a1:=zR i8 (length z0.1.2.2.2.2.2.2.1)
  let a2:=getD z0.1.2.2.2.2.2.2.1 i8.toNat (zi Sh.str)
  let a3:=[32,44,32,85,78,73,81,85,69,32,40,32]++a2
  let a4:=a3++[32,41]
  Tr.br (decide (i8 < a0))
  (Tr.chk (bif b4 then a1&&dj a2 else true)
   (Tr.chk a1 (Tr.chk (decide ([32,44,32,85,78,73,81,85,69,32,40,32].length+length a2≤1099511627776)) (Tr.chk (decide (length a3+[32,41].length≤1099511627776)) (Tr.chk (decide (length s5+length a4≤1099511627776)) (Tr.to (nv.h15 (bif b4 then bj a2 else false) (s5++a4) (IntKind.i64.wrap (i8+1)) z0)))))))
  (Tr.to (nv.h20 b4 s5 0 z0))
 | .h20 b4 s5 i9 z0=>
  let a0:=(↑(length z0.1.2.2.2.2.2.2.2.1):Int)
  let a1:=zR i9 (length z0.1.2.2.2.2.2.2.2.1)
  let a2:=getD z0.1.2.2.2.2.2.2.2.1 i9.toNat (zi ib)
  let a3:=bj a2.1
  let a4:=[32,44,32,82,69,70,69,82,69,78,67,69,83,32,40,32]++a2.1
  let a5:=a4++[32,41,32]
  let a6:=a5++a2.2
  let a7:=zm z0.1.2.2.2.2.2.2.2.2.1
  let a8:=AD a7 [32,44]
  let a9:=s5++a8.1
  let a10:=a9++[32,41]
  Tr.br (decide (i9 < a0))
  (Tr.chk (bif b4 then a1&&(dj a2.1&&bif a3 then a1&&dj a2.2 else true) else true)
   (Tr.chk a1 (Tr.chk (decide ([32,44,32,82,69,70,69,82,69,78,67,69,83,32,40,32].length+length a2.1≤1099511627776)) (Tr.chk (decide (length a4+[32,41,32].length≤1099511627776)) (Tr.chk a1 (Tr.chk (decide (length a5+length a2.2≤1099511627776)) (Tr.chk (decide (length s5+length a6≤1099511627776))
   (Tr.to (nv.h20 (bif b4 then bif a3 then bj a2.2 else false else false) (s5++a6) (IntKind.i64.wrap (i9+1)) z0)))))))))
  (Tr.chk (tp a7 [32,44])
   (Tr.chk (decide (length s5+length a8.1≤1099511627776)&&decide (length a9+[32,41].length≤1099511627776)) (Tr.re (AV.tup [AV.str (bif b4 then a10 else a10),AV.bool (bif b4 then a8.2 else false)]) [])))
def lO (x0:Sem zk):=aA [Sh.str,Sh.bool] eR 100000000 (Ox x0)
def pA (x0:Sem zk):=(lO x0).isSome
def ou (x0:Sem zk):=o2 (lO x0)
def Tn:=FT [zk] [Sh.str,Sh.bool] fun x=>lO x.1
theorem Q4:FK 128 Tn:=lz.T1 (f:=Tryz.f128) (keep:=XP) (e:=zbr)

abbrev zcw:=qm [(2,[0,1,5]),(5,[0,1,5,6])]
inductive FL where
 | h2 (l0:List (Sem zj)) (l1:List (Sem Sh.str)) (i5:Int)
 | h5 (l0:List (Sem zj)) (l1:List (Sem Sh.str)) (i5:Int) (i6:Int)
abbrev zeP:FL→Nat×St
 | .h2 l0 l1 i5=>(2,⟨tm 47 [(0,AV.sl zj l0),(1,AV.sl Sh.str l1),(5,AV.int .i64 i5)],[]⟩)
 | .h5 l0 l1 i5 i6=>(5,⟨tm 47 [(0,AV.sl zj l0),(1,AV.sl Sh.str l1),(5,AV.int .i64 i5),(6,AV.int .i64 i6)],[]⟩)
def zf5 (x0:Sem zj.sl) (x1:Sem Sh.str.sl):Tr (FL ⊕ aF):=
 Tr.to (FL.h2 x0 x1 0)
def oD:FL→Tr (FL ⊕ aF)
 | .h2 l0 l1 i5=>
  Tr.br (decide (i5 < (↑l0.length:Int))) (Tr.to (FL.h5 l0 l1 i5 0)) (Tr.re (AV.kb false) [])
 | .h5 l0 l1 i5 i6=>
  let a0:=l0.getD i5.toNat (zi zj)
  let a1:=(↑(length a0.1.2.2.2.2.1):Int)
  let a2 := !SQ l1 a0.1.1
  let a3:=getD a0.1.2.2.2.2.1 i6.toNat (zi zq)
  Tr.chk (zR i5 l0.length)
  (Tr.br (decide (i6 < a1))
   (Tr.chk (zR i5 l0.length&&(K1 l1 a0.1.1&&bif a2 then zR i5 l0.length&&(zR i6 (length a0.1.2.2.2.2.1)&&K1 l1 a3.2) else true)) (Tr.br (bif a2 then SQ l1 a3.2 else false) (Tr.re (AV.kb true) []) (Tr.to (FL.h5 l0 l1 i5 (IntKind.i64.wrap (i6+1))))))
   (Tr.to (FL.h2 l0 l1 (IntKind.i64.wrap (i5+1)))))
def mG (x0:Sem zj.sl) (x1:Sem Sh.str.sl):=aA [Sh.bool] oD 100000000 (zf5 x0 x1)
def rB (x0:Sem zj.sl) (x1:Sem Sh.str.sl):=(mG x0 x1).isSome
def uO (x0:Sem zj.sl) (x1:Sem Sh.str.sl):=o1 (mG x0 x1)
def Zr:=FT [zj.sl,Sh.str.sl] [Sh.bool] fun x=>mG x.1 x.2.1
theorem V6:FK 40 Zr:=lz.T1 (f:=Tryz.f40) (keep:=zcw) (e:=zeP)

abbrev zcx:=qm [(3,[0,1,6,7]),(10,[6,9]),(13,[6,9,10])]
inductive nz where
 | h3 (l0:List (Sem zh)) (l1:List (Sem Sh.str)) (i7:Int)
 | h3b (l0:List (Sem zh)) (l1:List (Sem Sh.str)) (i7:Int) (lh_0:List (Sem zf))
 | h10 (i9:Int)
 | h10b (i9:Int) (lh_0:List (Sem zf))
 | h13 (i9:Int) (i10:Int)
 | h13b (i9:Int) (i10:Int) (lh_0:List (Sem zf))
abbrev zeQ:nz→Nat×St
 | .h3 l0 l1 i7=>(3,⟨tm 50 [(0,AV.sl zh l0),(1,AV.sl Sh.str l1),(6,AV.nils),(7,AV.int .i64 i7)],[]⟩)
 | .h3b l0 l1 i7 lh_0=>(3,⟨tm 50 [(0,AV.sl zh l0),(1,AV.sl Sh.str l1),(6,AV.vec 0),(7,AV.int .i64 i7)],[AO.vec zf lh_0]⟩)
 | .h10 i9=>(10,⟨tm 50 [(6,AV.nils),(9,AV.int .i64 i9)],[]⟩)
 | .h10b i9 lh_0=>(10,⟨tm 50 [(6,AV.vec 0),(9,AV.int .i64 i9)],[AO.vec zf lh_0]⟩)
 | .h13 i9 i10=>(13,⟨tm 50 [(6,AV.nils),(9,AV.int .i64 i9),(10,AV.int .i64 i10)],[]⟩)
 | .h13b i9 i10 lh_0=>(13,⟨tm 50 [(6,AV.vec 0),(9,AV.int .i64 i9),(10,AV.int .i64 i10)],[AO.vec zf lh_0]⟩)
def zb8 (x0:Sem zh.sl) (x1:Sem Sh.str.sl):Tr (nz ⊕ aF):=
 Tr.to (nz.h3 x0 x1 0)
def iW:nz→Tr (nz ⊕ aF)
 | .h3 l0 l1 i7=>
  let a0:=l1.getD i7.toNat (zi Sh.str)
  let a1:=ef l0 a0
  let a2:=[a1]
  Tr.br (decide (i7 < (↑l1.length:Int)))
  (Tr.chk (zR i7 l1.length)
   (Tr.chk (dc l0 a0) (Tr.br (decide (a1 < 0)) (Tr.re (AV.tup [AV.nils,AV.int .i64 4]) []) (Tr.chk (decide (a2.length≤1073741824)) (Tr.to (nz.h3b l0 l1 (IntKind.i64.wrap (i7+1)) a2))))))
  (Tr.to (nz.h10 0))
 | .h3b l0 l1 i7 lh_0=>
  let a0:=l1.getD i7.toNat (zi Sh.str)
  let a1:=ef l0 a0
  let a2:=[a1]
  Tr.br (decide (i7 < (↑l1.length:Int)))
  (Tr.chk (zR i7 l1.length)
   (Tr.chk (dc l0 a0) (Tr.br (decide (a1 < 0)) (Tr.re (AV.tup [AV.nils,AV.int .i64 4]) []) (Tr.chk (decide (lh_0.length+a2.length≤1073741824)) (Tr.to (nz.h3b l0 l1 (IntKind.i64.wrap (i7+1)) (lh_0++a2)))))))
  (Tr.to (nz.h10b 0 lh_0))
 | .h10 i9=>
  Tr.br (decide (i9 < 0)) (Tr.to (nz.h13 i9 0)) (Tr.re (AV.tup [AV.nils,AV.int .i64 0]) [])
 | .h10b i9 lh_0=>
  Tr.br (decide (i9 < (↑lh_0.length:Int))) (Tr.to (nz.h13b i9 0 lh_0)) (Tr.re (AV.tup [AV.vec 0,AV.int .i64 0]) [AO.vec zf lh_0])
 | .h13 i9 i10=>
  Tr.br (decide (i10 < i9)) Tr.err (Tr.to (nz.h10 (IntKind.i64.wrap (i9+1))))
 | .h13b i9 i10 lh_0=>
  Tr.br (decide (i10 < i9))
  (Tr.chk (zR i9 lh_0.length)
   (Tr.chk (decide (i9.toNat < lh_0.length)) (Tr.chk (zR i10 lh_0.length) (Tr.chk (decide (i10.toNat < lh_0.length)) (Tr.br (lh_0.getD i9.toNat (zi zf)==lh_0.getD i10.toNat (zi zf)) (Tr.re (AV.tup [AV.nils,AV.int .i64 7]) []) (Tr.to (nz.h13b i9 (IntKind.i64.wrap (i10+1)) lh_0)))))))
  (Tr.to (nz.h10b (IntKind.i64.wrap (i9+1)) lh_0))
def mF (x0:Sem zh.sl) (x1:Sem Sh.str.sl):=aA [zf.sl,zf] iW 100000000 (zb8 x0 x1)
def mE (x0:Sem zh.sl) (x1:Sem Sh.str.sl):=(mF x0 x1).isSome
def pj (x0:Sem zh.sl) (x1:Sem Sh.str.sl):=o2 (mF x0 x1)
def Zs:=FT [zh.sl,Sh.str.sl] [zf.sl,zf] fun x=>mF x.1 x.2.1
theorem V7:FK 41 Zs:=lz.T1 (f:=Tryz.f41) (keep:=zcx) (e:=zeQ)

def Sg (x0:Sem Sh.expr) (x1:Sem zh.sl):Tr (Empty ⊕ aF):=
 Tr.br (ze.op x0==[]) (Tr.re (AV.int .i64 0) [])
 (Tr.chk (uR (zm x0))
  (Tr.br (!C9 (zm x0)) (Tr.re (AV.int .i64 1) []) (Tr.chk (mK (zm x0) x1) (Tr.br (bif (gQ (zm x0) x1).2==0 then bif (gQ (zm x0) x1).1 != 0 then (gQ (zm x0) x1).1 != 3 else false else false) (Tr.re (AV.int .i64 5) []) (Tr.re (AV.int .i64 (gQ (zm x0) x1).2) [])))))
def wS (x0:Sem Sh.expr) (x1:Sem zh.sl):=aA [zf] t0 100000000 (Sg x0 x1)
def pC (x0:Sem Sh.expr) (x1:Sem zh.sl):=(wS x0 x1).isSome
def uT (x0:Sem Sh.expr) (x1:Sem zh.sl):=o1 (wS x0 x1)
def Zu:=FT [Sh.expr,zh.sl] [zf] fun x=>wS x.1 x.2.1
theorem V9:FK 43 Zu:=lz.T1 (f:=Tryz.f43) (keep:=k0) (e:=e0)

def NW:=Uk.addL [(128,Tn),(40,Zr),(41,Zs),(43,Zu)]
theorem yj:zy NW:=lz.addL <| fc Q4 <| fc V6 <| fc V7 <| fc V9 jp
end
noncomputable section
abbrev zbo:List CP:=[.d .str,.d .str,.d .str,.nil,.nil,.d .str,.nil,.nil,.d .str,.d zf,.d zf,.d .str,.d .str,.nil,.d (.sl zg),.nil,.d .str,.d zf,.d zf,.d .str,.d .str,.nil,.d .str]
abbrev W8:List CP:=[.d .str,.d .str,.d .str,.nil,.nil,.d .str,.nil,.nil,.d .str,.d zf,.d zf,.d .str,.d .str,.nil,.nil,.d (.sl gy),.d .expr,.d .str]

abbrev zcN:=qm [(15,[1,3,5,12,13]),(27,[1,3,5,8,9,14,15])]
inductive xx where
 | h15 (s12:List UInt8) (i13:Int) (z0:zo nu) (z1:zo ij) (z2:zo zbo)
 | h27 (s8:TS) (b9:Sem Sh.bool) (s14:List UInt8) (i15:Int) (z0:zo nu) (z1:zo ij) (z2:zo W8)
abbrev zeZ:xx→Nat×St
 | .h15 s12 i13 z0 z1 z2=>(15,⟨tm 430 [(1,AV.ptr 0 0),(3,AV.ptr 1 0),(5,AV.ptr 2 0),(12,AV.str s12),(13,AV.int .i64 i13)],[AO.box (ch [] nu z0),AO.box (ch [] ij z1),AO.box (ch [] zbo z2)]⟩)
 | .h27 s8 b9 s14 i15 z0 z1 z2=>(27,⟨tm 430 [(1,AV.ptr 0 0),(3,AV.ptr 1 0),(5,AV.ptr 2 0),(8,AV.str s8),(9,AV.bool b9),(14,AV.str s14),(15,AV.int .i64 i15)],[AO.box (ch [] nu z0),AO.box (ch [] ij z1),AO.box (ch [] W8 z2)]⟩)
def gm (x0:Sem zk):Tr (xx ⊕ aF):=
 let a0:=zm x0.2.2.2.2.2.2.2.2.1
 let a1:=zm x0.2.2.2.2.2.2.2.2.2.2.2.1
 let a2:=(x0.1,x0.2.1,x0.2.2.1,x0.2.2.2.1,x0.2.2.2.2.1,x0.2.2.2.2.2.1,x0.2.2.2.2.2.2.1,x0.2.2.2.2.2.2.2.1,a0,x0.2.2.2.2.2.2.2.2.2.1,x0.2.2.2.2.2.2.2.2.2.2.1,a1,x0.2.2.2.2.2.2.2.2.2.2.2.2)
 let a3:=ou a2
 let a4:=AD a1 [87,72,69,82,69]
 let a5:=[68,69,76,69,84,69,32,70,82,79,77,32]++x0.2.1
 let a6:=[83,69,76,69,67,84,32,42,32,70,82,79,77,32]++x0.2.1
 let a7:=[77,73,71,82,65,84,69,32,67,79,80,89,32]++x0.2.1
 let a8:=a7++[32,70,82,79,77,32]
 let a9:=a8++x0.2.2.1
 let a10:=a9++[32,40,32]
 let a11:=EX x0.2.2.2.1
 let a12:=a10++a11.1
 let a13:=a12++[32,41]
 let a14:=AD a0 []
 let a15:=dj x0.2.2.1
 let a16:=bj x0.2.2.1
 let a17:=[77,73,71,82,65,84,69,32,74,79,73,78,32]++x0.2.1
 let a18:=a17++[32,70,82,79,77,32]
 let a19:=a18++x0.2.2.1
 let a20:=a19++[32,44,32]
 let a21:=a20++x0.2.2.2.2.2.2.2.2.2.2.2.2
 let a22:=a21++[32,79,78,32]
 let a23:=a22++x0.2.2.2.2.2.1
 let a24:=dj x0.2.2.2.2.2.2.2.2.2.2.2.2
 let a25:=bj x0.2.2.2.2.2.2.2.2.2.2.2.2
 let a26:=[77,73,71,82,65,84,69,32,71,82,79,85,80,32]++x0.2.1
 let a27:=a26++[32,70,82,79,77,32]
 let a28:=a27++x0.2.2.1
 let a29:=zR 0 (length x0.2.2.2.1)
 let a30:=a28++[32,66,89,32]
 let a31:=getD x0.2.2.2.1 (toNat 0) (zi Sh.str)
 let a32:=a30++a31
 let a33:=zR 1 (length x0.2.2.2.1)
 let a34:=a32++[32,83,85,77,32]
 let a35:=getD x0.2.2.2.1 (toNat 1) (zi Sh.str)
 let a36:=a34++a35
 let a37:=[71,82,65,78,84,32,82,69,65,68,32,79,78,32]++x0.2.1
 let a38:=a37++[32,84,79,32]
 let a39:=[71,82,65,78,84,32,87,82,73,84,69,32,79,78,32]++x0.2.1
 let a40:=a39++[32,84,79,32]
 let a41:=[82,69,86,79,75,69,32,82,69,65,68,32,79,78,32]++x0.2.1
 let a42:=a41++[32,70,82,79,77,32]
 let a43:=[82,69,86,79,75,69,32,87,82,73,84,69,32,79,78,32]++x0.2.1
 let a44:=a43++[32,70,82,79,77,32]
 Tr.chk (tp a0 [])
 (Tr.chk (tp a1 [87,72,69,82,69])
  (Tr.br (x0.1==[99,114,101,97,116,101]) (Tr.chk (pA a2) (Tr.re (AV.tup [AV.str a3.1,AV.agg [AV.str x0.1,AV.str x0.2.1,AV.str [],AV.nils,AV.sl zh x0.2.2.2.2.1,AV.str x0.2.2.2.2.2.1,AV.sl Sh.str x0.2.2.2.2.2.2.1,AV.sl (Sh.str.pr Sh.str) x0.2.2.2.2.2.2.2.1,AV.str (ze.op x0.2.2.2.2.2.2.2.2.1),AV.int .i64 (ze.v x0.2.2.2.2.2.2.2.2.1).1,
  AV.int .i64 (ze.v x0.2.2.2.2.2.2.2.2.1).2.1,AV.str (ze.v x0.2.2.2.2.2.2.2.2.1).2.2,AV.str (ze.s x0.2.2.2.2.2.2.2.2.1),AV.sl Sh.expr (ze.l x0.2.2.2.2.2.2.2.2.1),AV.nils,AV.nils,AV.str [],AV.int .i64 0,AV.int .i64 0,AV.str [],AV.str [],AV.nils,AV.str []],AV.bool a3.2]) [])) (Tr.br (x0.1==[100,114,111,112])
  (Tr.chk (decide ([68,82,79,80,32,84,65,66,76,69,32].length+length x0.2.1≤1099511627776)) (Tr.re (AV.tup [AV.str ([68,82,79,80,32,84,65,66,76,69,32]++x0.2.1),AV.agg [AV.str x0.1,AV.str x0.2.1,AV.str [],AV.nils,AV.nils,AV.str [],AV.nils,AV.nils,AV.str [],AV.int .i64 0,
  AV.int .i64 0,AV.str [],AV.str [],AV.nils,AV.nils,AV.nils,AV.str [],AV.int .i64 0,AV.int .i64 0,AV.str [],AV.str [],AV.nils,AV.str []],AV.kb true]) [])) (Tr.br (x0.1==[105,110,115,101,114,116]) (Tr.to (xx.h15 [] 0 (x0,()) ([],[],[],[],[],0,0,[],[],[],0,0,[],[],[],())
  (x0.1,x0.2.1,[],[],[],0,0,[],[],x0.2.2.2.2.2.2.2.2.2.1,[],0,0,[],[],[],()))) (Tr.br (x0.1==[117,112,100,97,116,101]) (Tr.to (xx.h27 a4.1 a4.2 [] 0 (x0,()) ([],[],[],[],[],0,0,[],[],[],0,0,[],[],[],()) (x0.1,x0.2.1,[],[],[],0,0,[],[],x0.2.2.2.2.2.2.2.2.2.2.1,x0.2.2.2.2.2.2.2.2.2.2.2.1,[],()))) (Tr.br (x0.1==[100,101,108,101,116,101])
  (Tr.chk (decide ([68,69,76,69,84,69,32,70,82,79,77,32].length+length x0.2.1≤1099511627776)) (Tr.chk (decide (length a5+length a4.1≤1099511627776)) (Tr.re (AV.tup [AV.str (a5++a4.1),AV.agg [AV.str x0.1,AV.str x0.2.1,AV.str [],AV.nils,AV.nils,AV.str [],AV.nils,AV.nils,AV.str [],AV.int .i64 0,
  AV.int .i64 0,AV.str [],AV.str [],AV.nils,AV.nils,AV.nils,AV.str (ze.op x0.2.2.2.2.2.2.2.2.2.2.2.1),AV.int .i64 (ze.v x0.2.2.2.2.2.2.2.2.2.2.2.1).1,AV.int .i64 (ze.v x0.2.2.2.2.2.2.2.2.2.2.2.1).2.1,AV.str (ze.v x0.2.2.2.2.2.2.2.2.2.2.2.1).2.2,AV.str (ze.s x0.2.2.2.2.2.2.2.2.2.2.2.1),AV.sl Sh.expr (ze.l x0.2.2.2.2.2.2.2.2.2.2.2.1),AV.str []],AV.bool a4.2]) [])))
  (Tr.br (x0.1==[115,101,108,101,99,116]) (Tr.chk (decide ([83,69,76,69,67,84,32,42,32,70,82,79,77,32].length+length x0.2.1≤1099511627776)) (Tr.chk (decide (length a6+length a4.1≤1099511627776)) (Tr.re (AV.tup [AV.str (a6++a4.1),AV.agg [AV.str x0.1,AV.str x0.2.1,AV.str [],AV.nils,AV.nils,AV.str [],AV.nils,AV.nils,AV.str [],AV.int .i64 0,
  AV.int .i64 0,AV.str [],AV.str [],AV.nils,AV.nils,AV.nils,AV.str (ze.op x0.2.2.2.2.2.2.2.2.2.2.2.1),AV.int .i64 (ze.v x0.2.2.2.2.2.2.2.2.2.2.2.1).1,AV.int .i64 (ze.v x0.2.2.2.2.2.2.2.2.2.2.2.1).2.1,AV.str (ze.v x0.2.2.2.2.2.2.2.2.2.2.2.1).2.2,AV.str (ze.s x0.2.2.2.2.2.2.2.2.2.2.2.1),AV.sl Sh.expr (ze.l x0.2.2.2.2.2.2.2.2.2.2.2.1),AV.str []],AV.bool a4.2]) [])))
  (Tr.br (x0.1==[99,111,112,121]) (Tr.chk (AE x0.2.2.2.1) (Tr.chk (decide ([77,73,71,82,65,84,69,32,67,79,80,89,32].length+length x0.2.1≤1099511627776)) (Tr.chk (decide (length a7+[32,70,82,79,77,32].length≤1099511627776)) (Tr.chk (decide (length a8+length x0.2.2.1≤1099511627776))
  (Tr.chk (decide (length a9+[32,40,32].length≤1099511627776)) (Tr.chk (decide (length a10+length a11.1≤1099511627776)) (Tr.chk (decide (length a12+[32,41].length≤1099511627776)) (Tr.chk (decide (length a13+length a14.1≤1099511627776)) (Tr.br a11.2 (Tr.br a14.2 (Tr.chk a15 (Tr.re (AV.tup [AV.str (a13++a14.1),AV.agg
  [AV.str x0.1,AV.str x0.2.1,AV.str x0.2.2.1,AV.sl Sh.str x0.2.2.2.1,AV.nils,AV.str [],AV.nils,AV.nils,AV.str (ze.op x0.2.2.2.2.2.2.2.2.1),AV.int .i64 (ze.v x0.2.2.2.2.2.2.2.2.1).1,AV.int .i64 (ze.v x0.2.2.2.2.2.2.2.2.1).2.1,AV.str (ze.v x0.2.2.2.2.2.2.2.2.1).2.2,AV.str (ze.s x0.2.2.2.2.2.2.2.2.1),
  AV.sl Sh.expr (ze.l x0.2.2.2.2.2.2.2.2.1),AV.nils,AV.nils,AV.str [],AV.int .i64 0,AV.int .i64 0,AV.str [],AV.str [],AV.nils,AV.str []],AV.bool a16]) [])) (Tr.re (AV.tup [AV.str (a13++a14.1),AV.agg [AV.str x0.1,AV.str x0.2.1,AV.str x0.2.2.1,AV.sl Sh.str x0.2.2.2.1,AV.nils,AV.str [],AV.nils,AV.nils,AV.str (ze.op x0.2.2.2.2.2.2.2.2.1),
  AV.int .i64 (ze.v x0.2.2.2.2.2.2.2.2.1).1,AV.int .i64 (ze.v x0.2.2.2.2.2.2.2.2.1).2.1,AV.str (ze.v x0.2.2.2.2.2.2.2.2.1).2.2,AV.str (ze.s x0.2.2.2.2.2.2.2.2.1),AV.sl Sh.expr (ze.l x0.2.2.2.2.2.2.2.2.1),AV.nils,AV.nils,AV.str [],AV.int .i64 0,AV.int .i64 0,AV.str [],AV.str [],AV.nils,AV.str []],AV.kb false]) [])) (Tr.re (AV.tup [AV.str (a13++a14.1),AV.agg
  [AV.str x0.1,AV.str x0.2.1,AV.str x0.2.2.1,AV.sl Sh.str x0.2.2.2.1,AV.nils,AV.str [],AV.nils,AV.nils,AV.str (ze.op x0.2.2.2.2.2.2.2.2.1),AV.int .i64 (ze.v x0.2.2.2.2.2.2.2.2.1).1,AV.int .i64 (ze.v x0.2.2.2.2.2.2.2.2.1).2.1,AV.str (ze.v x0.2.2.2.2.2.2.2.2.1).2.2,AV.str (ze.s x0.2.2.2.2.2.2.2.2.1),
  AV.sl Sh.expr (ze.l x0.2.2.2.2.2.2.2.2.1),AV.nils,AV.nils,AV.str [],AV.int .i64 0,AV.int .i64 0,AV.str [],AV.str [],AV.nils,AV.str []],AV.kb false]) [])))))))))) (Tr.br (x0.1==[106,111,105,110]) (Tr.chk (decide ([77,73,71,82,65,84,69,32,74,79,73,78,32].length+length x0.2.1≤1099511627776))
  (Tr.chk (decide (length a17+[32,70,82,79,77,32].length≤1099511627776)) (Tr.chk (decide (length a18+length x0.2.2.1≤1099511627776)) (Tr.chk (decide (length a19+[32,44,32].length≤1099511627776)) (Tr.chk (decide (length a20+length x0.2.2.2.2.2.2.2.2.2.2.2.2≤1099511627776))
  (Tr.chk (decide (length a21+[32,79,78,32].length≤1099511627776)) (Tr.chk (decide (length a22+length x0.2.2.2.2.2.1≤1099511627776)) (Tr.chk (decide (length a23+length a14.1≤1099511627776)) (Tr.br a14.2 (Tr.chk a15 (Tr.br a16 (Tr.chk a24 (Tr.br a25 (Tr.chk (dj x0.2.2.2.2.2.1) (Tr.re (AV.tup [AV.str (a23++a14.1),AV.agg
  [AV.str x0.1,AV.str x0.2.1,AV.str x0.2.2.1,AV.nils,AV.nils,AV.str x0.2.2.2.2.2.1,AV.nils,AV.nils,AV.str (ze.op x0.2.2.2.2.2.2.2.2.1),AV.int .i64 (ze.v x0.2.2.2.2.2.2.2.2.1).1,AV.int .i64 (ze.v x0.2.2.2.2.2.2.2.2.1).2.1,AV.str (ze.v x0.2.2.2.2.2.2.2.2.1).2.2,AV.str (ze.s x0.2.2.2.2.2.2.2.2.1),AV.sl Sh.expr (ze.l x0.2.2.2.2.2.2.2.2.1),AV.nils,AV.nils,AV.str [],
  AV.int .i64 0,AV.int .i64 0,AV.str [],AV.str [],AV.nils,AV.str x0.2.2.2.2.2.2.2.2.2.2.2.2],AV.bool (bj x0.2.2.2.2.2.1)]) [])) (Tr.re (AV.tup [AV.str (a23++a14.1),AV.agg [AV.str x0.1,AV.str x0.2.1,AV.str x0.2.2.1,AV.nils,AV.nils,AV.str x0.2.2.2.2.2.1,AV.nils,AV.nils,AV.str (ze.op x0.2.2.2.2.2.2.2.2.1),AV.int .i64 (ze.v x0.2.2.2.2.2.2.2.2.1).1,
  AV.int .i64 (ze.v x0.2.2.2.2.2.2.2.2.1).2.1,AV.str (ze.v x0.2.2.2.2.2.2.2.2.1).2.2,AV.str (ze.s x0.2.2.2.2.2.2.2.2.1),AV.sl Sh.expr (ze.l x0.2.2.2.2.2.2.2.2.1),AV.nils,AV.nils,AV.str [],AV.int .i64 0,AV.int .i64 0,AV.str [],AV.str [],AV.nils,AV.str x0.2.2.2.2.2.2.2.2.2.2.2.2],AV.kb false]) []))) (Tr.re (AV.tup [AV.str (a23++a14.1),AV.agg
  [AV.str x0.1,AV.str x0.2.1,AV.str x0.2.2.1,AV.nils,AV.nils,AV.str x0.2.2.2.2.2.1,AV.nils,AV.nils,AV.str (ze.op x0.2.2.2.2.2.2.2.2.1),AV.int .i64 (ze.v x0.2.2.2.2.2.2.2.2.1).1,AV.int .i64 (ze.v x0.2.2.2.2.2.2.2.2.1).2.1,AV.str (ze.v x0.2.2.2.2.2.2.2.2.1).2.2,AV.str (ze.s x0.2.2.2.2.2.2.2.2.1),AV.sl Sh.expr (ze.l x0.2.2.2.2.2.2.2.2.1),AV.nils,AV.nils,AV.str [],
  AV.int .i64 0,AV.int .i64 0,AV.str [],AV.str [],AV.nils,AV.str x0.2.2.2.2.2.2.2.2.2.2.2.2],AV.kb false]) []))) (Tr.re (AV.tup [AV.str (a23++a14.1),AV.agg [AV.str x0.1,AV.str x0.2.1,AV.str x0.2.2.1,AV.nils,AV.nils,AV.str x0.2.2.2.2.2.1,AV.nils,AV.nils,AV.str (ze.op x0.2.2.2.2.2.2.2.2.1),AV.int .i64 (ze.v x0.2.2.2.2.2.2.2.2.1).1,
  AV.int .i64 (ze.v x0.2.2.2.2.2.2.2.2.1).2.1,AV.str (ze.v x0.2.2.2.2.2.2.2.2.1).2.2,AV.str (ze.s x0.2.2.2.2.2.2.2.2.1),AV.sl Sh.expr (ze.l x0.2.2.2.2.2.2.2.2.1),AV.nils,AV.nils,AV.str [],AV.int .i64 0,AV.int .i64 0,AV.str [],AV.str [],AV.nils,AV.str x0.2.2.2.2.2.2.2.2.2.2.2.2],AV.kb false]) [])))))))))) (Tr.br (x0.1==[103,114,111,117,112])
  (Tr.br ((↑(length x0.2.2.2.1):Int) != 2) (Tr.re (AV.tup [AV.str [],AV.agg [AV.str x0.1,AV.str x0.2.1,AV.str x0.2.2.1,AV.sl Sh.str x0.2.2.2.1,AV.nils,AV.str [],AV.nils,AV.nils,AV.str (ze.op x0.2.2.2.2.2.2.2.2.1),AV.int .i64 (ze.v x0.2.2.2.2.2.2.2.2.1).1,AV.int .i64 (ze.v x0.2.2.2.2.2.2.2.2.1).2.1,
  AV.str (ze.v x0.2.2.2.2.2.2.2.2.1).2.2,AV.str (ze.s x0.2.2.2.2.2.2.2.2.1),AV.sl Sh.expr (ze.l x0.2.2.2.2.2.2.2.2.1),AV.nils,AV.nils,AV.str [],AV.int .i64 0,AV.int .i64 0,AV.str [],AV.str [],AV.nils,AV.str []],AV.kb false]) []) (Tr.chk (decide ([77,73,71,82,65,84,69,32,71,82,79,85,80,32].length+length x0.2.1≤1099511627776))
  (Tr.chk (decide (length a26+[32,70,82,79,77,32].length≤1099511627776)) (Tr.chk (decide (length a27+length x0.2.2.1≤1099511627776)) (Tr.chk (decide (length a28+[32,66,89,32].length≤1099511627776)) (Tr.chk a29 (Tr.chk (decide (length a30+length a31≤1099511627776))
  (Tr.chk (decide (length a32+[32,83,85,77,32].length≤1099511627776)) (Tr.chk a33 (Tr.chk (decide (length a34+length a35≤1099511627776)) (Tr.chk (decide (length a36+length a14.1≤1099511627776)) (Tr.br a14.2 (Tr.chk a15 (Tr.br a16 (Tr.chk a29 (Tr.chk (dj a31) (Tr.br (bj a31) (Tr.chk a33 (Tr.chk (dj a35) (Tr.re (AV.tup [AV.str (a36++a14.1),
  AV.agg [AV.str x0.1,AV.str x0.2.1,AV.str x0.2.2.1,AV.sl Sh.str x0.2.2.2.1,AV.nils,AV.str [],AV.nils,AV.nils,AV.str (ze.op x0.2.2.2.2.2.2.2.2.1),AV.int .i64 (ze.v x0.2.2.2.2.2.2.2.2.1).1,AV.int .i64 (ze.v x0.2.2.2.2.2.2.2.2.1).2.1,AV.str (ze.v x0.2.2.2.2.2.2.2.2.1).2.2,AV.str (ze.s x0.2.2.2.2.2.2.2.2.1),AV.sl Sh.expr (ze.l x0.2.2.2.2.2.2.2.2.1),AV.nils,AV.nils,
  AV.str [],AV.int .i64 0,AV.int .i64 0,AV.str [],AV.str [],AV.nils,AV.str []],AV.bool (bj a35)]) []))) (Tr.re (AV.tup [AV.str (a36++a14.1),AV.agg [AV.str x0.1,AV.str x0.2.1,AV.str x0.2.2.1,AV.sl Sh.str x0.2.2.2.1,AV.nils,AV.str [],AV.nils,AV.nils,AV.str (ze.op x0.2.2.2.2.2.2.2.2.1),AV.int .i64 (ze.v x0.2.2.2.2.2.2.2.2.1).1,
  AV.int .i64 (ze.v x0.2.2.2.2.2.2.2.2.1).2.1,AV.str (ze.v x0.2.2.2.2.2.2.2.2.1).2.2,AV.str (ze.s x0.2.2.2.2.2.2.2.2.1),AV.sl Sh.expr (ze.l x0.2.2.2.2.2.2.2.2.1),AV.nils,AV.nils,AV.str [],AV.int .i64 0,AV.int .i64 0,AV.str [],AV.str [],AV.nils,AV.str []],AV.kb false]) [])))) (Tr.re (AV.tup [AV.str (a36++a14.1),AV.agg
  [AV.str x0.1,AV.str x0.2.1,AV.str x0.2.2.1,AV.sl Sh.str x0.2.2.2.1,AV.nils,AV.str [],AV.nils,AV.nils,AV.str (ze.op x0.2.2.2.2.2.2.2.2.1),AV.int .i64 (ze.v x0.2.2.2.2.2.2.2.2.1).1,AV.int .i64 (ze.v x0.2.2.2.2.2.2.2.2.1).2.1,AV.str (ze.v x0.2.2.2.2.2.2.2.2.1).2.2,AV.str (ze.s x0.2.2.2.2.2.2.2.2.1),
  AV.sl Sh.expr (ze.l x0.2.2.2.2.2.2.2.2.1),AV.nils,AV.nils,AV.str [],AV.int .i64 0,AV.int .i64 0,AV.str [],AV.str [],AV.nils,AV.str []],AV.kb false]) []))) (Tr.re (AV.tup [AV.str (a36++a14.1),AV.agg [AV.str x0.1,AV.str x0.2.1,AV.str x0.2.2.1,AV.sl Sh.str x0.2.2.2.1,AV.nils,AV.str [],AV.nils,AV.nils,AV.str (ze.op x0.2.2.2.2.2.2.2.2.1),
  AV.int .i64 (ze.v x0.2.2.2.2.2.2.2.2.1).1,AV.int .i64 (ze.v x0.2.2.2.2.2.2.2.2.1).2.1,AV.str (ze.v x0.2.2.2.2.2.2.2.2.1).2.2,AV.str (ze.s x0.2.2.2.2.2.2.2.2.1),AV.sl Sh.expr (ze.l x0.2.2.2.2.2.2.2.2.1),AV.nils,AV.nils,AV.str [],AV.int .i64 0,AV.int .i64 0,AV.str [],AV.str [],AV.nils,AV.str []],AV.kb false]) []))))))))))))) (Tr.br (x0.1==[114,101,97,100])
  (Tr.chk (decide ([71,82,65,78,84,32,82,69,65,68,32,79,78,32].length+length x0.2.1≤1099511627776)) (Tr.chk (decide (length a37+[32,84,79,32].length≤1099511627776)) (Tr.chk (decide (length a38+length x0.2.2.2.2.2.2.2.2.2.2.2.2≤1099511627776)) (Tr.chk a24 (Tr.re (AV.tup [AV.str (a38++x0.2.2.2.2.2.2.2.2.2.2.2.2),AV.agg
  [AV.str x0.1,AV.str x0.2.1,AV.str [],AV.nils,AV.nils,AV.str [],AV.nils,AV.nils,AV.str [],AV.int .i64 0,AV.int .i64 0,AV.str [],AV.str [],AV.nils,AV.nils,AV.nils,AV.str [],AV.int .i64 0,AV.int .i64 0,AV.str [],AV.str [],AV.nils,AV.str x0.2.2.2.2.2.2.2.2.2.2.2.2],AV.bool a25]) []))))) (Tr.br (x0.1==[119,114,105,116,101])
  (Tr.chk (decide ([71,82,65,78,84,32,87,82,73,84,69,32,79,78,32].length+length x0.2.1≤1099511627776)) (Tr.chk (decide (length a39+[32,84,79,32].length≤1099511627776)) (Tr.chk (decide (length a40+length x0.2.2.2.2.2.2.2.2.2.2.2.2≤1099511627776)) (Tr.chk a24 (Tr.re (AV.tup [AV.str (a40++x0.2.2.2.2.2.2.2.2.2.2.2.2),AV.agg
  [AV.str x0.1,AV.str x0.2.1,AV.str [],AV.nils,AV.nils,AV.str [],AV.nils,AV.nils,AV.str [],AV.int .i64 0,AV.int .i64 0,AV.str [],AV.str [],AV.nils,AV.nils,AV.nils,AV.str [],AV.int .i64 0,AV.int .i64 0,AV.str [],AV.str [],AV.nils,AV.str x0.2.2.2.2.2.2.2.2.2.2.2.2],AV.bool a25]) []))))) (Tr.br (x0.1==[117,110,114,101,97,100])
  (Tr.chk (decide ([82,69,86,79,75,69,32,82,69,65,68,32,79,78,32].length+length x0.2.1≤1099511627776)) (Tr.chk (decide (length a41+[32,70,82,79,77,32].length≤1099511627776)) (Tr.chk (decide (length a42+length x0.2.2.2.2.2.2.2.2.2.2.2.2≤1099511627776)) (Tr.chk a24 (Tr.re (AV.tup [AV.str (a42++x0.2.2.2.2.2.2.2.2.2.2.2.2),AV.agg
  [AV.str x0.1,AV.str x0.2.1,AV.str [],AV.nils,AV.nils,AV.str [],AV.nils,AV.nils,AV.str [],AV.int .i64 0,AV.int .i64 0,AV.str [],AV.str [],AV.nils,AV.nils,AV.nils,AV.str [],AV.int .i64 0,AV.int .i64 0,AV.str [],AV.str [],AV.nils,AV.str x0.2.2.2.2.2.2.2.2.2.2.2.2],AV.bool a25]) []))))) (Tr.br (x0.1==[117,110,119,114,105,116,101]) (Tr.chk
  (decide ([82,69,86,79,75,69,32,87,82,73,84,69,32,79,78,32].length+length x0.2.1≤1099511627776)) (Tr.chk (decide (length a43+[32,70,82,79,77,32].length≤1099511627776)) (Tr.chk (decide (length a44+length x0.2.2.2.2.2.2.2.2.2.2.2.2≤1099511627776)) (Tr.chk a24 (Tr.re (AV.tup [AV.str (a44++x0.2.2.2.2.2.2.2.2.2.2.2.2),AV.agg
  [AV.str x0.1,AV.str x0.2.1,AV.str [],AV.nils,AV.nils,AV.str [],AV.nils,AV.nils,AV.str [],AV.int .i64 0,AV.int .i64 0,AV.str [],AV.str [],AV.nils,AV.nils,AV.nils,AV.str [],AV.int .i64 0,AV.int .i64 0,AV.str [],AV.str [],AV.nils,AV.str x0.2.2.2.2.2.2.2.2.2.2.2.2],AV.bool a25]) []))))) (Tr.re (AV.tup [AV.str [],AV.agg
  [AV.str x0.1,AV.str x0.2.1,AV.str [],AV.nils,AV.nils,AV.str [],AV.nils,AV.nils,AV.str [],AV.int .i64 0,AV.int .i64 0,AV.str [],AV.str [],AV.nils,AV.nils,AV.nils,AV.str [],AV.int .i64 0,AV.int .i64 0,AV.str [],AV.str [],AV.nils,AV.str []],AV.kb false]) [])))))))))))))))
def lg:xx→Tr (xx ⊕ aF)
 | .h15 s12 i13 z0 z1 z2=>
  let a0:=(↑(length z0.1.2.2.2.2.2.2.2.2.2.1):Int)
  let a1:=zR i13 (length z0.1.2.2.2.2.2.2.2.2.2.1)
  let a2:=getD z0.1.2.2.2.2.2.2.2.2.2.1 i13.toNat (zi zg)
  let a3:=sT a2
  let a4:=s12++[32,44,32]
  let a5:=Aj a2
  let a6:=IntKind.i64.wrap (i13+1)
  let a7:=[73,78,83,69,82,84,32,73,78,84,79,32]++z0.1.2.1
  let a8:=a7++[32,86,65,76,85,69,83,32,40,32]
  let a9:=a8++s12
  Tr.br (decide (i13 < a0))
  (Tr.chk a1
   (Tr.chk (kY a2) (Tr.br (!qy a2) (Tr.re (AV.tup [AV.str [],AV.agg [AV.str z2.1,AV.str z2.2.1,AV.str z2.2.2.1,AV.nils,AV.nils,AV.str z2.2.2.2.1,AV.nils,AV.nils,AV.str z2.2.2.2.2.1,AV.int .i64 z2.2.2.2.2.2.1,AV.int .i64 z2.2.2.2.2.2.2.1,AV.str z2.2.2.2.2.2.2.2.1,AV.str z2.2.2.2.2.2.2.2.2.1,AV.nils,AV.sl zg z2.2.2.2.2.2.2.2.2.2.1,AV.nils,
   AV.str z2.2.2.2.2.2.2.2.2.2.2.1,AV.int .i64 z2.2.2.2.2.2.2.2.2.2.2.2.1,AV.int .i64 z2.2.2.2.2.2.2.2.2.2.2.2.2.1,AV.str z2.2.2.2.2.2.2.2.2.2.2.2.2.2.1,AV.str z2.2.2.2.2.2.2.2.2.2.2.2.2.2.2.1,AV.nils,AV.str z2.2.2.2.2.2.2.2.2.2.2.2.2.2.2.2.1],AV.kb false]) []) (Tr.br (decide (i13 > 0)) (Tr.chk (decide (s12.length+[32,44,32].length≤1099511627776))
   (Tr.chk a1 (Tr.chk a3 (Tr.chk (decide (length a4+length a5≤1099511627776)) (Tr.to (xx.h15 (a4++a5) a6 z0 z1 z2)))))) (Tr.chk a1 (Tr.chk a3 (Tr.chk (decide (s12.length+length a5≤1099511627776)) (Tr.to (xx.h15 (s12++a5) a6 z0 z1 z2)))))))))
  (Tr.chk (decide ([73,78,83,69,82,84,32,73,78,84,79,32].length+length z0.1.2.1≤1099511627776))
   (Tr.chk (decide (length a7+[32,86,65,76,85,69,83,32,40,32].length≤1099511627776)) (Tr.chk (decide (length a8+s12.length≤1099511627776)) (Tr.chk (decide (length a9+[32,41].length≤1099511627776)) (Tr.br (decide (1≤a0)) (Tr.re (AV.tup [AV.str (a9++[32,41]),AV.agg
   [AV.str z2.1,AV.str z2.2.1,AV.str z2.2.2.1,AV.nils,AV.nils,AV.str z2.2.2.2.1,AV.nils,AV.nils,AV.str z2.2.2.2.2.1,AV.int .i64 z2.2.2.2.2.2.1,AV.int .i64 z2.2.2.2.2.2.2.1,AV.str z2.2.2.2.2.2.2.2.1,AV.str z2.2.2.2.2.2.2.2.2.1,AV.nils,AV.sl zg z2.2.2.2.2.2.2.2.2.2.1,AV.nils,AV.str z2.2.2.2.2.2.2.2.2.2.2.1,AV.int .i64 z2.2.2.2.2.2.2.2.2.2.2.2.1,
   AV.int .i64 z2.2.2.2.2.2.2.2.2.2.2.2.2.1,AV.str z2.2.2.2.2.2.2.2.2.2.2.2.2.2.1,AV.str z2.2.2.2.2.2.2.2.2.2.2.2.2.2.2.1,AV.nils,AV.str z2.2.2.2.2.2.2.2.2.2.2.2.2.2.2.2.1],AV.bool (decide (a0≤12))]) []) (Tr.re (AV.tup [AV.str (a9++[32,41]),AV.agg [AV.str z2.1,AV.str z2.2.1,AV.str z2.2.2.1,AV.nils,AV.nils,AV.str z2.2.2.2.1,AV.nils,AV.nils,
   AV.str z2.2.2.2.2.1,AV.int .i64 z2.2.2.2.2.2.1,AV.int .i64 z2.2.2.2.2.2.2.1,AV.str z2.2.2.2.2.2.2.2.1,AV.str z2.2.2.2.2.2.2.2.2.1,AV.nils,AV.sl zg z2.2.2.2.2.2.2.2.2.2.1,AV.nils,AV.str z2.2.2.2.2.2.2.2.2.2.2.1,AV.int .i64 z2.2.2.2.2.2.2.2.2.2.2.2.1,AV.int .i64 z2.2.2.2.2.2.2.2.2.2.2.2.2.1,AV.str z2.2.2.2.2.2.2.2.2.2.2.2.2.2.1,AV.str z2.2.2.2.2.2.2.2.2.2.2.2.2.2.2.1,
   AV.nils,AV.str z2.2.2.2.2.2.2.2.2.2.2.2.2.2.2.2.1],AV.kb false]) []))))))
 | .h27 s8 b9 s14 i15 z0 z1 z2=>
  let a0:=(↑(length z0.1.2.2.2.2.2.2.2.2.2.2.1):Int)
  let a1:=zR i15 (length z0.1.2.2.2.2.2.2.2.2.2.2.1)
  let a2:=getD z0.1.2.2.2.2.2.2.2.2.2.2.1 i15.toNat (zi gy)
  let a3 := !bj a2.1
  let a4:=zm a2.2
  let a5:=decide (length a2.1+[32,61,32].length≤1099511627776)
  let a6:=pw a4
  let a7:=a2.1++[32,61,32]
  let a8:=ot a4
  let a9:=decide (length a7+length a8≤1099511627776)
  let a10:=s14++[32,44,32]
  let a11:=a7++a8
  let a12:=IntKind.i64.wrap (i15+1)
  let a13:=[85,80,68,65,84,69,32]++z0.1.2.1
  let a14:=a13++[32,83,69,84,32]
  let a15:=a14++s14
  Tr.br (decide (i15 < a0))
  (Tr.chk (a1&&(dj a2.1&&bif a3 then true else a1&&uR a4))
   (Tr.br (bif a3 then true else !C9 a4) (Tr.re (AV.tup [AV.str [],AV.agg [AV.str z2.1,AV.str z2.2.1,AV.str z2.2.2.1,AV.nils,AV.nils,AV.str z2.2.2.2.1,AV.nils,AV.nils,AV.str z2.2.2.2.2.1,AV.int .i64 z2.2.2.2.2.2.1,AV.int .i64 z2.2.2.2.2.2.2.1,AV.str z2.2.2.2.2.2.2.2.1,AV.str z2.2.2.2.2.2.2.2.2.1,AV.nils,AV.nils,
   AV.sl (Sh.str.pr Sh.expr) z2.2.2.2.2.2.2.2.2.2.1,AV.str (ze.op z2.2.2.2.2.2.2.2.2.2.2.1),AV.int .i64 (ze.v z2.2.2.2.2.2.2.2.2.2.2.1).1,AV.int .i64 (ze.v z2.2.2.2.2.2.2.2.2.2.2.1).2.1,AV.str (ze.v z2.2.2.2.2.2.2.2.2.2.2.1).2.2,AV.str (ze.s z2.2.2.2.2.2.2.2.2.2.2.1),AV.sl Sh.expr (ze.l z2.2.2.2.2.2.2.2.2.2.2.1),AV.str z2.2.2.2.2.2.2.2.2.2.2.2.1],AV.kb false]) [])
   (Tr.br (decide (i15 > 0)) (Tr.chk (decide (s14.length+[32,44,32].length≤1099511627776)) (Tr.chk a1 (Tr.chk a5 (Tr.chk a1 (Tr.chk a6 (Tr.chk a9 (Tr.chk (decide (length a10+length a11≤1099511627776)) (Tr.to (xx.h27 s8 b9 (a10++a11) a12 z0 z1 z2))))))))) (Tr.chk a1 (Tr.chk a5 (Tr.chk a1
   (Tr.chk a6 (Tr.chk a9 (Tr.chk (decide (s14.length+length a11≤1099511627776)) (Tr.to (xx.h27 s8 b9 (s14++a11) a12 z0 z1 z2)))))))))))
  (Tr.chk (decide ([85,80,68,65,84,69,32].length+length z0.1.2.1≤1099511627776))
   (Tr.chk (decide (length a13+[32,83,69,84,32].length≤1099511627776)) (Tr.chk (decide (length a14+s14.length≤1099511627776)) (Tr.chk (decide (length a15+length s8≤1099511627776)) (Tr.br b9 (Tr.br (decide (1≤a0)) (Tr.re (AV.tup [AV.str (a15++s8),AV.agg [AV.str z2.1,AV.str z2.2.1,AV.str z2.2.2.1,AV.nils,AV.nils,AV.str z2.2.2.2.1,AV.nils,AV.nils,
   AV.str z2.2.2.2.2.1,AV.int .i64 z2.2.2.2.2.2.1,AV.int .i64 z2.2.2.2.2.2.2.1,AV.str z2.2.2.2.2.2.2.2.1,AV.str z2.2.2.2.2.2.2.2.2.1,AV.nils,AV.nils,AV.sl (Sh.str.pr Sh.expr) z2.2.2.2.2.2.2.2.2.2.1,AV.str (ze.op z2.2.2.2.2.2.2.2.2.2.2.1),AV.int .i64 (ze.v z2.2.2.2.2.2.2.2.2.2.2.1).1,AV.int .i64 (ze.v z2.2.2.2.2.2.2.2.2.2.2.1).2.1,AV.str (ze.v z2.2.2.2.2.2.2.2.2.2.2.1).2.2,
   AV.str (ze.s z2.2.2.2.2.2.2.2.2.2.2.1),AV.sl Sh.expr (ze.l z2.2.2.2.2.2.2.2.2.2.2.1),AV.str z2.2.2.2.2.2.2.2.2.2.2.2.1],AV.bool (decide (a0≤8))]) []) (Tr.re (AV.tup [AV.str (a15++s8),AV.agg [AV.str z2.1,AV.str z2.2.1,AV.str z2.2.2.1,AV.nils,AV.nils,AV.str z2.2.2.2.1,AV.nils,AV.nils,AV.str z2.2.2.2.2.1,AV.int .i64 z2.2.2.2.2.2.1,AV.int .i64 z2.2.2.2.2.2.2.1,
   AV.str z2.2.2.2.2.2.2.2.1,AV.str z2.2.2.2.2.2.2.2.2.1,AV.nils,AV.nils,AV.sl (Sh.str.pr Sh.expr) z2.2.2.2.2.2.2.2.2.2.1,AV.str (ze.op z2.2.2.2.2.2.2.2.2.2.2.1),AV.int .i64 (ze.v z2.2.2.2.2.2.2.2.2.2.2.1).1,AV.int .i64 (ze.v z2.2.2.2.2.2.2.2.2.2.2.1).2.1,AV.str (ze.v z2.2.2.2.2.2.2.2.2.2.2.1).2.2,
   AV.str (ze.s z2.2.2.2.2.2.2.2.2.2.2.1),AV.sl Sh.expr (ze.l z2.2.2.2.2.2.2.2.2.2.2.1),AV.str z2.2.2.2.2.2.2.2.2.2.2.2.1],AV.kb false]) [])) (Tr.re (AV.tup [AV.str (a15++s8),AV.agg [AV.str z2.1,AV.str z2.2.1,AV.str z2.2.2.1,AV.nils,AV.nils,AV.str z2.2.2.2.1,AV.nils,AV.nils,AV.str z2.2.2.2.2.1,AV.int .i64 z2.2.2.2.2.2.1,AV.int .i64 z2.2.2.2.2.2.2.1,
   AV.str z2.2.2.2.2.2.2.2.1,AV.str z2.2.2.2.2.2.2.2.2.1,AV.nils,AV.nils,AV.sl (Sh.str.pr Sh.expr) z2.2.2.2.2.2.2.2.2.2.1,AV.str (ze.op z2.2.2.2.2.2.2.2.2.2.2.1),AV.int .i64 (ze.v z2.2.2.2.2.2.2.2.2.2.2.1).1,AV.int .i64 (ze.v z2.2.2.2.2.2.2.2.2.2.2.1).2.1,AV.str (ze.v z2.2.2.2.2.2.2.2.2.2.2.1).2.2,AV.str (ze.s z2.2.2.2.2.2.2.2.2.2.2.1),
   AV.sl Sh.expr (ze.l z2.2.2.2.2.2.2.2.2.2.2.1),AV.str z2.2.2.2.2.2.2.2.2.2.2.2.1],AV.kb false]) []))))))
def dd (x0:Sem zk):=aA [Sh.str,zk,Sh.bool] lg 100000000 (gm x0)
def tr (x0:Sem zk):=(dd x0).isSome
def wY (x0:Sem zk):=o3 (dd x0)
def ZP:=FT [zk] [Sh.str,zk,Sh.bool] fun x=>dd x.1
theorem Wx:FK 78 ZP:=yj.T1 (f:=Tryz.f78) (keep:=zcN) (e:=zeZ)

def Ul:=NW.add 78 ZP
theorem CB:zy Ul:=yj.add Wx
end

noncomputable def XE (x0:Sem zk):Tr (Empty ⊕ aF):=
 let a0:=(x0.1,x0.2.1,x0.2.2.1,x0.2.2.2.1,x0.2.2.2.2.1,x0.2.2.2.2.2.1,x0.2.2.2.2.2.2.1,x0.2.2.2.2.2.2.2.1,zm x0.2.2.2.2.2.2.2.2.1,x0.2.2.2.2.2.2.2.2.2.1,x0.2.2.2.2.2.2.2.2.2.2.1,zm x0.2.2.2.2.2.2.2.2.2.2.2.1,x0.2.2.2.2.2.2.2.2.2.2.2.2)
 let a1:=wY a0
 let a2 := !a1.2.2
 let a3 := !bj x0.2.1
 let a4:=(a1.2.1.1,a1.2.1.2.1,a1.2.1.2.2.1,a1.2.1.2.2.2.1,a1.2.1.2.2.2.2.1,a1.2.1.2.2.2.2.2.1,a1.2.1.2.2.2.2.2.2.1,a1.2.1.2.2.2.2.2.2.2.1,zm a1.2.1.2.2.2.2.2.2.2.2.1,a1.2.1.2.2.2.2.2.2.2.2.2.1,a1.2.1.2.2.2.2.2.2.2.2.2.2.1,zm a1.2.1.2.2.2.2.2.2.2.2.2.2.2.1,a1.2.1.2.2.2.2.2.2.2.2.2.2.2.2)
 let a5:=vZ a1.1
 Tr.chk (tr a0)
 (Tr.chk (bif a2 then true else dj x0.2.1&&bif a3 then true else wW a4 a0)
  (Tr.br (bif a2 then true else bif a3 then true else !eJ a4 a0) (Tr.re (AV.tup [AV.str [],AV.kb false]) []) (Tr.chk (ET a1.1) (Tr.br (!a5.2) (Tr.re (AV.tup [AV.str [],AV.kb false]) []) (Tr.re (AV.tup [AV.str a1.1,AV.kb true]) [])))))
noncomputable def mP (x0:Sem zk):=aA [Sh.str,Sh.bool] t0 100000000 (XE x0)
noncomputable def gT (x0:Sem zk):=(mP x0).isSome
noncomputable def ke (x0:Sem zk):=o2 (mP x0)
noncomputable def Zq:=FT [zk] [Sh.str,Sh.bool] fun x=>mP x.1
theorem V5:FK 39 Zq:=CB.T1 (f:=Tryz.f39) (keep:=k0) (e:=e0)

noncomputable def Gz:=Ul.add 39 Zq
theorem CC:zy Gz:=CB.add V5
open Go

theorem iL.cells {C:dl} {w:World} {U:Nat→Prop} {ρ:Nat→Option Value} {hp:Nat→AO} {k:Nat} {cs cs':List AV} (hH:iL C w U ρ hp) (hk:hp k=.box cs)
  (hr:∀ vals,dh w U ρ cs vals→dh w U ρ cs' vals):iL C w U ρ (fun j=>if j=k then .box cs' else hp j):=by
 have hown:∀ id b,ag ρ id (if id=k then .box cs' else hp id) b→ag ρ id (hp id) b:=by
  intro id b ho
  by_cases hid:id=k
  ·subst hid
   rw [if_pos rfl] at ho
   rw [hk]
   obtain ⟨_,v,hv,hb⟩:=ho
   exact ⟨rfl,v,hv,hb⟩
  ·rw [if_neg hid] at ho; exact ho
 refine ⟨fun id=>?_,fun id1 id2 b o1 o2=>hH.inj id1 id2 b (hown _ _ o1) (hown _ _ o2),fun id b o=>hH.blk id b (hown _ _ o)⟩
 by_cases hid:id=k
 ·subst hid
  have h0:=hH.ob id
  rw [hk] at h0
  obtain ⟨b,T,vals,h1,h2,h3,h4,h5⟩:=h0
  simp only [if_true]
  exact ⟨b,T,vals,h1,h2,h3,hr _ h4,h5⟩
 ·simp only [if_neg hid]
  exact hH.ob id

def bT (ps qs:List CP) (y:zo ps) (z:zo qs):List AO:=.box (eb 2 ps y)::.box (eb (2+aR ps) qs z)::(fI ps y++fI qs z)

theorem nF (ps qs:List CP) (y:zo ps) (z:zo qs):(bT ps qs y z).length=aR ps+aR qs+2:=by
 simp [bT,bH]

theorem iL.box2 {C:dl} {w:World} {U:Nat→Prop} {ρ:Nat→Option Value} {cs ds:List AV} {os:List AO} {ps qs:List CP} {y:zo ps} {z:zo qs} (hH:iL C w U ρ (fun j=>((AO.box cs::AO.box ds::os).getD j .dead))) (hl:os.length=aR ps+aR qs)
  (hm:cg (jc (.box cs::.box ds::os)) 2 ps cs=some y) (hm2:cg (jc (.box cs::.box ds::os)) (2+aR ps) qs ds=some z):iL C w U ρ (fun j=>(bT ps qs y z).getD j .dead):=by
 have h1:=hH.cells (k:=0) (cs:=cs) (cs':=eb 2 ps y) rfl (fun vals h=>(fa ps 2 cs y vals hm h).1)
 have h2:=h1.cells (k:=1) (cs:=ds) (cs':=eb (2+aR ps) qs z) rfl (fun vals h=>(fa qs _ ds z vals hm2 h).1)
 obtain ⟨b0,T0,v0,_,_,_,r0,_⟩:=hH.ob 0
 obtain ⟨b1,T1,v1,_,_,_,r1,_⟩:=hH.ob 1
 have k1:=(fa ps 2 cs y v0.toList hm r0).2
 have k2:=(fa qs _ ds z v1.toList hm2 r1).2
 have e:(fun j=>(bT ps qs y z).getD j .dead)=fun j=>if j=1 then .box (eb (2+aR ps) qs z) else if j=0 then .box (eb 2 ps y) else (AO.box cs::AO.box ds::os).getD j .dead:=by
  funext j
  match j with
  | 0=>rfl
  | 1=>rfl
  | j+2=>
   rw [if_neg (by omega),if_neg (by omega)]
   simp only [bT,xC]
   by_cases hj:j < aR ps
   ·have hj':j < (fI ps y).length:=by rw [bH]; exact hj
    have:=k1 j _ (zP hj')
    simp only [jc,qc 2 j,xC] at this
    rw [this,aP,kv hj',zP hj']
    rfl
   ·by_cases hj2:j < aR ps+aR qs
    ·have hj':j - aR ps < (fI qs z).length:=by rw [bH]; omega
     have:=k2 (j - aR ps) _ (zP hj')
     rw [show 2+aR ps+(j - aR ps)=j+2 by omega] at this
     simp only [jc,xC] at this
     rw [this,aP,ml (by rw [bH]; omega),bH,zP hj']
     rfl
    ·rw [aP,aP,dO (by simp [bH]; omega),dO (by omega)]
 rw [e]
 exact h2

def wv (ps qs:List CP) (outs:List Sh) (r:AV) (h:List AO):Option (zC (outs.map some)×zo ps×zo qs):=match h with
 | .box cs::.box ds::os=>if os.length=aR ps+aR qs then match az [] outs r,cg (jc (.box cs::.box ds::os)) 2 ps cs,cg (jc (.box cs::.box ds::os)) (2+aR ps) qs ds with
   | some a,some y,some z=>some (a,y,z)
   | _,_,_=>none
  else none
 | _=>none

def T7 (ps qs:List CP) (ks outs:List Sh) (ps' qs':List CP) (c:zo ps→zo qs→zC (ks.map some)→Bool) (g:zo ps→zo qs→zC (ks.map some)→zC (outs.map some)×zo ps'×zo qs'):ie (none::none::ks.map some):=fun x h=>match x.1,x.2.1,h with
 | .ptr 0 0,.ptr 1 0,.box cs::.box ds::os=>if os.length=aR ps+aR qs then match cg (jc (.box cs::.box ds::os)) 2 ps cs,cg (jc (.box cs::.box ds::os)) (2+aR ps) qs ds with
   | some y,some z=>.chk (c y z x.2.2) (.ok (v7 outs (g y z x.2.2).1,bT ps' qs' (g y z x.2.2).2.1 (g y z x.2.2).2.2))
   | _,_=>.err
  else .err
 | _,_,_=>.err

def Nv (ps qs:List CP) (ks outs:List Sh) (ps' qs':List CP) (c:zo ps→zo qs→zC (ks.map some)→Bool) (g:zo ps→zo qs→zC (ks.map some)→zC (outs.map some)×zo ps'×zo qs'):zT:=bh (none::none::ks.map some) (T7 ps qs ks outs ps' qs' c g)

theorem M7 {P:Program} {gl:Nat→AV} {E:bS} {k:FuncId} {f:Func} {ps qs:List CP} {ks outs:List Sh} {ps' qs':List CP} {c:zo ps→zo qs→zC (ks.map some)→Bool} {g:zo ps→zo qs→zC (ks.map some)→zC (outs.map some)×zo ps'×zo qs'} (hf:zK E.P k f (ks.length+2))
  (h:∀ y z x,c y z x=true→∀ C:dl,(∀ id,aR ps+aR qs+2≤id→C.ρ0 id=none)→Reach E C k (bv f) (bc f.ntmps (.ptr 0 0::.ptr 1 0::kF (ks.map some) x) (bT ps qs y z)) (fun r h=>wv ps' qs' outs r h=some (g y z x))) (qp:E.P=P:=by rfl) (qg:E.gl=gl:=by rfl):
  nl P gl k (Nv ps qs ks outs ps' qs' c g):=by
 subst qp qg
 refine dD (by simpa using hf) fun x h0 res hx C hC=>?_
 obtain ⟨x0,x1,x⟩:=x
 unfold T7 at hx
 simp only at hx
 split at hx
 ·rename_i cs ds os
  split at hx
  ·rename_i hos
   split at hx
   ·rename_i y z hy hz
    simp only [Tr.val] at hx
    split at hx
    ·rename_i hc
     simp only [bz] at hx
     subst hx
     have hR:=h y z x hc C (fun id hid=>hC id (by simpa [hos] using hid))
     intro b cs' a w U ρ h1 h2 hcn hW
     have hH:iL C w U ρ (fun j=>((AO.box cs::AO.box ds::os).getD j .dead)):=hcn.hp
     have hcn':Cn C (bc f.ntmps (.ptr 0 0::.ptr 1 0::kF (ks.map some) x) (bT ps qs y z)) a w U ρ:=
      ⟨hcn.tm,hH.box2 hos hy hz,fun id hid=>hcn.new id (by have hid:(bT ps qs y z).length≤id:=hid; rw [nF] at hid; simpa [bc,hos] using hid),hcn.df,hcn.r0⟩
     obtain ⟨e,w',fr,⟨v,r,h',U',ρ',he,hq,hrv,hH',hnew,hr0,hWd⟩,hcm,hf',hl⟩:=hR b cs' a w U ρ h1 h2 hcn' hW
     unfold wv at hq
     split at hq
     ·rename_i cs2 ds2 os2
      split at hq
      ·rename_i hos2
       split at hq
       ·rename_i a' y' z' ha' hy' hz'
        simp only [bz] at hq
        refine ⟨e,w',fr,⟨v,_,_,U',ρ',he,by rw [← hq],Dk ha' hrv,hH'.box2 hos2 hy' hz',fun id hid=>hnew id (by rw [nF] at hid; simpa [hos2] using hid),hr0,hWd⟩,hcm,hf',hl⟩
       ·cases hq
      ·cases hq
     ·cases hq
    ·simp at hx
   ·simp at hx
  ·simp at hx
 ·simp at hx

def KK {σ:Type} (outs:List Sh) (ps' qs':List CP) (t:σ→Tr (σ ⊕ aF)) (n:Nat) (i:Tr (σ ⊕ aF)):Option (zC (outs.map some)×zo ps'×zo qs'):=(cL t n i).bind fun r=>wv ps' qs' outs r.1 r.2

theorem WK {P:Program} {gl:Nat→AV} {σ:Type} {E:bS} {k:FuncId} {f:Func} {ps qs:List CP} {ks outs:List Sh} {ps' qs':List CP} {keep:Nat→aJ} {gas n:Nat} {e:σ→Nat×St} {t:σ→Tr (σ ⊕ aF)} {i:zo ps→zo qs→zC (ks.map some)→Tr (σ ⊕ aF)} {c:zo ps→zo qs→zC (ks.map some)→Bool} {g:zo ps→zo qs→zC (ks.map some)→zC (outs.map some)×zo ps'×zo qs'}
  (hE:zy E) (hf:zK E.P k f (ks.length+2)) (hgo:∀ y z x,run E (aR ps+aR qs+2) keep f.results.toList gas (bv f) (bc f.ntmps (.ptr 0 0::.ptr 1 0::kF (ks.map some) x) (bT ps qs y z))=(i y z x).map (lf f e))
  (hon:∀ s,run E (aR ps+aR qs+2) keep f.results.toList gas (zI f (e s).1) (e s).2=(t s).map (lf f e))
  (hc:∀ y z x,c y z x=(KK outs ps' qs' t n (i y z x)).isSome) (hg:∀ y z x,g y z x=(KK outs ps' qs' t n (i y z x)).getD (cA outs,fH ps',fH qs')) (qp:E.P=P:=by rfl) (qg:E.gl=gl:=by rfl):nl P gl k (Nv ps qs ks outs ps' qs' c g):=by
 subst qp qg
 refine M7 hf fun y z x hcx C hC=>?_
 rw [hc,Option.isSome_iff_exists] at hcx
 obtain ⟨u,hu⟩:=hcx
 rw [hg,hu]
 unfold KK at hu
 rw [fO] at hu
 obtain ⟨r,h1,h2⟩:=hu
 exact sB (Q:=fun r h=>wv ps' qs' outs r h=some u) hE hf hC (n+1) _ _ r (by rw [rq hon (hgo y z x)]; exact h1) h2

end Cad
