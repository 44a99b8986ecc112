/- The document's values; names' places; expressions, counted, held against one another. The document's reader: parts, passing. The document's reader: names. The document's values that are known; expressions' forms and types; the same tables. The document's order, logic; expressions that may be; the same plans. The document's texts of numbers. The document's texts of values. The document's texts of expressions. The document's reader: tokens. The document's reader: cut; names. The document's writer: creates; columns, sources. The document's writer. The document's statements: texts. The document's reader: numbers. -/
import Derived.Test.YtiefilkilbdpgaaGreatDoorL14
namespace Cad
open Go Go.Proofs
open Int (toNat)
open List (getD)
open List (length)
noncomputable section
set_option maxHeartbeats 4000000

abbrev XC:=jL [(2,[1,3])]
inductive tV where
 | h2 (i3:Int) (z0:zu [CP.d zf])
abbrev zcH:tV→Nat×St
 | .h2 i3 z0=>(2,⟨tm 66 [(1,AV.ptr 0 0),(3,AV.int .i64 i3)],[AO.box (bh [] [CP.d zf] z0)]⟩)
def zds (x0:Sem zf):Tr (tV ⊕ zV):=
 Tr.to (tV.h2 0 (x0,()))
def zfZ:tV→Tr (tV ⊕ zV)
 | .h2 i3 z0=>
  let a0:=(↑(length z0.1.2.2):Int)
  let a1:=zF i3 (length z0.1.2.2)
  let a2:=(↑(getD z0.1.2.2 i3.toNat 0).toNat:Int)
  let a3:=decide (a2 < 32)
  let a4:=z0.1.2.1==0
  let a5:=z0.1.2.2==[]
  Tr.br (decide (i3 < a0))
  (Tr.chk (a1&&bif a3 then true else a1)
   (Tr.br (bif a3 then true else decide (a2 > 126)) (Tr.re (AV.kb false) []) (Tr.to (tV.h2 (IntKind.i64.wrap (i3+1)) z0))))
  (Tr.br (z0.1.1==0) (Tr.re (AV.bool (bif a4 then a5 else false)) [])
   (Tr.br (z0.1.1==1) (Tr.re (AV.bool a5) []) (Tr.br (z0.1.1==2) (Tr.re (AV.bool (bif a4 then decide (a0≤40) else false)) []) (Tr.br (z0.1.1==3) (Tr.re (AV.bool (bif a4 then a5 else bif z0.1.2.1==1 then a5 else false)) []) (Tr.re (AV.kb false) [])))))
def GF (x0:Sem zf):=zT [Sh.bool] zfZ 100000000 (zds x0)
def mB (x0:Sem zf):=(GF x0).isSome
def wB (x0:Sem zf):=o1 (GF x0)
def RU:=FT [zf] [Sh.bool] fun x=>GF x.1
theorem O2:FK 121 RU:=gy.T1 (f:=Tryz.f121) (keep:=XC) (e:=zcH)

def zdF (x0:Sem Sh.bool):Tr (Empty ⊕ zV):=
 Tr.br x0 (Tr.re (AV.agg [AV.int .i64 3,AV.int .i64 1,AV.str []]) []) (Tr.re (AV.agg [AV.int .i64 3,AV.int .i64 0,AV.str []]) [])
def wF (x0:Sem Sh.bool):=zT [zf] t0 100000000 (zdF x0)
def kv (x0:Sem Sh.bool):=(wF x0).isSome
def aM (x0:Sem Sh.bool):=o1 (wF x0)
def Ss:=FT [Sh.bool] [zf] fun x=>wF x.1
theorem Pz:FK 188 Ss:=gy.T1 (f:=Tryz.f188) (keep:=k0) (e:=e0)

abbrev MW:Nat→zY:=fun _=>{ }
theorem Ye:zA md.P 276 Tryz.f276 1:=aL (by kernel_rfl)
def Mp (x0:TS):Tr (Empty ⊕ zV):=
 Tr.re
 (AV.bool
  (bif x0==[97,110,100] then true
  else bif x0==[111,114] then true else bif x0==[61] then true else bif x0==[60] then true else bif x0==[43] then true else x0==[45]))
 []
theorem Xd (x0:TS):rn md 0 MW Tryz.f276 [zz Sh.str x0] []=(Mp x0).map (lf Tryz.f276 e0):=by kernel_rfl
def N7 (x0:TS):Option (zx (List.map some [Sh.bool])):=zT [Sh.bool] t0 100000000 (Mp x0)
def N6 (x0:TS):Bool:=(N7 x0).isSome
def Us (x0:TS):Sem Sh.bool:=(fun r:zx (List.map some [Sh.bool])=>r.1) ((N7 x0).getD (bF [Sh.bool]))
def SH:zD:=zC [Sh.str] [Sh.bool] (fun x=>N6 x.1) fun x=>(Us x.1,())
theorem PN:FK 276 SH:=g6 (ks:=[Sh.str]) (outs:=[Sh.bool]) (keep:=MW) (gas:=400) (n:=100000000) (e:=e0) (t:=t0) (i:=fun x=>Mp x.1) gy Ye (fun x=>Xd x.1) (KG _ _ _ _ _) (fun _=>by kernel_rfl) (fun _=>by kernel_rfl)

abbrev M2:Nat→zY:=fun j=>if j=2 then { slots:=[0,1,5] } else { }
inductive Ba where
 | h2 (l0:LC) (s1:TS) (i5:Int)
abbrev Lm:Ba→Nat×St
 | .h2 l0 s1 i5=>(2,⟨tm 20 [(0,AV.sl zi l0),(1,AV.str s1),(5,AV.int .i64 i5)],[]⟩)
theorem zeX:zA md.P 119 Tryz.f119 2:=aL (by kernel_rfl)
def Xr (x0:Sem zi.sl) (x1:TS):Tr (Ba ⊕ zV):=
 Tr.to (Ba.h2 x0 x1 0)
def RC (l0:LC) (s1:TS) (i5:Int) (a0:Sem zi):Tr (Ba ⊕ zV):=
 Tr.br (decide (i5 < (↑l0.length:Int)))
 (Tr.chk (zF i5 l0.length) (Tr.br (a0.1==s1) (Tr.re (AV.int .i64 i5) []) (Tr.to (Ba.h2 l0 s1 (IntKind.i64.wrap (i5+1))))))
 (Tr.re (AV.int .i64 (-1)) [])
def Y1 (l0:LC) (s1:TS) (i5:Int):Tr (Ba ⊕ zV):=
 let a0:=l0.getD i5.toNat (zj zi)
 RC l0 s1 i5 a0
theorem zc9 (x0:Sem zi.sl) (x1:TS):rn md 0 M2 Tryz.f119 [zz zi.sl x0,zz Sh.str x1] []=(Xr x0 x1).map (lf Tryz.f119 Lm):=by kernel_rfl
def Y0:Ba→Tr (Ba ⊕ zV)
 | .h2 l0 s1 i5=>Y1 l0 s1 i5
theorem zfC:∀ s,run md 0 M2 (Func.results Tryz.f119).toList 400 (zy Tryz.f119 (Lm s).1) (Lm s).2=(Y0 s).map (lf Tryz.f119 Lm)
 | .h2 l0 s1 i5=>by kernel_rfl
def EF (x0:Sem zi.sl) (x1:TS):Option (zx (List.map some [zg])):=zT [zg] Y0 100000000 (Xr x0 x1)
def p0 (x0:Sem zi.sl) (x1:TS):Bool:=(EF x0 x1).isSome
def IN (x0:Sem zi.sl) (x1:TS):Sem zg:=(fun r:zx (List.map some [zg])=>r.1) ((EF x0 x1).getD (bF [zg]))
def zad:zD:=zC [zi.sl,Sh.str] [zg] (fun x=>p0 x.1 x.2.1) fun x=>(IN x.1 x.2.1,())
theorem VH:FK 119 zad:=g6 (ks:=[zi.sl,Sh.str]) (outs:=[zg]) (keep:=M2) (gas:=400) (n:=100000000) (e:=Lm) (t:=Y0) (i:=fun x=>Xr x.1 x.2.1) gy zeX (fun x=>zc9 x.1 x.2.1) zfC (fun _=>by kernel_rfl) (fun _=>by kernel_rfl)

def DJ (g:Sem Sh.expr→Sem Sh.expr→Sem Sh.bool) (c:Sem Sh.expr→Sem Sh.expr→Bool):bq:=md.add 103 (zC [Sh.expr,Sh.expr] [Sh.bool] (fun x=>c x.1 x.2.1) fun x=>(g x.1 x.2.1,()))
theorem JG {g:Sem Sh.expr→Sem Sh.expr→Sem Sh.bool} {c:Sem Sh.expr→Sem Sh.expr→Bool} (hg:FK 103 (zC [Sh.expr,Sh.expr] [Sh.bool] (fun x=>c x.1 x.2.1) fun x=>(g x.1 x.2.1,()))):zm (DJ g c):=gy.add hg
abbrev M4:Nat→zY:=fun j=>if j=4 then { slots:=[2,3,5] } else { }
inductive Bd where
 | h4 (i5:Int) (z0:zu [CP.d Sh.expr]) (z1:zu [CP.d Sh.expr])
abbrev Lq:Bd→Nat×St
 | .h4 i5 z0 z1=>(4,⟨tm 53 [(2,AV.ptr 0 0),(3,AV.ptr 1 0),(5,AV.int .i64 i5)],[AO.box (bh [] [CP.d Sh.expr] z0),AO.box (bh [] [CP.d Sh.expr] z1)]⟩)
theorem zfk (g:Sem Sh.expr→Sem Sh.expr→Sem Sh.bool) (c:Sem Sh.expr→Sem Sh.expr→Bool):zA (DJ g c).P 103 Tryz.f103 2:=aL (by kernel_rfl)
def JZ (_:Sem Sh.expr→Sem Sh.expr→Sem Sh.bool) (_:Sem Sh.expr→Sem Sh.expr→Bool) (x0:Sem Sh.expr) (x1:Sem Sh.expr):Tr (Bd ⊕ zV):=
 Tr.br
 (bif !ze.op x0==ze.op x1 then true
 else
  bif !((ze.v x0).1==(ze.v x1).1&&((ze.v x0).2.1==(ze.v x1).2.1&&((ze.v x0).2.2==(ze.v x1).2.2&&true))) then true
  else bif !ze.s x0==ze.s x1 then true else (↑(ze.l x0).length:Int) != (↑(ze.l x1).length:Int))
 (Tr.re (AV.kb false) []) (Tr.to (Bd.h4 0 (x0,()) (x1,())))
def CU (g:Sem Sh.expr→Sem Sh.expr→Sem Sh.bool) (c:Sem Sh.expr→Sem Sh.expr→Bool) (i5:Int) (z0:zu [CP.d Sh.expr]) (z1:zu [CP.d Sh.expr]) (a0:Int) (a1:ze) (a2:ze):Tr (Bd ⊕ zV):=
 Tr.br (decide (i5 < a0))
 (Tr.chk (zF i5 (ze.l z0.1).length)
  (Tr.chk (zF i5 (ze.l z1.1).length) (Tr.chk (c a1 a2) (Tr.br (!g a1 a2) (Tr.re (AV.kb false) []) (Tr.to (Bd.h4 (IntKind.i64.wrap (i5+1)) z0 z1))))))
 (Tr.re (AV.kb true) [])
def Hc (g:Sem Sh.expr→Sem Sh.expr→Sem Sh.bool) (c:Sem Sh.expr→Sem Sh.expr→Bool) (i5:Int) (z0:zu [CP.d Sh.expr]) (z1:zu [CP.d Sh.expr]):Tr (Bd ⊕ zV):=
 let a0:=(↑(ze.l z0.1).length:Int)
 let a1:=zB ((ze.l z0.1).getD i5.toNat (zj Sh.expr))
 let a2:=zB ((ze.l z1.1).getD i5.toNat (zj Sh.expr))
 CU g c i5 z0 z1 a0 a1 a2
theorem zdj (g:Sem Sh.expr→Sem Sh.expr→Sem Sh.bool) (c:Sem Sh.expr→Sem Sh.expr→Bool) (x0:Sem Sh.expr) (x1:Sem Sh.expr):rn (DJ g c) 0 M4 Tryz.f103 [zz Sh.expr x0,zz Sh.expr x1] []=(JZ g c x0 x1).map (lf Tryz.f103 Lq):=by kernel_rfl
def CT (g:Sem Sh.expr→Sem Sh.expr→Sem Sh.bool) (c:Sem Sh.expr→Sem Sh.expr→Bool):Bd→Tr (Bd ⊕ zV)
 | .h4 i5 z0 z1=>Hc g c i5 z0 z1
theorem zfK (g:Sem Sh.expr→Sem Sh.expr→Sem Sh.bool) (c:Sem Sh.expr→Sem Sh.expr→Bool):∀ s,run (DJ g c) 0 M4 (Func.results Tryz.f103).toList 400 (zy Tryz.f103 (Lq s).1) (Lq s).2=(CT g c s).map (lf Tryz.f103 Lq)
 | .h4 i5 z0 z1=>by kernel_rfl
def eO (o:Option (zx (List.map some [Sh.bool]))):Sem Sh.bool:=(fun r:zx (List.map some [Sh.bool])=>r.1) (o.getD (bF [Sh.bool]))
def IF (g:Sem Sh.expr→Sem Sh.expr→Sem Sh.bool) (c:Sem Sh.expr→Sem Sh.expr→Bool) (x0:Sem Sh.expr) (x1:Sem Sh.expr):Option (zx (List.map some [Sh.bool])):=zT [Sh.bool] (CT g c) 3000000000 (JZ g c x0 x1)
def bf:Nat→Sem Sh.expr→Sem Sh.expr→Option (zx (List.map some [Sh.bool]))
 | 0=>fun _ _=>none
 | n+1=>IF (fun x0 x1=>eO (bf n x0 x1)) fun x0 x1=>(bf n x0 x1).isSome
theorem Xx:zA md.P 103 Tryz.f103 2:=aL (by kernel_rfl)
theorem Hn:∀ n,FK 103 (zC [Sh.expr,Sh.expr] [Sh.bool] (fun x=>(bf n x.1 x.2.1).isSome) fun x=>(eO (bf n x.1 x.2.1),()))
 | 0=>cQ ⟨Tryz.f103,Xx.1,Xx.2.1,Xx.2.2.1⟩ (fun _=>rfl)
 | n+1=>g6 (E:=DJ (fun x0 x1=>eO (bf n x0 x1)) (fun x0 x1=>(bf n x0 x1).isSome)) (ks:=[Sh.expr,Sh.expr]) (outs:=[Sh.bool]) (keep:=M4) (gas:=400) (n:=3000000000) (e:=Lq) (t:=CT (fun x0 x1=>eO (bf n x0 x1)) (fun x0 x1=>(bf n x0 x1).isSome)) (i:=fun x=>JZ (fun x0 x1=>eO (bf n x0 x1)) (fun x0 x1=>(bf n x0 x1).isSome) x.1 x.2.1) (JG (Hn n)) (zfk _ _) (fun x=>zdj _ _ x.1 x.2.1) (zfK _ _) (fun _=>by kernel_rfl) (fun _=>by kernel_rfl)
def Ch (x0:Sem Sh.expr) (x1:Sem Sh.expr):Option (zx (List.map some [Sh.bool])):=bf 16 x0 x1
def fU (x0:Sem Sh.expr) (x1:Sem Sh.expr):Bool:=(Ch x0 x1).isSome
def fT (x0:Sem Sh.expr) (x1:Sem Sh.expr):Sem Sh.bool:=eO (Ch x0 x1)
def zaz:zD:=zC [Sh.expr,Sh.expr] [Sh.bool] (fun x=>fU x.1 x.2.1) fun x=>(fT x.1 x.2.1,())
theorem V6:FK 103 zaz:=Hn 16

def uV (g:Sem Sh.expr→Sem zg) (c:Sem Sh.expr→Bool):bq:=md.add 245 (zC [Sh.expr] [zg] (fun x=>c x.1) fun x=>(g x.1,()))
theorem FM {g:Sem Sh.expr→Sem zg} {c:Sem Sh.expr→Bool} (hg:FK 245 (zC [Sh.expr] [zg] (fun x=>c x.1) fun x=>(g x.1,()))):zm (uV g c):=gy.add hg
abbrev Gp:Nat→zY:=fun j=>if j=3 then { slots:=[1,3,4] } else { }
inductive o9 where
 | h3 (i3:Int) (i4:Int) (z0:zu [CP.d Sh.expr])
abbrev DA:o9→Nat×St
 | .h3 i3 i4 z0=>(3,⟨tm 21 [(1,AV.ptr 0 0),(3,AV.int .i64 i3),(4,AV.int .i64 i4)],[AO.box (bh [] [CP.d Sh.expr] z0)]⟩)
theorem Yd (g:Sem Sh.expr→Sem zg) (c:Sem Sh.expr→Bool):zA (uV g c).P 245 Tryz.f245 1:=aL (by kernel_rfl)
def Mo (_:Sem Sh.expr→Sem zg) (_:Sem Sh.expr→Bool) (x0:Sem Sh.expr):Tr (o9 ⊕ zV):=
 Tr.to (o9.h3 1 0 (x0,()))
def OK (g:Sem Sh.expr→Sem zg) (c:Sem Sh.expr→Bool) (i3:Int) (i4:Int) (z0:zu [CP.d Sh.expr]) (a0:Int) (a1:ze):Tr (o9 ⊕ zV):=
 Tr.br (decide (i4 < a0))
 (Tr.chk (zF i4 (ze.l z0.1).length) (Tr.chk (c a1) (Tr.to (o9.h3 (IntKind.i64.wrap (i3+g a1)) (IntKind.i64.wrap (i4+1)) z0))))
 (Tr.re (AV.int .i64 i3) [])
def RA (g:Sem Sh.expr→Sem zg) (c:Sem Sh.expr→Bool) (i3:Int) (i4:Int) (z0:zu [CP.d Sh.expr]):Tr (o9 ⊕ zV):=
 let a0:=(↑(ze.l z0.1).length:Int)
 let a1:=zB ((ze.l z0.1).getD i4.toNat (zj Sh.expr))
 OK g c i3 i4 z0 a0 a1
theorem Xa (g:Sem Sh.expr→Sem zg) (c:Sem Sh.expr→Bool) (x0:Sem Sh.expr):rn (uV g c) 0 Gp Tryz.f245 [zz Sh.expr x0] []=(Mo g c x0).map (lf Tryz.f245 DA):=by kernel_rfl
def Jb (g:Sem Sh.expr→Sem zg) (c:Sem Sh.expr→Bool):o9→Tr (o9 ⊕ zV)
 | .h3 i3 i4 z0=>RA g c i3 i4 z0
theorem Yp (g:Sem Sh.expr→Sem zg) (c:Sem Sh.expr→Bool):∀ s,run (uV g c) 0 Gp (Func.results Tryz.f245).toList 400 (zy Tryz.f245 (DA s).1) (DA s).2=(Jb g c s).map (lf Tryz.f245 DA)
 | .h3 i3 i4 z0=>by kernel_rfl
def jf (o:Option (zx (List.map some [zg]))):Sem zg:=(fun r:zx (List.map some [zg])=>r.1) (o.getD (bF [zg]))
def N5 (g:Sem Sh.expr→Sem zg) (c:Sem Sh.expr→Bool) (x0:Sem Sh.expr):Option (zx (List.map some [zg])):=zT [zg] (Jb g c) 100000000 (Mo g c x0)
def cX:Nat→Sem Sh.expr→Option (zx (List.map some [zg]))
 | 0=>fun _=>none
 | n+1=>N5 (fun x0=>jf (cX n x0)) fun x0=>(cX n x0).isSome
theorem MG:zA md.P 245 Tryz.f245 1:=aL (by kernel_rfl)
theorem C8:∀ n,FK 245 (zC [Sh.expr] [zg] (fun x=>(cX n x.1).isSome) fun x=>(jf (cX n x.1),()))
 | 0=>cQ ⟨Tryz.f245,MG.1,MG.2.1,MG.2.2.1⟩ (fun _=>rfl)
 | n+1=>g6 (E:=uV (fun x0=>jf (cX n x0)) (fun x0=>(cX n x0).isSome)) (ks:=[Sh.expr]) (outs:=[zg]) (keep:=Gp) (gas:=400) (n:=100000000) (e:=DA) (t:=Jb (fun x0=>jf (cX n x0)) (fun x0=>(cX n x0).isSome)) (i:=fun x=>Mo (fun x0=>jf (cX n x0)) (fun x0=>(cX n x0).isSome) x.1) (FM (C8 n)) (Yd _ _) (fun x=>Xa _ _ x.1) (Yp _ _) (fun _=>by kernel_rfl) (fun _=>by kernel_rfl)
def ED (x0:Sem Sh.expr):Option (zx (List.map some [zg])):=cX 16 x0
def EC (x0:Sem Sh.expr):Bool:=(ED x0).isSome
def IL (x0:Sem Sh.expr):Sem zg:=jf (ED x0)
def Sr:zD:=zC [Sh.expr] [zg] (fun x=>EC x.1) fun x=>(IL x.1,())
theorem Py:FK 245 Sr:=C8 16

def BF:=md.addL [(121,RU),(188,Ss),(276,SH),(119,zad),(103,zaz),(245,Sr)]
theorem iX:zm BF:=gy.addL <| fc O2 <| fc Pz <| fc PN <| fc VH <| fc V6 <| fc Py gZ
end
noncomputable section

def zdC (x0:Sem (Sh.int IntKind.u8)):Tr (Empty ⊕ zV):=
 Tr.chk (fV x0&&bif iG x0 then true else kw x0) (Tr.re (AV.bool (bif iG x0 then true else bif p9 x0 then true else x0==95)) [])
def Co (x0:Sem (Sh.int IntKind.u8)):=zT [Sh.bool] t0 100000000 (zdC x0)
def tE (x0:Sem (Sh.int IntKind.u8)):=(Co x0).isSome
def GV (x0:Sem (Sh.int IntKind.u8)):=o1 (Co x0)
def Sn:=FT [Sh.int IntKind.u8] [Sh.bool] fun x=>Co x.1
theorem Pu:FK 178 Sn:=iX.T1 (f:=Tryz.f178) (keep:=k0) (e:=e0)

abbrev XL:=jL [(3,[0,3,4])]
inductive t8 where
 | h3 (s0:TS) (l3:LS) (i4:Int)
abbrev zcO:t8→Nat×St
 | .h3 s0 l3 i4=>(3,⟨tm 18 [(0,AV.str s0),(3,AV.sl Sh.str l3),(4,AV.int .i64 i4)],[]⟩)
def zdA (x0:TS):Tr (t8 ⊕ zV):=
 Tr.to
 (t8.h3 x0
  [[65,78,68],[79,82],[78,79,84],[73,83],[78,85,76,76],[84,82,85,69],[70,65,76,83,69],[67,82,69,65,84,69],[84,65,66,76,69],[75,69,89],[85,78,73,81,85,69],[82,69,70,69,82,69,78,67,69,83],[67,72,69,67,75],[68,82,79,80],[73,78,83,69,82,84],
  [73,78,84,79],[86,65,76,85,69,83],[85,80,68,65,84,69],[83,69,84],[87,72,69,82,69],[68,69,76,69,84,69],[70,82,79,77],[83,69,76,69,67,84],[71,82,65,78,84],[82,69,86,79,75,69],[82,69,65,68],[87,82,73,84,69],[79,78],[84,79],
  [77,73,71,82,65,84,69],[67,79,80,89],[74,79,73,78],[71,82,79,85,80],[66,89],[83,85,77],[73,78,84],[84,69,88,84],[66,79,79,76]]
  0)
def zf4:t8→Tr (t8 ⊕ zV)
 | .h3 s0 l3 i4=>
  Tr.br (decide (i4 < (↑l3.length:Int)))
  (Tr.chk (zF i4 l3.length) (Tr.br (l3.getD i4.toNat (zj Sh.str)==s0) (Tr.re (AV.kb true) []) (Tr.to (t8.h3 s0 l3 (IntKind.i64.wrap (i4+1))))))
  (Tr.re (AV.kb false) [])
def GW (x0:TS):=zT [Sh.bool] zf4 100000000 (zdA x0)
def Cp (x0:TS):=(GW x0).isSome
def Oe (x0:TS):=o1 (GW x0)
def Sj:=FT [Sh.str] [Sh.bool] fun x=>GW x.1
theorem Pq:FK 181 Sj:=iX.T1 (f:=Tryz.f181) (keep:=XL) (e:=zcO)

abbrev MM:Nat→zY:=fun _=>{ }
theorem X0:zA BF.P 106 Tryz.f106 2:=aL (by kernel_rfl)
def Mf (y:zu zJ) (x0:TS):Tr (Empty ⊕ zV):=
 let a0:=(y.1,y.2.1,y.2.2.1,())
 let a1:=mG a0 x0
 Tr.chk (jO a0 x0)
 (Tr.br a1.1 (Tr.re (AV.kb true) (bT zJ (a1.2.1,IntKind.i64.wrap (a1.2.2.1+1),a1.2.2.2)))
  (Tr.re (AV.kb false) (bT zJ a1.2)))
theorem WW (y:zu zJ) (x0:TS):rn BF 1 MM Tryz.f106 [AV.ptr 0 0,zz Sh.str x0] (bT zJ y)=(Mf y x0).map (lf Tryz.f106 e0):=by kernel_rfl
def I0 (y:zu zJ) (x0:TS):Option (zx (List.map some [Sh.bool])×zu zJ):=yf [Sh.bool] zJ t0 100000000 (Mf y x0)
def aN (y:zu zJ) (x0:TS):Bool:=(I0 y x0).isSome
def bc (y:zu zJ) (x0:TS):(Sem Sh.bool)×zu zJ:=(fun r:zx (List.map some [Sh.bool])×zu zJ=>(r.1.1,r.2)) ((I0 y x0).getD (bF [Sh.bool],fK zJ))
def RZ:zD:=xW zJ [Sh.str] [Sh.bool] zJ (fun y x=>aN y x.1) fun y x=>(((bc y x.1).1,()),(bc y x.1).2)
theorem O7:FK 106 RZ:=qG (ps:=zJ) (ks:=[Sh.str]) (outs:=[Sh.bool]) (keep:=MM) (gas:=400) (n:=100000000) (e:=e0) (t:=t0) (i:=fun y x=>Mf y x.1) iX X0 (fun y x=>WW y x.1) (KG _ _ _ _ _) (fun _ _=>by kernel_rfl) (fun _ _=>by kernel_rfl)

abbrev zew:=jL [(6,[2,3,5]),(11,[2,3,6]),(16,[2,3,7]),(21,[2,3,8]),(26,[2,3,9]),(31,[2,3,10])]
inductive nJ where
 | h6 (i5:Int) (z0:zu lQ) (z1:zu lQ)
 | h11 (i6:Int) (z0:zu lQ) (z1:zu lQ)
 | h16 (i7:Int) (z0:zu lQ) (z1:zu lQ)
 | h21 (i8:Int) (z0:zu lQ) (z1:zu lQ)
 | h26 (i9:Int) (z0:zu lQ) (z1:zu lQ)
 | h31 (i10:Int) (z0:zu lQ) (z1:zu lQ)
abbrev zgR:nJ→Nat×St
 | .h6 i5 z0 z1=>(6,⟨tm 238 [(2,AV.ptr 0 0),(3,AV.ptr 1 0),(5,AV.int .i64 i5)],[AO.box (bh [] lQ z0),AO.box (bh [] lQ z1)]⟩)
 | .h11 i6 z0 z1=>(11,⟨tm 238 [(2,AV.ptr 0 0),(3,AV.ptr 1 0),(6,AV.int .i64 i6)],[AO.box (bh [] lQ z0),AO.box (bh [] lQ z1)]⟩)
 | .h16 i7 z0 z1=>(16,⟨tm 238 [(2,AV.ptr 0 0),(3,AV.ptr 1 0),(7,AV.int .i64 i7)],[AO.box (bh [] lQ z0),AO.box (bh [] lQ z1)]⟩)
 | .h21 i8 z0 z1=>(21,⟨tm 238 [(2,AV.ptr 0 0),(3,AV.ptr 1 0),(8,AV.int .i64 i8)],[AO.box (bh [] lQ z0),AO.box (bh [] lQ z1)]⟩)
 | .h26 i9 z0 z1=>(26,⟨tm 238 [(2,AV.ptr 0 0),(3,AV.ptr 1 0),(9,AV.int .i64 i9)],[AO.box (bh [] lQ z0),AO.box (bh [] lQ z1)]⟩)
 | .h31 i10 z0 z1=>(31,⟨tm 238 [(2,AV.ptr 0 0),(3,AV.ptr 1 0),(10,AV.int .i64 i10)],[AO.box (bh [] lQ z0),AO.box (bh [] lQ z1)]⟩)
def zid (x0:Sem zp) (x1:Sem zp):Tr (nJ ⊕ zV):=
 let a0 := !x0.1==x1.1
 let a1 := !x0.2.1==x1.2.1
 let a2 := !x0.2.2.1==x1.2.2.1
 let a3 := !x0.2.2.2.2.2.1==x1.2.2.2.2.2.1
 let a4 := !x0.2.2.2.2.2.2.2.2.2.2.2.2==x1.2.2.2.2.2.2.2.2.2.2.2.2
 let a5:=zB x0.2.2.2.2.2.2.2.2.1
 let a6:=zB x1.2.2.2.2.2.2.2.2.1
 let a7 := !fT a5 a6
 let a8:=zB x0.2.2.2.2.2.2.2.2.2.2.2.1
 let a9:=zB x1.2.2.2.2.2.2.2.2.2.2.2.1
 Tr.chk
 (bif a0 then true
 else bif a1 then true else bif a2 then true else bif a3 then true else bif a4 then true else fU a5 a6&&bif a7 then true else fU a8 a9)
 (Tr.br (bif a0 then true else bif a1 then true else bif a2 then true else bif a3 then true else bif a4 then true else bif a7 then true else !fT a8 a9)
  (Tr.re (AV.kb false) [])
  (Tr.br (bif (↑(length x0.2.2.2.1):Int) != (↑(length x1.2.2.2.1):Int) then true else bif (↑(length x0.2.2.2.2.1):Int) != (↑(length x1.2.2.2.2.1):Int) then true else bif (↑(length x0.2.2.2.2.2.2.1):Int) != (↑(length x1.2.2.2.2.2.2.1):Int) then true else bif (↑(length x0.2.2.2.2.2.2.2.1):Int) != (↑(length x1.2.2.2.2.2.2.2.1):Int) then true
  else bif (↑(length x0.2.2.2.2.2.2.2.2.2.1):Int) != (↑(length x1.2.2.2.2.2.2.2.2.2.1):Int) then true else (↑(length x0.2.2.2.2.2.2.2.2.2.2.1):Int) != (↑(length x1.2.2.2.2.2.2.2.2.2.2.1):Int)) (Tr.re (AV.kb false) []) (Tr.to (nJ.h6 0 (x0,()) (x1,())))))
def ziR:nJ→Tr (nJ ⊕ zV)
 | .h6 i5 z0 z1=>
  let a0:=(↑(length z0.1.2.2.2.1):Int)
  Tr.br (decide (i5 < a0))
  (Tr.chk (zF i5 (length z0.1.2.2.2.1))
   (Tr.chk (zF i5 (length z1.1.2.2.2.1)) (Tr.br (!getD z0.1.2.2.2.1 i5.toNat (zj Sh.str)==getD z1.1.2.2.2.1 i5.toNat (zj Sh.str)) (Tr.re (AV.kb false) []) (Tr.to (nJ.h6 (IntKind.i64.wrap (i5+1)) z0 z1)))))
  (Tr.to (nJ.h11 0 z0 z1))
 | .h11 i6 z0 z1=>
  let a0:=(↑(length z0.1.2.2.2.2.1):Int)
  let a1:=getD z0.1.2.2.2.2.1 i6.toNat (zj zi)
  let a2:=getD z1.1.2.2.2.2.1 i6.toNat (zj zi)
  Tr.br (decide (i6 < a0))
  (Tr.chk (zF i6 (length z0.1.2.2.2.2.1))
   (Tr.chk (zF i6 (length z1.1.2.2.2.2.1)) (Tr.br (!(a1.1==a2.1&&(a1.2.1==a2.2.1&&(a1.2.2==a2.2.2&&true)))) (Tr.re (AV.kb false) []) (Tr.to (nJ.h11 (IntKind.i64.wrap (i6+1)) z0 z1)))))
  (Tr.to (nJ.h16 0 z0 z1))
 | .h16 i7 z0 z1=>
  let a0:=(↑(length z0.1.2.2.2.2.2.2.1):Int)
  Tr.br (decide (i7 < a0))
  (Tr.chk (zF i7 (length z0.1.2.2.2.2.2.2.1))
   (Tr.chk (zF i7 (length z1.1.2.2.2.2.2.2.1)) (Tr.br (!getD z0.1.2.2.2.2.2.2.1 i7.toNat (zj Sh.str)==getD z1.1.2.2.2.2.2.2.1 i7.toNat (zj Sh.str)) (Tr.re (AV.kb false) []) (Tr.to (nJ.h16 (IntKind.i64.wrap (i7+1)) z0 z1)))))
  (Tr.to (nJ.h21 0 z0 z1))
 | .h21 i8 z0 z1=>
  let a0:=(↑(length z0.1.2.2.2.2.2.2.2.1):Int)
  let a1:=getD z0.1.2.2.2.2.2.2.2.1 i8.toNat (zj bG)
  let a2:=getD z1.1.2.2.2.2.2.2.2.1 i8.toNat (zj bG)
  Tr.br (decide (i8 < a0))
  (Tr.chk (zF i8 (length z0.1.2.2.2.2.2.2.2.1))
   (Tr.chk (zF i8 (length z1.1.2.2.2.2.2.2.2.1)) (Tr.br (!(a1.1==a2.1&&(a1.2==a2.2&&true))) (Tr.re (AV.kb false) []) (Tr.to (nJ.h21 (IntKind.i64.wrap (i8+1)) z0 z1)))))
  (Tr.to (nJ.h26 0 z0 z1))
 | .h26 i9 z0 z1=>
  let a0:=(↑(length z0.1.2.2.2.2.2.2.2.2.2.1):Int)
  let a1:=getD z0.1.2.2.2.2.2.2.2.2.2.1 i9.toNat (zj zf)
  let a2:=getD z1.1.2.2.2.2.2.2.2.2.2.1 i9.toNat (zj zf)
  Tr.br (decide (i9 < a0))
  (Tr.chk (zF i9 (length z0.1.2.2.2.2.2.2.2.2.2.1))
   (Tr.chk (zF i9 (length z1.1.2.2.2.2.2.2.2.2.2.1)) (Tr.br (!(a1.1==a2.1&&(a1.2.1==a2.2.1&&(a1.2.2==a2.2.2&&true)))) (Tr.re (AV.kb false) []) (Tr.to (nJ.h26 (IntKind.i64.wrap (i9+1)) z0 z1)))))
  (Tr.to (nJ.h31 0 z0 z1))
 | .h31 i10 z0 z1=>
  let a0:=(↑(length z0.1.2.2.2.2.2.2.2.2.2.2.1):Int)
  let a1:=zF i10 (length z0.1.2.2.2.2.2.2.2.2.2.2.1)
  let a2:=zF i10 (length z1.1.2.2.2.2.2.2.2.2.2.2.1)
  let a3:=getD z0.1.2.2.2.2.2.2.2.2.2.2.1 i10.toNat (zj aK)
  let a4:=getD z1.1.2.2.2.2.2.2.2.2.2.2.1 i10.toNat (zj aK)
  let a5 := !a3.1==a4.1
  let a6:=zB a3.2
  let a7:=zB a4.2
  Tr.br (decide (i10 < a0))
  (Tr.chk (a1&&(a2&&bif a5 then true else a1&&(a2&&fU a6 a7)))
   (Tr.br (bif a5 then true else !fT a6 a7) (Tr.re (AV.kb false) []) (Tr.to (nJ.h31 (IntKind.i64.wrap (i10+1)) z0 z1))))
  (Tr.re (AV.kb true) [])
def Cu (x0:Sem zp) (x1:Sem zp):=zT [Sh.bool] ziR 100000000 (zid x0 x1)
def Rr (x0:Sem zp) (x1:Sem zp):=(Cu x0 x1).isSome
def YM (x0:Sem zp) (x1:Sem zp):=o1 (Cu x0 x1)
def zaE:=FT [zp,zp] [Sh.bool] fun x=>Cu x.1 x.2.1
theorem Wb:FK 184 zaE:=iX.T1 (f:=Tryz.f184) (keep:=zew) (e:=zgR)

def yY:=BF.addL [(178,Sn),(181,Sj),(106,RZ),(184,zaE)]
theorem m4:zm yY:=iX.addL <| fc Pu <| fc Pq <| fc O7 <| fc Wb gZ
end
noncomputable section

abbrev XJ:=jL [(2,[0,3])]
inductive t7 where
 | h2 (s0:TS) (i3:Int)
abbrev zcN:t7→Nat×St
 | .h2 s0 i3=>(2,⟨tm 28 [(0,AV.str s0),(3,AV.int .i64 i3)],[]⟩)
def zdz (x0:TS):Tr (t7 ⊕ zV):=
 Tr.to (t7.h2 x0 0)
def zf3:t7→Tr (t7 ⊕ zV)
 | .h2 s0 i3=>
  let a0:=(↑(getD s0 i3.toNat 0).toNat:Int)
  let a1:=decide (1≤(↑(length s0):Int))
  let a2:=decide ((↑(length s0):Int)≤16)
  let a3:=(↑(getD s0 (toNat 0) 0).toNat:Int)
  Tr.br (decide (i3 < (↑(length s0):Int)))
  (Tr.chk (zF i3 (length s0)) (Tr.chk (tE a0) (Tr.br (!GV a0) (Tr.re (AV.kb false) []) (Tr.to (t7.h2 s0 (IntKind.i64.wrap (i3+1)))))))
  (Tr.chk (bif a1 then bif a2 then zF 0 (length s0)&&kw a3 else true else true)
   (Tr.re (AV.bool (bif a1 then bif a2 then p9 a3 else false else false)) []))
def Cm (x0:TS):=zT [Sh.bool] zf3 100000000 (zdz x0)
def tD (x0:TS):=(Cm x0).isSome
def wY (x0:TS):=o1 (Cm x0)
def Sg:=FT [Sh.str] [Sh.bool] fun x=>Cm x.1
theorem Po:FK 185 Sg:=m4.T1 (f:=Tryz.f185) (keep:=XJ) (e:=zcN)

abbrev MN:Nat→zY:=fun _=>{ }
theorem X1:zA yY.P 108 Tryz.f108 2:=aL (by kernel_rfl)
def Mg (y:zu zJ) (x0:TS):Tr (Empty ⊕ zV):=
 let a0:=(y.1,y.2.1,y.2.2.1,())
 let a1:=bc a0 x0
 Tr.chk (aN a0 x0)
 (Tr.br (!a1.1) (Tr.re (AV.tup []) [AO.box [AV.sl zq a1.2.1,AV.int .i64 a1.2.2.1,AV.kb false]])
  (Tr.re (AV.tup []) (bT zJ a1.2)))
theorem WX (y:zu zJ) (x0:TS):rn yY 1 MN Tryz.f108 [AV.ptr 0 0,zz Sh.str x0] (bT zJ y)=(Mg y x0).map (lf Tryz.f108 e0):=by kernel_rfl
def IY (y:zu zJ) (x0:TS):Option (zx (List.map some [])×zu zJ):=yf [] zJ t0 100000000 (Mg y x0)
def zK (y:zu zJ) (x0:TS):Bool:=(IY y x0).isSome
def zU (y:zu zJ) (x0:TS):zu zJ:=(fun r:zx (List.map some [])×zu zJ=>r.2) ((IY y x0).getD (bF [],fK zJ))
def R0:zD:=xW zJ [Sh.str] [] zJ (fun y x=>zK y x.1) fun y x=>((),zU y x.1)
theorem O8:FK 108 R0:=qG (ps:=zJ) (ks:=[Sh.str]) (outs:=[]) (keep:=MN) (gas:=400) (n:=100000000) (e:=e0) (t:=t0) (i:=fun y x=>Mg y x.1) m4 X1 (fun y x=>WX y x.1) (KG _ _ _ _ _) (fun _ _=>by kernel_rfl) (fun _ _=>by kernel_rfl)

abbrev MO:Nat→zY:=fun _=>{ }
theorem X3:zA yY.P 109 Tryz.f109 1:=aL (by kernel_rfl)
def Mi (y:zu zJ):Tr (Empty ⊕ zV):=
 let a0:=decide (y.2.1 < (↑(length y.1):Int))
 let a1:=zF y.2.1 (length y.1)
 let a2:=getD y.1 (toNat y.2.1) (zj zq)
 let a3:=a2.1==1
 let a4:=IntKind.i64.wrap (y.2.1+1)
 let a5:=IntKind.i64.wrap (a4 - 1)
 let a6:=getD y.1 a5.toNat (zj zq)
 Tr.chk (bif a0 then a1&&bif a3 then a1&&Cp a2.2 else true else true)
 (Tr.br (bif a0 then bif a3 then !Oe a2.2 else false else false)
  (Tr.chk (zF a5 (length y.1)) (Tr.re (AV.str a6.2) (bT zJ (y.1,a4,y.2.2))))
  (Tr.re (AV.str []) [AO.box [AV.sl zq y.1,AV.int .i64 y.2.1,AV.kb false]]))
theorem WZ (y:zu zJ):rn yY 1 MO Tryz.f109 [AV.ptr 0 0] (bT zJ y)=(Mi y).map (lf Tryz.f109 e0):=by kernel_rfl
def IZ (y:zu zJ):Option (zx (List.map some [Sh.str])×zu zJ):=yf [Sh.str] zJ t0 100000000 (Mi y)
def ah (y:zu zJ):Bool:=(IZ y).isSome
def aJ (y:zu zJ):(Sem Sh.str)×zu zJ:=(fun r:zx (List.map some [Sh.str])×zu zJ=>(r.1.1,r.2)) ((IZ y).getD (bF [Sh.str],fK zJ))
def R2:zD:=xW zJ [] [Sh.str] zJ (fun y _=>ah y) fun y _=>(((aJ y).1,()),(aJ y).2)
theorem Pa:FK 109 R2:=qG (ps:=zJ) (ks:=[]) (outs:=[Sh.str]) (keep:=MO) (gas:=400) (n:=100000000) (e:=e0) (t:=t0) (i:=fun y x=>Mi y) m4 X3 (fun y x=>WZ y) (KG _ _ _ _ _) (fun _ _=>by kernel_rfl) (fun _ _=>by kernel_rfl)

def yZ:=yY.addL [(185,Sg),(108,R0),(109,R2)]
theorem iS:zm yZ:=m4.addL <| fc Po <| fc O8 <| fc Pa gZ
end
noncomputable section

def TK (x0:Sem zf):Tr (Empty ⊕ zV):=
 Tr.chk (mB x0)
 (Tr.br (wB x0) (Tr.re (AV.agg [AV.int .i64 x0.1,AV.int .i64 x0.2.1,AV.str x0.2.2]) [])
  (Tr.re (AV.agg [AV.int .i64 0,AV.int .i64 0,AV.str []]) []))
def Cg (x0:Sem zf):=zT [zf] t0 100000000 (TK x0)
def pX (x0:Sem zf):=(Cg x0).isSome
def ey (x0:Sem zf):=o1 (Cg x0)
def RX:=FT [zf] [zf] fun x=>Cg x.1
theorem O5:FK 124 RX:=iS.T1 (f:=Tryz.f124) (keep:=k0) (e:=e0)

def zdt (x0:Sem zf) (x1:Sem Sh.bool):Tr (Empty ⊕ zV):=
 Tr.chk (kv x1) (Tr.re (AV.bool (x0.1==(aM x1).1&&(x0.2.1==(aM x1).2.1&&(x0.2.2==(aM x1).2.2&&true)))) [])
def NX (x0:Sem zf) (x1:Sem Sh.bool):=zT [Sh.bool] t0 100000000 (zdt x0 x1)
def lG (x0:Sem zf) (x1:Sem Sh.bool):=(NX x0 x1).isSome
def oQ (x0:Sem zf) (x1:Sem Sh.bool):=o1 (NX x0 x1)
def RV:=FT [zf,Sh.bool] [Sh.bool] fun x=>NX x.1 x.2.1
theorem O3:FK 122 RV:=iS.T1 (f:=Tryz.f122) (keep:=k0) (e:=e0)

def BC (g:Sem Sh.expr→Sem zg→Sem Sh.bool) (c:Sem Sh.expr→Sem zg→Bool):bq:=yZ.add 244 (zC [Sh.expr,zg] [Sh.bool] (fun x=>c x.1 x.2.1) fun x=>(g x.1 x.2.1,()))
theorem FL {g:Sem Sh.expr→Sem zg→Sem Sh.bool} {c:Sem Sh.expr→Sem zg→Bool} (hg:FK 244 (zC [Sh.expr,zg] [Sh.bool] (fun x=>c x.1 x.2.1) fun x=>(g x.1 x.2.1,()))):zm (BC g c):=iS.add hg
abbrev MV:Nat→zY:=fun _=>{ }
theorem Yc (g:Sem Sh.expr→Sem zg→Sem Sh.bool) (c:Sem Sh.expr→Sem zg→Bool):zA (BC g c).P 244 Tryz.f244 2:=aL (by kernel_rfl)
def D9 (g:Sem Sh.expr→Sem zg→Sem Sh.bool) (c:Sem Sh.expr→Sem zg→Bool) (x0:Sem Sh.expr) (x1:Sem zg):Tr (Empty ⊕ zV):=
 let a0:=(↑(ze.l x0).length:Int)==0
 let a1:=(ze.v x0).1==0&&((ze.v x0).2.1==0&&((ze.v x0).2.2==[]&&true))
 let a2:=(↑(ze.l x0).length:Int)==1
 let a3:=zF 0 (ze.l x0).length
 let a4:=zB ((ze.l x0).getD (toNat 0) (zj Sh.expr))
 let a5:=IntKind.i64.wrap (x1 - 1)
 let a6:=c a4 a5
 let a7:=g a4 a5
 let a8:=(↑(ze.l x0).length:Int)==2
 let a9:=zB ((ze.l x0).getD (toNat 1) (zj Sh.expr))
 Tr.br (x1==0) (Tr.re (AV.kb false) [])
 (Tr.br (ze.op x0==[108,105,116])
  (Tr.chk (mB (ze.v x0)) (Tr.re (AV.bool (bif wB (ze.v x0) then bif ze.s x0==[] then a0 else false else false)) []))
  (Tr.br (ze.op x0==[99,111,108]) (Tr.chk (bif a1 then tD (ze.s x0)&&bif wY (ze.s x0) then Cp (ze.s x0) else true else true) (Tr.re (AV.bool (bif a1 then bif wY (ze.s x0) then bif !Oe (ze.s x0) then a0 else false else false else false)) [])) (Tr.br (bif ze.op x0==[110,111,116] then true else ze.op x0==[110,117,108,108])
  (Tr.chk (bif a1 then bif ze.s x0==[] then bif a2 then a3&&a6 else true else true else true) (Tr.re (AV.bool (bif a1 then bif ze.s x0==[] then bif a2 then a7 else false else false else false)) [])) (Tr.chk (N6 (ze.op x0)) (Tr.br (Us (ze.op x0)) (Tr.chk
  (bif a1 then bif ze.s x0==[] then bif a8 then a3&&(a6&&bif a7 then zF 1 (ze.l x0).length&&c a9 a5 else true) else true else true else true) (Tr.re (AV.bool (bif a1 then bif ze.s x0==[] then bif a8 then bif a7 then g a9 a5 else false else false else false else false)) [])) (Tr.re (AV.kb false) []))))))
theorem W9 (g:Sem Sh.expr→Sem zg→Sem Sh.bool) (c:Sem Sh.expr→Sem zg→Bool) (x0:Sem Sh.expr) (x1:Sem zg):rn (BC g c) 0 MV Tryz.f244 [zz Sh.expr x0,zz zg x1] []=(D9 g c x0 x1).map (lf Tryz.f244 e0):=by kernel_rfl
def jD (o:Option (zx (List.map some [Sh.bool]))):Sem Sh.bool:=(fun r:zx (List.map some [Sh.bool])=>r.1) (o.getD (bF [Sh.bool]))
def Ro (g:Sem Sh.expr→Sem zg→Sem Sh.bool) (c:Sem Sh.expr→Sem zg→Bool) (x0:Sem Sh.expr) (x1:Sem zg):Option (zx (List.map some [Sh.bool])):=zT [Sh.bool] t0 100000000 (D9 g c x0 x1)
def dW:Nat→Sem Sh.expr→Sem zg→Option (zx (List.map some [Sh.bool]))
 | 0=>fun _ _=>none
 | n+1=>Ro (fun x0 x1=>jD (dW n x0 x1)) fun x0 x1=>(dW n x0 x1).isSome
theorem MF:zA yZ.P 244 Tryz.f244 2:=aL (by kernel_rfl)
theorem C7:∀ n,FK 244 (zC [Sh.expr,zg] [Sh.bool] (fun x=>(dW n x.1 x.2.1).isSome) fun x=>(jD (dW n x.1 x.2.1),()))
 | 0=>cQ ⟨Tryz.f244,MF.1,MF.2.1,MF.2.2.1⟩ (fun _=>rfl)
 | n+1=>g6 (E:=BC (fun x0 x1=>jD (dW n x0 x1)) (fun x0 x1=>(dW n x0 x1).isSome)) (ks:=[Sh.expr,zg]) (outs:=[Sh.bool]) (keep:=MV) (gas:=400) (n:=100000000) (e:=e0) (t:=t0) (i:=fun x=>D9 (fun x0 x1=>jD (dW n x0 x1)) (fun x0 x1=>(dW n x0 x1).isSome) x.1 x.2.1) (FL (C7 n)) (Yc _ _) (fun x=>W9 _ _ x.1 x.2.1) (KG _ _ _ _ _) (fun _=>by kernel_rfl) (fun _=>by kernel_rfl)
def IK (x0:Sem Sh.expr) (x1:Sem zg):Option (zx (List.map some [Sh.bool])):=dW 16 x0 x1
def Ci (x0:Sem Sh.expr) (x1:Sem zg):Bool:=(IK x0 x1).isSome
def GI (x0:Sem Sh.expr) (x1:Sem zg):Sem Sh.bool:=jD (IK x0 x1)
def Sq:zD:=zC [Sh.expr,zg] [Sh.bool] (fun x=>Ci x.1 x.2.1) fun x=>(GI x.1 x.2.1,())
theorem Px:FK 244 Sq:=C7 16

def DK (g:Sem Sh.expr→Sem (Sh.sl zi)→Sem zg×Sem zg) (c:Sem Sh.expr→Sem (Sh.sl zi)→Bool):bq:=yZ.add 187 (zC [Sh.expr,Sh.sl zi] [zg,zg] (fun x=>c x.1 x.2.1) fun x=>((g x.1 x.2.1).1,(g x.1 x.2.1).2,()))
theorem JH {g:Sem Sh.expr→Sem (Sh.sl zi)→Sem zg×Sem zg} {c:Sem Sh.expr→Sem (Sh.sl zi)→Bool} (hg:FK 187 (zC [Sh.expr,Sh.sl zi] [zg,zg] (fun x=>c x.1 x.2.1) fun x=>((g x.1 x.2.1).1,(g x.1 x.2.1).2,()))):zm (DK g c):=iS.add hg
abbrev M5:Nat→zY:=fun j=>if j=5 then { slots:=[1,2,6] } else { }
inductive Fu where
 | h5 (l1:LC) (i6:Int) (z0:zu [CP.d Sh.expr])
abbrev Lr:Fu→Nat×St
 | .h5 l1 i6 z0=>(5,⟨tm 116 [(1,AV.sl zi l1),(2,AV.ptr 0 0),(6,AV.int .i64 i6)],[AO.box (bh [] [CP.d Sh.expr] z0)]⟩)
theorem zfp (g:Sem Sh.expr→Sem zi.sl→Sem zg×Sem zg) (c:Sem Sh.expr→Sem zi.sl→Bool):zA (DK g c).P 187 Tryz.f187 2:=aL (by kernel_rfl)
def QX (g:Sem Sh.expr→Sem zi.sl→Sem zg×Sem zg) (c:Sem Sh.expr→Sem zi.sl→Bool) (x0:Sem Sh.expr) (x1:Sem zi.sl):Tr (Fu ⊕ zV):=
 let a0:=zB ((ze.l x0).getD (toNat 0) (zj Sh.expr))
 let a1:=g a0 x1
 let a2:=zB ((ze.l x0).getD (toNat 1) (zj Sh.expr))
 let a3:=g a2 x1
 let a4:=ze.op x0==[110,117,108,108]
 let a5:=ze.op x0==[61]
 let a6:=a1.1 != 0
 let a7:=a3.1 != 0
 let a8:=ze.op x0==[60]
 let a9:=ze.op x0==[43]
 let a10:=a1.1 != 1
 let a11:=bif a7 then a3.1 != 1 else false
 let a12:=ze.op x0==[45]
 let a13:=a1.1 != 3
 let a14:=bif a7 then a3.1 != 3 else false
 let a15:=bif a6 then a10 else false
 let a16:=bif a6 then a13 else false
 Tr.br (ze.op x0==[108,105,116]) (Tr.re (AV.tup [AV.int .i64 (ze.v x0).1,AV.int .i64 0]) [])
 (Tr.br (ze.op x0==[99,111,108]) (Tr.to (Fu.h5 x1 0 (x0,())))
  (Tr.chk (zF 0 (ze.l x0).length) (Tr.chk (c a0 x1) (Tr.br (a1.2 != 0) (Tr.re (AV.tup [AV.int .i64 0,AV.int .i64 a1.2]) []) (Tr.br ((↑(ze.l x0).length:Int)==2) (Tr.chk (zF 1 (ze.l x0).length) (Tr.chk (c a2 x1) (Tr.br (a3.2 != 0) (Tr.re (AV.tup [AV.int .i64 0,AV.int .i64 a3.2]) []) (Tr.br a4 (Tr.re (AV.tup [AV.int .i64 3,AV.int .i64 0]) []) (Tr.br a5
  (Tr.br (bif a6 then bif a7 then a1.1 != a3.1 else false else false) (Tr.re (AV.tup [AV.int .i64 0,AV.int .i64 5]) []) (Tr.re (AV.tup [AV.int .i64 3,AV.int .i64 0]) [])) (Tr.br a8 (Tr.br (bif a6 then bif a7 then a1.1 != a3.1 else false else false) (Tr.re (AV.tup [AV.int .i64 0,AV.int .i64 5]) []) (Tr.re (AV.tup [AV.int .i64 3,AV.int .i64 0]) [])) (Tr.br a9
  (Tr.br (bif a6 then bif a10 then true else a11 else a11) (Tr.re (AV.tup [AV.int .i64 0,AV.int .i64 5]) []) (Tr.re (AV.tup [AV.int .i64 1,AV.int .i64 0]) [])) (Tr.br a12 (Tr.br (bif a6 then bif a10 then true else a11 else a11) (Tr.re (AV.tup [AV.int .i64 0,AV.int .i64 5]) []) (Tr.re (AV.tup [AV.int .i64 1,AV.int .i64 0]) []))
  (Tr.br (bif a6 then bif a13 then true else a14 else a14) (Tr.re (AV.tup [AV.int .i64 0,AV.int .i64 5]) []) (Tr.re (AV.tup [AV.int .i64 3,AV.int .i64 0]) [])))))))))) (Tr.br a4 (Tr.re (AV.tup [AV.int .i64 3,AV.int .i64 0]) []) (Tr.br a5 (Tr.br (bif a6 then bif a6 then a1.1 != a1.1 else false else false) (Tr.re (AV.tup [AV.int .i64 0,AV.int .i64 5]) [])
  (Tr.re (AV.tup [AV.int .i64 3,AV.int .i64 0]) [])) (Tr.br a8 (Tr.br (bif a6 then bif a6 then a1.1 != a1.1 else false else false) (Tr.re (AV.tup [AV.int .i64 0,AV.int .i64 5]) []) (Tr.re (AV.tup [AV.int .i64 3,AV.int .i64 0]) [])) (Tr.br a9 (Tr.br (bif a6 then bif a10 then true else a15 else a15) (Tr.re (AV.tup [AV.int .i64 0,AV.int .i64 5]) [])
  (Tr.re (AV.tup [AV.int .i64 1,AV.int .i64 0]) [])) (Tr.br a12 (Tr.br (bif a6 then bif a10 then true else a15 else a15) (Tr.re (AV.tup [AV.int .i64 0,AV.int .i64 5]) []) (Tr.re (AV.tup [AV.int .i64 1,AV.int .i64 0]) [])) (Tr.br (bif a6 then bif a13 then true else a16 else a16) (Tr.re (AV.tup [AV.int .i64 0,AV.int .i64 5]) []) (Tr.re (AV.tup [AV.int .i64 3,AV.int .i64 0]) []))))))))))))
theorem zdl (g:Sem Sh.expr→Sem zi.sl→Sem zg×Sem zg) (c:Sem Sh.expr→Sem zi.sl→Bool) (x0:Sem Sh.expr) (x1:Sem zi.sl):rn (DK g c) 0 M5 Tryz.f187 [zz Sh.expr x0,zz zi.sl x1] []=(QX g c x0 x1).map (lf Tryz.f187 Lr):=by kernel_rfl
def RE (_:Sem Sh.expr→Sem zi.sl→Sem zg×Sem zg) (_:Sem Sh.expr→Sem zi.sl→Bool):Fu→Tr (Fu ⊕ zV)
 | .h5 l1 i6 z0=>
  let a0:=l1.getD i6.toNat (zj zi)
  Tr.br (decide (i6 < (↑l1.length:Int)))
  (Tr.chk (zF i6 l1.length)
   (Tr.br (a0.1==ze.s z0.1) (Tr.chk (zF i6 l1.length) (Tr.re (AV.tup [AV.int .i64 a0.2.1,AV.int .i64 0]) [])) (Tr.to (Fu.h5 l1 (IntKind.i64.wrap (i6+1)) z0))))
  (Tr.re (AV.tup [AV.int .i64 0,AV.int .i64 4]) [])
theorem zfL (g:Sem Sh.expr→Sem zi.sl→Sem zg×Sem zg) (c:Sem Sh.expr→Sem zi.sl→Bool):∀ s,run (DK g c) 0 M5 (Func.results Tryz.f187).toList 400 (zy Tryz.f187 (Lr s).1) (Lr s).2=(RE g c s).map (lf Tryz.f187 Lr)
 | .h5 l1 i6 z0=>by kernel_rfl
def iE (o:Option (zx (List.map some [zg,zg]))):Sem zg×Sem zg:=(fun r:zx (List.map some [zg,zg])=>(r.1,r.2.1)) (o.getD (bF [zg,zg]))
def Rn (g:Sem Sh.expr→Sem zi.sl→Sem zg×Sem zg) (c:Sem Sh.expr→Sem zi.sl→Bool) (x0:Sem Sh.expr) (x1:Sem zi.sl):Option (zx (List.map some [zg,zg])):=zT [zg,zg] (RE g c) 100000000 (QX g c x0 x1)
def cW:Nat→Sem Sh.expr→Sem zi.sl→Option (zx (List.map some [zg,zg]))
 | 0=>fun _ _=>none
 | n+1=>Rn (fun x0 x1=>iE (cW n x0 x1)) fun x0 x1=>(cW n x0 x1).isSome
theorem Xy:zA yZ.P 187 Tryz.f187 2:=aL (by kernel_rfl)
theorem Ho:∀ n,FK 187 (zC [Sh.expr,zi.sl] [zg,zg] (fun x=>(cW n x.1 x.2.1).isSome) fun x=>((iE (cW n x.1 x.2.1)).1,(iE (cW n x.1 x.2.1)).2,()))
 | 0=>cQ ⟨Tryz.f187,Xy.1,Xy.2.1,Xy.2.2.1⟩ (fun _=>rfl)
 | n+1=>g6 (E:=DK (fun x0 x1=>iE (cW n x0 x1)) (fun x0 x1=>(cW n x0 x1).isSome)) (ks:=[Sh.expr,zi.sl]) (outs:=[zg,zg]) (keep:=M5) (gas:=400) (n:=100000000) (e:=Lr) (t:=RE (fun x0 x1=>iE (cW n x0 x1)) (fun x0 x1=>(cW n x0 x1).isSome)) (i:=fun x=>QX (fun x0 x1=>iE (cW n x0 x1)) (fun x0 x1=>(cW n x0 x1).isSome) x.1 x.2.1) (JH (Ho n)) (zfp _ _) (fun x=>zdl _ _ x.1 x.2.1) (zfL _ _) (fun _=>by kernel_rfl) (fun _=>by kernel_rfl)
def IJ (x0:Sem Sh.expr) (x1:Sem zi.sl):Option (zx (List.map some [zg,zg])):=cW 16 x0 x1
def II (x0:Sem Sh.expr) (x1:Sem zi.sl):Bool:=(IJ x0 x1).isSome
def rB (x0:Sem Sh.expr) (x1:Sem zi.sl):Sem zg×Sem zg:=iE (IJ x0 x1)
def zaI:zD:=zC [Sh.expr,zi.sl] [zg,zg] (fun x=>II x.1 x.2.1) fun x=>((rB x.1 x.2.1).1,(rB x.1 x.2.1).2,())
theorem Wg:FK 187 zaI:=Ho 16

abbrev zee:=jL [(4,[2,3,5]),(9,[2,3,6]),(14,[2,3,7])]
inductive ue where
 | h4 (i5:Int) (z0:zu [CP.d zw]) (z1:zu [CP.d zw])
 | h9 (i6:Int) (z0:zu [CP.d zw]) (z1:zu [CP.d zw])
 | h14 (i7:Int) (z0:zu [CP.d zw]) (z1:zu [CP.d zw])
abbrev zgF:ue→Nat×St
 | .h4 i5 z0 z1=>(4,⟨tm 106 [(2,AV.ptr 0 0),(3,AV.ptr 1 0),(5,AV.int .i64 i5)],[AO.box (bh [] [CP.d zw] z0),AO.box (bh [] [CP.d zw] z1)]⟩)
 | .h9 i6 z0 z1=>(9,⟨tm 106 [(2,AV.ptr 0 0),(3,AV.ptr 1 0),(6,AV.int .i64 i6)],[AO.box (bh [] [CP.d zw] z0),AO.box (bh [] [CP.d zw] z1)]⟩)
 | .h14 i7 z0 z1=>(14,⟨tm 106 [(2,AV.ptr 0 0),(3,AV.ptr 1 0),(7,AV.int .i64 i7)],[AO.box (bh [] [CP.d zw] z0),AO.box (bh [] [CP.d zw] z1)]⟩)
def Xp (x0:Sem zw) (x1:Sem zw):Tr (ue ⊕ zV):=
 Tr.br
 (bif !x0.1==x1.1 then true
 else
  bif x0.2.2.1 != x1.2.2.1 then true
  else bif (↑(length x0.2.1):Int) != (↑(length x1.2.1):Int) then true else bif (↑(length x0.2.2.2.1):Int) != (↑(length x1.2.2.2.1):Int) then true else (↑(length x0.2.2.2.2.1):Int) != (↑(length x1.2.2.2.2.1):Int))
 (Tr.re (AV.kb false) []) (Tr.to (ue.h4 0 (x0,()) (x1,())))
def Hb:ue→Tr (ue ⊕ zV)
 | .h4 i5 z0 z1=>
  let a0:=(↑(length z0.1.2.1):Int)
  let a1:=getD z0.1.2.1 i5.toNat (zj zi)
  let a2:=getD z1.1.2.1 i5.toNat (zj zi)
  Tr.br (decide (i5 < a0))
  (Tr.chk (zF i5 (length z0.1.2.1))
   (Tr.chk (zF i5 (length z1.1.2.1)) (Tr.br (!(a1.1==a2.1&&(a1.2.1==a2.2.1&&(a1.2.2==a2.2.2&&true)))) (Tr.re (AV.kb false) []) (Tr.to (ue.h4 (IntKind.i64.wrap (i5+1)) z0 z1)))))
  (Tr.to (ue.h9 0 z0 z1))
 | .h9 i6 z0 z1=>
  let a0:=(↑(length z0.1.2.2.2.1):Int)
  Tr.br (decide (i6 < a0))
  (Tr.chk (zF i6 (length z0.1.2.2.2.1))
   (Tr.chk (zF i6 (length z1.1.2.2.2.1)) (Tr.br (getD z0.1.2.2.2.1 i6.toNat (zj zg) != getD z1.1.2.2.2.1 i6.toNat (zj zg)) (Tr.re (AV.kb false) []) (Tr.to (ue.h9 (IntKind.i64.wrap (i6+1)) z0 z1)))))
  (Tr.to (ue.h14 0 z0 z1))
 | .h14 i7 z0 z1=>
  let a0:=(↑(length z0.1.2.2.2.2.1):Int)
  let a1:=getD z0.1.2.2.2.2.1 i7.toNat (zj zq)
  let a2:=getD z1.1.2.2.2.2.1 i7.toNat (zj zq)
  let a3:=zB z0.1.2.2.2.2.2
  let a4:=zB z1.1.2.2.2.2.2
  Tr.br (decide (i7 < a0))
  (Tr.chk (zF i7 (length z0.1.2.2.2.2.1))
   (Tr.chk (zF i7 (length z1.1.2.2.2.2.1)) (Tr.br (!(a1.1==a2.1&&(a1.2==a2.2&&true))) (Tr.re (AV.kb false) []) (Tr.to (ue.h14 (IntKind.i64.wrap (i7+1)) z0 z1)))))
  (Tr.chk (fU a3 a4) (Tr.re (AV.bool (fT a3 a4)) []))
def p7 (x0:Sem zw) (x1:Sem zw):=zT [Sh.bool] Hb 100000000 (Xp x0 x1)
def tx (x0:Sem zw) (x1:Sem zw):=(p7 x0 x1).isSome
def kY (x0:Sem zw) (x1:Sem zw):=o1 (p7 x0 x1)
def UB:=FT [zw,zw] [Sh.bool] fun x=>p7 x.1 x.2.1
theorem KR:FK 60 UB:=iS.T1 (f:=Tryz.f60) (keep:=zee) (e:=zgF)

def Lw:=yZ.addL [(124,RX),(122,RV),(244,Sq),(187,zaI),(60,UB)]
theorem ft:zm Lw:=iS.addL <| fc O5 <| fc O3 <| fc Px <| fc Wg <| fc KR gZ
end
noncomputable section

def zdU (x0:Sem zf) (x1:Sem zf):Tr (Empty ⊕ zV):=
 let a0:=(ey x0).1==(ey x1).1
 let a1:=(ey x0).2.1==(ey x1).2.1
 Tr.chk (pX x0)
 (Tr.chk (pX x1)
  (Tr.br (a0&&(a1&&((ey x0).2.2==(ey x1).2.2&&true))) (Tr.re (AV.int .i64 0) []) (Tr.br (bif decide ((ey x0).1 < (ey x1).1) then true else bif a0 then bif decide ((ey x0).2.1 < (ey x1).2.1) then true else bif a1 then Op.bytesLess (ey x0).2.2 (ey x1).2.2 else false else false) (Tr.re (AV.int .i64 (-1)) []) (Tr.re (AV.int .i64 1) []))))
def wD (x0:Sem zf) (x1:Sem zf):=zT [zg] t0 100000000 (zdU x0 x1)
def Ey (x0:Sem zf) (x1:Sem zf):=(wD x0 x1).isSome
def Rj (x0:Sem zf) (x1:Sem zf):=o1 (wD x0 x1)
def zaq:=FT [zf,zf] [zg] fun x=>wD x.1 x.2.1
theorem VW:FK 67 zaq:=ft.T1 (f:=Tryz.f67) (keep:=k0) (e:=e0)

def TU (x0:Sem zf) (x1:Sem zf):Tr (Empty ⊕ zV):=
 Tr.chk (pX x0)
 (Tr.chk (pX x1)
  (Tr.re (AV.bool (bif (ey x0).1==0 then true else bif (ey x1).1==0 then true else (ey x0).1 != (ey x1).1)) []))
def wG (x0:Sem zf) (x1:Sem zf):=zT [Sh.bool] t0 100000000 (TU x0 x1)
def mC (x0:Sem zf) (x1:Sem zf):=(wG x0 x1).isSome
def tt (x0:Sem zf) (x1:Sem zf):=o1 (wG x0 x1)
def SI:=FT [zf,zf] [Sh.bool] fun x=>wG x.1 x.2.1
theorem PO:FK 246 SI:=ft.T1 (f:=Tryz.f246) (keep:=k0) (e:=e0)

def TN (x0:Sem zf) (x1:Sem zf):Tr (Empty ⊕ zV):=
 Tr.chk (lG x0 false&&bif oQ x0 false then true else lG x1 false)
 (Tr.br (bif oQ x0 false then true else oQ x1 false)
  (Tr.chk true (Tr.re (AV.agg [AV.int .i64 (aM false).1,AV.int .i64 (aM false).2.1,AV.str (aM false).2.2]) []))
  (Tr.chk (lG x0 true&&bif oQ x0 true then lG x1 true else true) (Tr.br (bif oQ x0 true then oQ x1 true else false) (Tr.chk true (Tr.re (AV.agg [AV.int .i64 (aM true).1,AV.int .i64 (aM true).2.1,AV.str (aM true).2.2]) [])) (Tr.re (AV.agg [AV.int .i64 0,AV.int .i64 0,AV.str []]) []))))
def GD (x0:Sem zf) (x1:Sem zf):=zT [zf] t0 100000000 (TN x0 x1)
def NW (x0:Sem zf) (x1:Sem zf):=(GD x0 x1).isSome
def Up (x0:Sem zf) (x1:Sem zf):=o1 (GD x0 x1)
def Sv:=FT [zf,zf] [zf] fun x=>GD x.1 x.2.1
theorem PB:FK 190 Sv:=ft.T1 (f:=Tryz.f190) (keep:=k0) (e:=e0)

def TO (x0:Sem zf) (x1:Sem zf):Tr (Empty ⊕ zV):=
 Tr.chk (lG x0 true&&bif oQ x0 true then true else lG x1 true)
 (Tr.br (bif oQ x0 true then true else oQ x1 true)
  (Tr.chk true (Tr.re (AV.agg [AV.int .i64 (aM true).1,AV.int .i64 (aM true).2.1,AV.str (aM true).2.2]) []))
  (Tr.chk (lG x0 false&&bif oQ x0 false then lG x1 false else true) (Tr.br (bif oQ x0 false then oQ x1 false else false) (Tr.chk true (Tr.re (AV.agg [AV.int .i64 (aM false).1,AV.int .i64 (aM false).2.1,AV.str (aM false).2.2]) [])) (Tr.re (AV.agg [AV.int .i64 0,AV.int .i64 0,AV.str []]) []))))
def N0 (x0:Sem zf) (x1:Sem zf):=zT [zf] t0 100000000 (TO x0 x1)
def Ur (x0:Sem zf) (x1:Sem zf):=(N0 x0 x1).isSome
def zfT (x0:Sem zf) (x1:Sem zf):=o1 (N0 x0 x1)
def Sw:=FT [zf,zf] [zf] fun x=>N0 x.1 x.2.1
theorem PC:FK 191 Sw:=ft.T1 (f:=Tryz.f191) (keep:=k0) (e:=e0)

def TM (x0:Sem zf):Tr (Empty ⊕ zV):=
 Tr.chk (lG x0 true)
 (Tr.br (oQ x0 true)
  (Tr.chk true (Tr.re (AV.agg [AV.int .i64 (aM false).1,AV.int .i64 (aM false).2.1,AV.str (aM false).2.2]) []))
  (Tr.chk (lG x0 false) (Tr.br (oQ x0 false) (Tr.chk true (Tr.re (AV.agg [AV.int .i64 (aM true).1,AV.int .i64 (aM true).2.1,AV.str (aM true).2.2]) [])) (Tr.re (AV.agg [AV.int .i64 0,AV.int .i64 0,AV.str []]) []))))
def GG (x0:Sem zf):=zT [zf] t0 100000000 (TM x0)
def NZ (x0:Sem zf):=(GG x0).isSome
def Uq (x0:Sem zf):=o1 (GG x0)
def Su:=FT [zf] [zf] fun x=>GG x.1
theorem PA:FK 189 Su:=ft.T1 (f:=Tryz.f189) (keep:=k0) (e:=e0)

def zdX (x0:Sem Sh.expr):Tr (Empty ⊕ zV):=
 let a0:=GI (zB x0) 12
 Tr.chk (Ci (zB x0) 12&&bif a0 then EC (zB x0) else true) (Tr.re (AV.bool (bif a0 then decide (IL (zB x0)≤60) else false)) [])
def GH (x0:Sem Sh.expr):=zT [Sh.bool] t0 100000000 (zdX x0)
def wK (x0:Sem Sh.expr):=(GH x0).isSome
def EB (x0:Sem Sh.expr):=o1 (GH x0)
def zaH:=FT [Sh.expr] [Sh.bool] fun x=>GH x.1
theorem Wf:FK 186 zaH:=ft.T1 (f:=Tryz.f186) (keep:=k0) (e:=e0)

def Ly:=Lw.addL [(67,zaq),(246,SI),(190,Sv),(191,Sw),(189,Su),(186,zaH)]
theorem u7:zm Ly:=ft.addL <| fc VW <| fc PO <| fc PB <| fc PC <| fc PA <| fc Wf <| gZ
end
noncomputable section

abbrev XP:=jL [(2,[0,3])]
inductive yn where
 | h2 (i0:Sem zg) (s3:List UInt8)
abbrev zcQ:yn→Nat×St
 | .h2 i0 s3=>(2,⟨tm 21 [(0,AV.int .i64 i0),(3,AV.str s3)],[]⟩)
def zdH (x0:Sem zg):Tr (yn ⊕ zV):=
 Tr.to (yn.h2 x0 [])
def zf6:yn→Tr (yn ⊕ zV)
 | .h2 i0 s3=>
  let a0:=hM [IntKind.u8.wrap (IntKind.i64.wrap (48 - IntKind.i64.wrap (Int.tmod i0 10)))]
  Tr.br (bif decide (i0 < 0) then true else s3==[])
  (Tr.chk true (Tr.chk (decide (length a0+s3.length≤1099511627776)) (Tr.chk true (Tr.to (yn.h2 (IntKind.i64.wrap (Int.tdiv i0 10)) (a0++s3))))))
  (Tr.re (AV.str s3) [])
def rz (x0:Sem zg):=zT [Sh.str] zf6 100000000 (zdH x0)
def AG (x0:Sem zg):=(rz x0).isSome
def wH (x0:Sem zg):=o1 (rz x0)
def SG:=FT [zg] [Sh.str] fun x=>rz x.1
theorem PM:FK 275 SG:=u7.T1 (f:=Tryz.f275) (keep:=XP) (e:=zcQ)

def LB:=Ly.add 275 SG
theorem u9:zm LB:=u7.add PM
end
noncomputable section

abbrev XH:=jL [(13,[1,3,4])]
inductive tY where
 | h13 (s3:List UInt8) (i4:Int) (z0:zu [CP.d zf])
abbrev zcL:tY→Nat×St
 | .h13 s3 i4 z0=>(13,⟨tm 54 [(1,AV.ptr 0 0),(3,AV.str s3),(4,AV.int .i64 i4)],[AO.box (bh [] [CP.d zf] z0)]⟩)
def zdx (x0:Sem zf):Tr (tY ⊕ zV):=
 let a0:=IntKind.i64.wrap (0 - x0.2.1)
 Tr.chk (mB x0)
 (Tr.br (!wB x0) (Tr.re (AV.str []) [])
  (Tr.br (x0.1==0) (Tr.re (AV.str [78,85,76,76]) []) (Tr.br (x0.1==1) (Tr.br (decide (x0.2.1 < 0)) (Tr.chk (AG x0.2.1) (Tr.chk (decide ([45].length+length (wH x0.2.1)≤1099511627776)) (Tr.re (AV.str ([45]++wH x0.2.1)) []))) (Tr.chk (AG a0) (Tr.re (AV.str (wH a0)) []))) (Tr.br (x0.1==2) (Tr.to (tY.h13 [39] 0 (x0,())))
  (Tr.br (x0.2.1==1) (Tr.re (AV.str [84,82,85,69]) []) (Tr.re (AV.str [70,65,76,83,69]) []))))))
def zf1:tY→Tr (tY ⊕ zV)
 | .h13 s3 i4 z0=>
  let a0:=(↑(length z0.1.2.2):Int)
  let a1:=IntKind.i64.wrap (i4+1)
  let a2:=List.take (a1.toNat - i4.toNat) (List.drop i4.toNat z0.1.2.2)
  let a3:=s3++a2
  Tr.br (decide (i4 < a0))
  (Tr.chk (decide (0≤i4)&&decide (i4≤a1)&&decide (a1≤a0))
   (Tr.chk (decide (s3.length+a2.length≤1099511627776)) (Tr.chk (zF i4 (length z0.1.2.2)) (Tr.br ((↑(getD z0.1.2.2 i4.toNat 0).toNat:Int)==39) (Tr.chk (decide (length a3+[39].length≤1099511627776)) (Tr.to (tY.h13 (a3++[39]) a1 z0))) (Tr.to (tY.h13 a3 a1 z0))))))
  (Tr.chk (decide (s3.length+[39].length≤1099511627776)) (Tr.re (AV.str (s3++[39])) []))
def Cf (x0:Sem zf):=zT [Sh.str] zf1 100000000 (zdx x0)
def nj (x0:Sem zf):=(Cf x0).isSome
def ry (x0:Sem zf):=o1 (Cf x0)
def Sd:=FT [zf] [Sh.str] fun x=>Cf x.1
theorem Pl:FK 241 Sd:=u9.T1 (f:=Tryz.f241) (keep:=XH) (e:=zcL)

def BH:=LB.add 241 Sd
theorem ve:zm BH:=u9.add Pl
end
noncomputable section

def BB (g:Sem Sh.expr→Sem Sh.str) (c:Sem Sh.expr→Bool):bq:=BH.add 242 (zC [Sh.expr] [Sh.str] (fun x=>c x.1) fun x=>(g x.1,()))
theorem FJ {g:Sem Sh.expr→Sem Sh.str} {c:Sem Sh.expr→Bool} (hg:FK 242 (zC [Sh.expr] [Sh.str] (fun x=>c x.1) fun x=>(g x.1,()))):zm (BB g c):=ve.add hg
abbrev MU:Nat→zY:=fun _=>{ }
theorem Ya (g:Sem Sh.expr→Sem Sh.str) (c:Sem Sh.expr→Bool):zA (BB g c).P 242 Tryz.f242 1:=aL (by kernel_rfl)
def Mn (g:Sem Sh.expr→Sem Sh.str) (c:Sem Sh.expr→Bool) (x0:Sem Sh.expr):Tr (Empty ⊕ zV):=
 let a0:=zF 0 (ze.l x0).length
 let a1:=zB ((ze.l x0).getD (toNat 0) (zj Sh.expr))
 let a2:=c a1
 let a3:=g a1
 let a4:=[40,78,79,84,32]++a3
 let a5:=decide ([40].length+length a3≤1099511627776)
 let a6:=[40]++a3
 let a7:=zF 1 (ze.l x0).length
 let a8:=zB ((ze.l x0).getD (toNat 1) (zj Sh.expr))
 let a9:=c a8
 let a10:=a6++[32,65,78,68,32]
 let a11:=g a8
 let a12:=a10++a11
 let a13:=a6++[32,79,82,32]
 let a14:=a13++a11
 let a15:=a6++[32]
 let a16:=a15++ze.op x0
 let a17:=a16++[32]
 let a18:=a17++a11
 Tr.br (ze.op x0==[108,105,116]) (Tr.chk (nj (ze.v x0)) (Tr.re (AV.str (ry (ze.v x0))) []))
 (Tr.br (ze.op x0==[99,111,108]) (Tr.re (AV.str (ze.s x0)) [])
  (Tr.br (ze.op x0==[110,111,116]) (Tr.chk a0 (Tr.chk a2 (Tr.chk (decide ([40,78,79,84,32].length+length a3≤1099511627776)) (Tr.chk (decide (length a4+[41].length≤1099511627776)) (Tr.re (AV.str (a4++[41])) []))))) (Tr.br (ze.op x0==[110,117,108,108]) (Tr.chk a0 (Tr.chk a2 (Tr.chk a5
  (Tr.chk (decide (length a6+[32,73,83,32,78,85,76,76,41].length≤1099511627776)) (Tr.re (AV.str (a6++[32,73,83,32,78,85,76,76,41])) []))))) (Tr.br (ze.op x0==[97,110,100]) (Tr.chk a0 (Tr.chk a2 (Tr.chk a5 (Tr.chk (decide (length a6+[32,65,78,68,32].length≤1099511627776)) (Tr.chk a7 (Tr.chk a9
  (Tr.chk (decide (length a10+length a11≤1099511627776)) (Tr.chk (decide (length a12+[41].length≤1099511627776)) (Tr.re (AV.str (a12++[41])) []))))))))) (Tr.br (ze.op x0==[111,114]) (Tr.chk a0 (Tr.chk a2 (Tr.chk a5 (Tr.chk (decide (length a6+[32,79,82,32].length≤1099511627776)) (Tr.chk a7 (Tr.chk a9
  (Tr.chk (decide (length a13+length a11≤1099511627776)) (Tr.chk (decide (length a14+[41].length≤1099511627776)) (Tr.re (AV.str (a14++[41])) []))))))))) (Tr.chk a0 (Tr.chk a2 (Tr.chk a5 (Tr.chk (decide (length a6+[32].length≤1099511627776)) (Tr.chk (decide (length a15+length (ze.op x0)≤1099511627776))
  (Tr.chk (decide (length a16+[32].length≤1099511627776)) (Tr.chk a7 (Tr.chk a9 (Tr.chk (decide (length a17+length a11≤1099511627776)) (Tr.chk (decide (length a18+[41].length≤1099511627776)) (Tr.re (AV.str (a18++[41])) []))))))))))))))))
theorem W7 (g:Sem Sh.expr→Sem Sh.str) (c:Sem Sh.expr→Bool) (x0:Sem Sh.expr):rn (BB g c) 0 MU Tryz.f242 [zz Sh.expr x0] []=(Mn g c x0).map (lf Tryz.f242 e0):=by kernel_rfl
def pZ (o:Option (zx (List.map some [Sh.str]))):Sem Sh.str:=(fun r:zx (List.map some [Sh.str])=>r.1) (o.getD (bF [Sh.str]))
def Rm (g:Sem Sh.expr→Sem Sh.str) (c:Sem Sh.expr→Bool) (x0:Sem Sh.expr):Option (zx (List.map some [Sh.str])):=zT [Sh.str] t0 100000000 (Mn g c x0)
def iD:Nat→Sem Sh.expr→Option (zx (List.map some [Sh.str]))
 | 0=>fun _=>none
 | n+1=>Rm (fun x0=>pZ (iD n x0)) fun x0=>(iD n x0).isSome
theorem ME:zA BH.P 242 Tryz.f242 1:=aL (by kernel_rfl)
theorem C6:∀ n,FK 242 (zC [Sh.expr] [Sh.str] (fun x=>(iD n x.1).isSome) fun x=>(pZ (iD n x.1),()))
 | 0=>cQ ⟨Tryz.f242,ME.1,ME.2.1,ME.2.2.1⟩ (fun _=>rfl)
 | n+1=>g6 (E:=BB (fun x0=>pZ (iD n x0)) (fun x0=>(iD n x0).isSome)) (ks:=[Sh.expr]) (outs:=[Sh.str]) (keep:=MU) (gas:=400) (n:=100000000) (e:=e0) (t:=t0) (i:=fun x=>Mn (fun x0=>pZ (iD n x0)) (fun x0=>(iD n x0).isSome) x.1) (FJ (C6 n)) (Ya _ _) (fun x=>W7 _ _ x.1) (KG _ _ _ _ _) (fun _=>by kernel_rfl) (fun _=>by kernel_rfl)
def IG (x0:Sem Sh.expr):Option (zx (List.map some [Sh.str])):=iD 16 x0
def tv (x0:Sem Sh.expr):Bool:=(IG x0).isSome
def rA (x0:Sem Sh.expr):Sem Sh.str:=pZ (IG x0)
def Se:zD:=zC [Sh.expr] [Sh.str] (fun x=>tv x.1) fun x=>(rA x.1,())
theorem Pm:FK 242 Se:=C6 16

def BI:=BH.add 242 Se
theorem kR:zm BI:=ve.add Pm
end
noncomputable section

abbrev XM:=jL [(6,[1,3])]
inductive ym where
 | h6 (i3:Int) (z0:zu [CP.d zq])
abbrev zcP:ym→Nat×St
 | .h6 i3 z0=>(6,⟨tm 82 [(1,AV.ptr 0 0),(3,AV.int .i64 i3)],[AO.box (bh [] [CP.d zq] z0)]⟩)
def zdE (x0:Sem zq):Tr (ym ⊕ zV):=
 let a0:=(2,0,x0.2)
 Tr.br (x0.1==1) (Tr.chk (tD x0.2) (Tr.re (AV.bool (wY x0.2)) []))
 (Tr.br (x0.1==2) (Tr.to (ym.h6 0 (x0,())))
  (Tr.br (x0.1==3) (Tr.chk (mB a0) (Tr.re (AV.bool (wB a0)) [])) (Tr.br (x0.1==4) (Tr.re (AV.bool (bif x0.2==[40] then true else bif x0.2==[41] then true else bif x0.2==[44] then true else bif x0.2==[61] then true else bif x0.2==[60] then true else bif x0.2==[43] then true else bif x0.2==[45] then true else x0.2==[42])) []) (Tr.re (AV.kb false) []))))
def zf5:ym→Tr (ym ⊕ zV)
 | .h6 i3 z0=>
  let a0:=(↑(length z0.1.2):Int)
  let a1:=(↑(getD z0.1.2 i3.toNat 0).toNat:Int)
  Tr.br (decide (i3 < a0))
  (Tr.chk (zF i3 (length z0.1.2))
   (Tr.chk (fV a1) (Tr.br (!iG a1) (Tr.re (AV.kb false) []) (Tr.to (ym.h6 (IntKind.i64.wrap (i3+1)) z0)))))
  (Tr.re (AV.bool (bif decide (1≤a0) then decide (a0≤19) else false)) [])
def GS (x0:Sem zq):=zT [Sh.bool] zf5 100000000 (zdE x0)
def mE (x0:Sem zq):=(GS x0).isSome
def sB (x0:Sem zq):=o1 (GS x0)
def Sp:=FT [zq] [Sh.bool] fun x=>GS x.1
theorem Pw:FK 180 Sp:=kR.T1 (f:=Tryz.f180) (keep:=XM) (e:=zcP)

abbrev MQ:Nat→zY:=fun _=>{ }
theorem X5:zA BI.P 112 Tryz.f112 2:=aL (by kernel_rfl)
def Mk (y:zu zJ) (x0:TS):Tr (Empty ⊕ zV):=
 let a0:=(y.1,y.2.1,y.2.2.1,())
 let a1:=bc a0 x0
 Tr.chk (aN a0 x0)
 (Tr.br (!a1.1) (Tr.re (AV.agg [AV.str [],AV.int .i64 0,AV.int .i64 0,AV.str [],AV.str [],AV.nils]) (bT zJ a1.2))
  (Tr.br (x0==[87,72,69,82,69]) Tr.err (Tr.chk (zK (a1.2.1,a1.2.2.1,a1.2.2.2.1,()) [40]) Tr.err)))
theorem W1 (y:zu zJ) (x0:TS):rn BI 1 MQ Tryz.f112 [AV.ptr 0 0,zz Sh.str x0] (bT zJ y)=(Mk y x0).map (lf Tryz.f112 e0):=by kernel_rfl
def IX (y:zu zJ) (x0:TS):Option (zx (List.map some [Sh.expr])×zu zJ):=yf [Sh.expr] zJ t0 100000000 (Mk y x0)
def ck (y:zu zJ) (x0:TS):Bool:=(IX y x0).isSome
def da (y:zu zJ) (x0:TS):(Sem Sh.expr)×zu zJ:=(fun r:zx (List.map some [Sh.expr])×zu zJ=>(r.1.1,r.2)) ((IX y x0).getD (bF [Sh.expr],fK zJ))
def R4:zD:=xW zJ [Sh.str] [Sh.expr] zJ (fun y x=>ck y x.1) fun y x=>(((da y x.1).1,()),(da y x.1).2)
theorem Pc:FK 112 R4:=qG (ps:=zJ) (ks:=[Sh.str]) (outs:=[Sh.expr]) (keep:=MQ) (gas:=400) (n:=100000000) (e:=e0) (t:=t0) (i:=fun y x=>Mk y x.1) kR X5 (fun y x=>W1 y x.1) (KG _ _ _ _ _) (fun _ _=>by kernel_rfl) (fun _ _=>by kernel_rfl)

def zic (x0:TS):Tr (Empty ⊕ zV):=
 Tr.chk (tD x0&&bif wY x0 then Cp x0 else true) (Tr.re (AV.bool (bif wY x0 then !Oe x0 else false)) [])
def Ct (x0:TS):=zT [Sh.bool] t0 100000000 (zic x0)
def cv (x0:TS):=(Ct x0).isSome
def ez (x0:TS):=o1 (Ct x0)
def zaD:=FT [Sh.str] [Sh.bool] fun x=>Ct x.1
theorem Wa:FK 118 zaD:=kR.T1 (f:=Tryz.f118) (keep:=k0) (e:=e0)

def Ts:=BI.addL [(180,Sp),(112,R4),(118,zaD)]
theorem m6:zm Ts:=kR.addL <| fc Pw <| fc Pc <| fc Wa gZ
end
noncomputable section

abbrev zex:=jL [(3,[0,4,5]),(11,[0,4,5,6,7,8]),(15,[0,4,5,6,7,8]),(20,[0,4,5,8])]
inductive ef where
 | h3 (s0:TS) (i5:Int)
 | h11 (s0:TS) (i5:Int) (i6:Int) (i7:Int) (z0:zu [CP.d zq])
 | h15 (s0:TS) (i5:Int) (i6:Int) (i7:Int) (z0:zu [CP.d zq])
 | h20 (s0:TS) (i5:Int) (z0:zu [CP.d zq])
 | h3b (s0:TS) (i5:Int) (lh_0:LF)
 | h11b (s0:TS) (i5:Int) (i6:Int) (i7:Int) (z1:zu [CP.d zq]) (lh_0:LF)
 | h15b (s0:TS) (i5:Int) (i6:Int) (i7:Int) (z1:zu [CP.d zq]) (lh_0:LF)
 | h20b (s0:TS) (i5:Int) (z1:zu [CP.d zq]) (lh_0:LF)
abbrev zgS:ef→Nat×St
 | .h3 s0 i5=>(3,⟨tm 131 [(0,AV.str s0),(4,AV.nils),(5,AV.int .i64 i5)],[]⟩)
 | .h11 s0 i5 i6 i7 z0=>(11,⟨tm 131 [(0,AV.str s0),(4,AV.nils),(5,AV.int .i64 i5),(6,AV.int IntKind.u8 i6),(7,AV.int .i64 i7),(8,AV.ptr 0 0)],[AO.box (bh [] [CP.d zq] z0)]⟩)
 | .h15 s0 i5 i6 i7 z0=>(15,⟨tm 131 [(0,AV.str s0),(4,AV.nils),(5,AV.int .i64 i5),(6,AV.int IntKind.u8 i6),(7,AV.int .i64 i7),(8,AV.ptr 0 0)],[AO.box (bh [] [CP.d zq] z0)]⟩)
 | .h20 s0 i5 z0=>(20,⟨tm 131 [(0,AV.str s0),(4,AV.nils),(5,AV.int .i64 i5),(8,AV.ptr 0 0)],[AO.box (bh [] [CP.d zq] z0)]⟩)
 | .h3b s0 i5 lh_0=>(3,⟨tm 131 [(0,AV.str s0),(4,AV.vec 0),(5,AV.int .i64 i5)],[AO.vec zq lh_0]⟩)
 | .h11b s0 i5 i6 i7 z1 lh_0=>(11,⟨tm 131 [(0,AV.str s0),(4,AV.vec 0),(5,AV.int .i64 i5),(6,AV.int IntKind.u8 i6),(7,AV.int .i64 i7),(8,AV.ptr 1 0)],[AO.vec zq lh_0,AO.box (bh [] [CP.d zq] z1)]⟩)
 | .h15b s0 i5 i6 i7 z1 lh_0=>(15,⟨tm 131 [(0,AV.str s0),(4,AV.vec 0),(5,AV.int .i64 i5),(6,AV.int IntKind.u8 i6),(7,AV.int .i64 i7),(8,AV.ptr 1 0)],[AO.vec zq lh_0,AO.box (bh [] [CP.d zq] z1)]⟩)
 | .h20b s0 i5 z1 lh_0=>(20,⟨tm 131 [(0,AV.str s0),(4,AV.vec 0),(5,AV.int .i64 i5),(8,AV.ptr 1 0)],[AO.vec zq lh_0,AO.box (bh [] [CP.d zq] z1)]⟩)
def zie (x0:TS):Tr (ef ⊕ zV):=
 Tr.to (ef.h3 x0 0)
def ziS:ef→Tr (ef ⊕ zV)
 | .h3 s0 i5=>
  let a0:=(↑(getD s0 i5.toNat 0).toNat:Int)
  let a1:=IntKind.i64.wrap (i5+1)
  let a2:=List.take (a1.toNat - i5.toNat) (List.drop i5.toNat s0)
  let a3:=((4,a2),())
  let a4:=(4,a2)
  let a5:=[a4]
  Tr.br (decide (i5 < (↑(length s0):Int)))
  (Tr.chk (zF i5 (length s0))
   (Tr.br (bif a0==32 then true else a0==10) (Tr.to (ef.h3 s0 a1)) (Tr.chk (decide (0≤i5)&&decide (i5≤a1)&&decide (a1≤(↑(length s0):Int))) (Tr.chk (kw a0) (Tr.br (p9 a0) (Tr.to (ef.h11 s0 a1 a0 i5 a3)) (Tr.chk (fV a0) (Tr.br (iG a0) (Tr.to (ef.h15 s0 a1 a0 i5 a3)) (Tr.br (a0==39) (Tr.to (ef.h20 s0 a1 ((3,[]),()))) (Tr.chk (mE a4)
   (Tr.br (!sB a4) (Tr.re (AV.tup [AV.nils,AV.kb false]) []) (Tr.chk (decide (a5.length≤1073741824)) (Tr.to (ef.h3b s0 a1 a5)))))))))))))
  (Tr.re (AV.tup [AV.nils,AV.bool true]) [])
 | .h11 s0 i5 i6 i7 z0=>
  let a0:=decide (i5 < (↑(length s0):Int))
  let a1:=(↑(getD s0 i5.toNat 0).toNat:Int)
  let a2:=List.take (i5.toNat - i7.toNat) (List.drop i7.toNat s0)
  let a3:=(1,a2)
  let a4:=[a3]
  Tr.chk (bif a0 then zF i5 (length s0)&&tE a1 else true)
  (Tr.br (bif a0 then GV a1 else false) (Tr.to (ef.h11 s0 (IntKind.i64.wrap (i5+1)) i6 i7 z0))
   (Tr.chk (decide (0≤i7)&&decide (i7≤i5)&&decide (i5≤(↑(length s0):Int))) (Tr.chk (fV i6) (Tr.br (iG i6) (Tr.to (ef.h15 s0 i5 i6 i7 ((1,a2),()))) (Tr.br (i6==39) (Tr.to (ef.h20 s0 i5 ((3,[]),()))) (Tr.chk (mE a3) (Tr.br (!sB a3) (Tr.re (AV.tup [AV.nils,AV.kb false]) []) (Tr.chk (decide (a4.length≤1073741824)) (Tr.to (ef.h3b s0 i5 a4))))))))))
 | .h15 s0 i5 i6 i7 z0=>
  let a0:=decide (i5 < (↑(length s0):Int))
  let a1:=(↑(getD s0 i5.toNat 0).toNat:Int)
  let a2:=(2,List.take (i5.toNat - i7.toNat) (List.drop i7.toNat s0))
  let a3:=[a2]
  Tr.chk (bif a0 then zF i5 (length s0)&&fV a1 else true)
  (Tr.br (bif a0 then iG a1 else false) (Tr.to (ef.h15 s0 (IntKind.i64.wrap (i5+1)) i6 i7 z0))
   (Tr.chk (decide (0≤i7)&&decide (i7≤i5)&&decide (i5≤(↑(length s0):Int))) (Tr.br (i6==39) (Tr.to (ef.h20 s0 i5 ((3,[]),()))) (Tr.chk (mE a2) (Tr.br (!sB a2) (Tr.re (AV.tup [AV.nils,AV.kb false]) []) (Tr.chk (decide (a3.length≤1073741824)) (Tr.to (ef.h3b s0 i5 a3))))))))
 | .h20 s0 i5 z0=>
  let a0:=decide (i5 < (↑(length s0):Int))
  let a1:=(↑(getD s0 i5.toNat 0).toNat:Int)
  let a2:=a1 != 39
  let a3:=IntKind.i64.wrap (i5+1)
  let a4:=decide (a3 < (↑(length s0):Int))
  let a5:=List.take (a3.toNat - i5.toNat) (List.drop i5.toNat s0)
  let a6:=((z0.1.1,z0.1.2++a5),())
  Tr.chk (bif a0 then zF i5 (length s0)&&bif a2 then true else bif a4 then zF a3 (length s0) else true else true)
  (Tr.br (bif a0 then bif a2 then true else bif a4 then (↑(getD s0 a3.toNat 0).toNat:Int)==39 else false else false)
   (Tr.chk (decide (0≤i5)&&decide (i5≤a3)&&decide (a3≤(↑(length s0):Int))) (Tr.chk (decide (length z0.1.2+a5.length≤1099511627776)) (Tr.chk (zF i5 (length s0)) (Tr.br (a1==39) (Tr.to (ef.h20 s0 (IntKind.i64.wrap (a3+1)) a6)) (Tr.to (ef.h20 s0 a3 a6))))))
   (Tr.br (decide (i5 ≥ (↑(length s0):Int))) (Tr.re (AV.tup [AV.nils,AV.kb false]) []) (Tr.chk (mE z0.1) (Tr.br (!sB z0.1) (Tr.re (AV.tup [AV.nils,AV.kb false]) []) (Tr.chk (decide ([z0.1].length≤1073741824)) (Tr.to (ef.h3b s0 a3 [z0.1])))))))
 | .h3b s0 i5 lh_0=>
  let a0:=(↑(getD s0 i5.toNat 0).toNat:Int)
  let a1:=IntKind.i64.wrap (i5+1)
  let a2:=List.take (a1.toNat - i5.toNat) (List.drop i5.toNat s0)
  let a3:=((4,a2),())
  let a4:=(4,a2)
  let a5:=[a4]
  Tr.br (decide (i5 < (↑(length s0):Int)))
  (Tr.chk (zF i5 (length s0))
   (Tr.br (bif a0==32 then true else a0==10) (Tr.to (ef.h3b s0 a1 lh_0)) (Tr.chk (decide (0≤i5)&&decide (i5≤a1)&&decide (a1≤(↑(length s0):Int))) (Tr.chk (kw a0) (Tr.br (p9 a0) (Tr.to (ef.h11b s0 a1 a0 i5 a3 lh_0)) (Tr.chk (fV a0) (Tr.br (iG a0) (Tr.to (ef.h15b s0 a1 a0 i5 a3 lh_0)) (Tr.br (a0==39) (Tr.to (ef.h20b s0 a1 ((3,[]),()) lh_0))
   (Tr.chk (mE a4) (Tr.br (!sB a4) (Tr.re (AV.tup [AV.nils,AV.kb false]) []) (Tr.chk (decide (lh_0.length+a5.length≤1073741824)) (Tr.to (ef.h3b s0 a1 (lh_0++a5))))))))))))))
  (Tr.re (AV.tup [AV.vec 0,AV.bool (decide ((↑lh_0.length:Int)≤400))]) [AO.vec zq lh_0])
 | .h11b s0 i5 i6 i7 z1 lh_0=>
  let a0:=decide (i5 < (↑(length s0):Int))
  let a1:=(↑(getD s0 i5.toNat 0).toNat:Int)
  let a2:=List.take (i5.toNat - i7.toNat) (List.drop i7.toNat s0)
  let a3:=(1,a2)
  let a4:=[a3]
  Tr.chk (bif a0 then zF i5 (length s0)&&tE a1 else true)
  (Tr.br (bif a0 then GV a1 else false) (Tr.to (ef.h11b s0 (IntKind.i64.wrap (i5+1)) i6 i7 z1 lh_0))
   (Tr.chk (decide (0≤i7)&&decide (i7≤i5)&&decide (i5≤(↑(length s0):Int))) (Tr.chk (fV i6) (Tr.br (iG i6) (Tr.to (ef.h15b s0 i5 i6 i7 ((1,a2),()) lh_0)) (Tr.br (i6==39) (Tr.to (ef.h20b s0 i5 ((3,[]),()) lh_0)) (Tr.chk (mE a3) (Tr.br (!sB a3) (Tr.re (AV.tup [AV.nils,AV.kb false]) [])
   (Tr.chk (decide (lh_0.length+a4.length≤1073741824)) (Tr.to (ef.h3b s0 i5 (lh_0++a4)))))))))))
 | .h15b s0 i5 i6 i7 z1 lh_0=>
  let a0:=decide (i5 < (↑(length s0):Int))
  let a1:=(↑(getD s0 i5.toNat 0).toNat:Int)
  let a2:=(2,List.take (i5.toNat - i7.toNat) (List.drop i7.toNat s0))
  let a3:=[a2]
  Tr.chk (bif a0 then zF i5 (length s0)&&fV a1 else true)
  (Tr.br (bif a0 then iG a1 else false) (Tr.to (ef.h15b s0 (IntKind.i64.wrap (i5+1)) i6 i7 z1 lh_0))
   (Tr.chk (decide (0≤i7)&&decide (i7≤i5)&&decide (i5≤(↑(length s0):Int))) (Tr.br (i6==39) (Tr.to (ef.h20b s0 i5 ((3,[]),()) lh_0)) (Tr.chk (mE a2) (Tr.br (!sB a2) (Tr.re (AV.tup [AV.nils,AV.kb false]) []) (Tr.chk (decide (lh_0.length+a3.length≤1073741824)) (Tr.to (ef.h3b s0 i5 (lh_0++a3)))))))))
 | .h20b s0 i5 z1 lh_0=>
  let a0:=decide (i5 < (↑(length s0):Int))
  let a1:=(↑(getD s0 i5.toNat 0).toNat:Int)
  let a2:=a1 != 39
  let a3:=IntKind.i64.wrap (i5+1)
  let a4:=decide (a3 < (↑(length s0):Int))
  let a5:=List.take (a3.toNat - i5.toNat) (List.drop i5.toNat s0)
  let a6:=((z1.1.1,z1.1.2++a5),())
  Tr.chk (bif a0 then zF i5 (length s0)&&bif a2 then true else bif a4 then zF a3 (length s0) else true else true)
  (Tr.br (bif a0 then bif a2 then true else bif a4 then (↑(getD s0 a3.toNat 0).toNat:Int)==39 else false else false)
   (Tr.chk (decide (0≤i5)&&decide (i5≤a3)&&decide (a3≤(↑(length s0):Int))) (Tr.chk (decide (length z1.1.2+a5.length≤1099511627776)) (Tr.chk (zF i5 (length s0)) (Tr.br (a1==39) (Tr.to (ef.h20b s0 (IntKind.i64.wrap (a3+1)) a6 lh_0)) (Tr.to (ef.h20b s0 a3 a6 lh_0))))))
   (Tr.br (decide (i5 ≥ (↑(length s0):Int))) (Tr.re (AV.tup [AV.nils,AV.kb false]) []) (Tr.chk (mE z1.1) (Tr.br (!sB z1.1) (Tr.re (AV.tup [AV.nils,AV.kb false]) []) (Tr.chk (decide (lh_0.length+[z1.1].length≤1073741824)) (Tr.to (ef.h3b s0 a3 (lh_0++[z1.1]))))))))
def GR (x0:TS):=zT [zq.sl,Sh.bool] ziS 100000000 (zie x0)
def Oc (x0:TS):=(GR x0).isSome
def AK (x0:TS):=o2 (GR x0)
def zaF:=FT [Sh.str] [zq.sl,Sh.bool] fun x=>GR x.1
theorem Wc:FK 105 zaF:=m6.T1 (f:=Tryz.f105) (keep:=zex) (e:=zgS)

def zdv (x0:Sem Sh.expr) (x1:TS):Tr (Empty ⊕ zV):=
 let a0:=x1++[32,67,72,69,67,75,32,40,32]
 let a1:=a0++rA (zB x0)
 Tr.br (ze.op x0==[])
 (Tr.chk (fU (zB x0) (ze.mk [] (0,0,[]) [] [])) (Tr.re (AV.tup [AV.str [],AV.bool (fT (zB x0) (ze.mk [] (0,0,[]) [] []))]) []))
 (Tr.chk (wK (zB x0))
  (Tr.br (!EB (zB x0)) (Tr.re (AV.tup [AV.str [],AV.kb false]) []) (Tr.br (x1==[87,72,69,82,69]) (Tr.chk (tv (zB x0)) (Tr.chk (decide ([32,87,72,69,82,69,32].length+length (rA (zB x0))≤1099511627776)) (Tr.re (AV.tup [AV.str ([32,87,72,69,82,69,32]++rA (zB x0)),AV.kb true]) [])))
  (Tr.chk (decide (length x1+[32,67,72,69,67,75,32,40,32].length≤1099511627776)) (Tr.chk (tv (zB x0)) (Tr.chk (decide (length a0+length (rA (zB x0))≤1099511627776)) (Tr.chk (decide (length a1+[32,41].length≤1099511627776)) (Tr.re (AV.tup [AV.str (a1++[32,41]),AV.kb true]) []))))))))
def Cx (x0:Sem Sh.expr) (x1:TS):=zT [Sh.str,Sh.bool] t0 100000000 (zdv x0 x1)
def Cw (x0:Sem Sh.expr) (x1:TS):=(Cx x0 x1).isSome
def GY (x0:Sem Sh.expr) (x1:TS):=o2 (Cx x0 x1)
def Sb:=FT [Sh.expr,Sh.str] [Sh.str,Sh.bool] fun x=>Cx x.1 x.2.1
theorem Pj:FK 239 Sb:=m6.T1 (f:=Tryz.f239) (keep:=k0) (e:=e0)

abbrev XI:=jL [(3,[0,4,5])]
inductive tZ where
 | h3 (l0:LS) (s4:List UInt8) (i5:Int)
abbrev zcM:tZ→Nat×St
 | .h3 l0 s4 i5=>(3,⟨tm 37 [(0,AV.sl Sh.str l0),(4,AV.str s4),(5,AV.int .i64 i5)],[]⟩)
def zdy (x0:Sem Sh.str.sl):Tr (tZ ⊕ zV):=
 Tr.to (tZ.h3 x0 [] 0)
def zf2:tZ→Tr (tZ ⊕ zV)
 | .h3 l0 s4 i5=>
  let a0:=l0.getD i5.toNat (zj Sh.str)
  let a1:=s4++[32,44,32]
  let a2:=IntKind.i64.wrap (i5+1)
  let a3:=decide (1≤(↑l0.length:Int))
  Tr.br (decide (i5 < (↑l0.length:Int)))
  (Tr.chk (zF i5 l0.length)
   (Tr.chk (cv a0) (Tr.br (!ez a0) (Tr.re (AV.tup [AV.str [],AV.kb false]) []) (Tr.br (decide (i5 > 0)) (Tr.chk (decide (s4.length+[32,44,32].length≤1099511627776)) (Tr.chk (zF i5 l0.length) (Tr.chk (decide (length a1+length a0≤1099511627776)) (Tr.to (tZ.h3 l0 (a1++a0) a2)))))
   (Tr.chk (zF i5 l0.length) (Tr.chk (decide (s4.length+length a0≤1099511627776)) (Tr.to (tZ.h3 l0 (s4++a0) a2))))))))
  (Tr.re (AV.tup [AV.str (bif a3 then s4 else s4),AV.bool (bif a3 then decide ((↑l0.length:Int)≤8) else false)]) [])
def w7 (x0:Sem Sh.str.sl):=zT [Sh.str,Sh.bool] zf2 100000000 (zdy x0)
def Oj (x0:Sem Sh.str.sl):=(w7 x0).isSome
def Rs (x0:Sem Sh.str.sl):=o2 (w7 x0)
def Sf:=FT [Sh.str.sl] [Sh.str,Sh.bool] fun x=>w7 x.1
theorem Pn:FK 243 Sf:=m6.T1 (f:=Tryz.f243) (keep:=XI) (e:=zcM)

def Tt:=Ts.addL [(105,zaF),(239,Sb),(243,Sf)]
theorem y0:zm Tt:=m6.addL <| fc Wc <| fc Pj <| fc Pn gZ
end
noncomputable section

abbrev XG:=jL [(4,[1,4,5,6]),(15,[1,4,5,8]),(20,[1,4,5,9])]
inductive lR where
 | h4 (b4:Bool) (s5:zl) (i6:Int) (z0:zu [CP.d zp])
 | h15 (b4:Bool) (s5:zl) (i8:Int) (z0:zu [CP.d zp])
 | h20 (b4:Bool) (s5:zl) (i9:Int) (z0:zu [CP.d zp])
abbrev zcK:lR→Nat×St
 | .h4 b4 s5 i6 z0=>(4,⟨tm 174 [(1,AV.ptr 0 0),(4,AV.bool b4),(5,AV.str s5),(6,AV.int .i64 i6)],[AO.box (bh [] [CP.d zp] z0)]⟩)
 | .h15 b4 s5 i8 z0=>(15,⟨tm 174 [(1,AV.ptr 0 0),(4,AV.bool b4),(5,AV.str s5),(8,AV.int .i64 i8)],[AO.box (bh [] [CP.d zp] z0)]⟩)
 | .h20 b4 s5 i9 z0=>(20,⟨tm 174 [(1,AV.ptr 0 0),(4,AV.bool b4),(5,AV.str s5),(9,AV.int .i64 i9)],[AO.box (bh [] [CP.d zp] z0)]⟩)
def zdw (x0:Sem zp):Tr (lR ⊕ zV):=
 let a0:=[67,82,69,65,84,69,32,84,65,66,76,69,32]++x0.2.1
 let a1:=(↑(length x0.2.2.2.2.1):Int)
 let a2:=(↑(length x0.2.2.2.2.2.2.1):Int)
 let a3:=(↑(length x0.2.2.2.2.2.2.2.1):Int)
 Tr.chk (cv x0.2.2.2.2.2.1)
 (Tr.chk (decide ([67,82,69,65,84,69,32,84,65,66,76,69,32].length+length x0.2.1≤1099511627776))
  (Tr.chk (decide (length a0+[32,40,32].length≤1099511627776)) (Tr.to (lR.h4 (bif ez x0.2.2.2.2.2.1 then bif decide (1≤a1) then bif decide (a1≤8) then bif decide (a2≤8) then decide (a3≤8) else false else false else false else false) (a0++[32,40,32]) 0 (x0,())))))
def zf0:lR→Tr (lR ⊕ zV)
 | .h4 b4 s5 i6 z0=>
  let a0:=(↑(length z0.1.2.2.2.2.1):Int)
  let a1:=getD z0.1.2.2.2.2.1 i6.toNat (zj zi)
  let a2:=a1.1++[32]
  let a3:=[[],[73,78,84],[84,69,88,84],[66,79,79,76]].getD (toNat a1.2.1) (zj Sh.str)
  let a4:=a2++a3
  let a5:=s5++a4
  let a6:=a5++[32,78,79,84,32,78,85,76,76]
  let a7:=IntKind.i64.wrap (i6+1)
  let a8:=[75,69,89,32,40,32]++z0.1.2.2.2.2.2.1
  let a9:=a8++[32,41]
  Tr.br (decide (i6 < a0))
  (Tr.chk (zF i6 (length z0.1.2.2.2.2.1))
   (Tr.chk (cv a1.1) (Tr.br (bif !ez a1.1 then true else bif decide (a1.2.1 < 1) then true else decide (a1.2.1 > 3)) (Tr.re (AV.tup [AV.str [],AV.kb false]) []) (Tr.chk (decide (length a1.1+[32].length≤1099511627776)) (Tr.chk (zF a1.2.1 [[],[73,78,84],[84,69,88,84],[66,79,79,76]].length) (Tr.chk (decide (length a2+length a3≤1099511627776))
   (Tr.chk (decide (length s5+length a4≤1099511627776)) (Tr.br a1.2.2 (Tr.chk (decide (length a5+[32,78,79,84,32,78,85,76,76].length≤1099511627776)) (Tr.chk (decide (length a6+[32,44,32].length≤1099511627776)) (Tr.to (lR.h4 b4 (a6++[32,44,32]) a7 z0))))
   (Tr.chk (decide (length a5+[32,44,32].length≤1099511627776)) (Tr.to (lR.h4 b4 (a5++[32,44,32]) a7 z0)))))))))))
  (Tr.chk (decide ([75,69,89,32,40,32].length+length z0.1.2.2.2.2.2.1≤1099511627776))
   (Tr.chk (decide (length a8+[32,41].length≤1099511627776)) (Tr.chk (decide (length s5+length a9≤1099511627776)) (Tr.to (lR.h15 b4 (s5++a9) 0 z0)))))
 | .h15 b4 s5 i8 z0=>
  let a0:=(↑(length z0.1.2.2.2.2.2.2.1):Int)
  let a1:=zF i8 (length z0.1.2.2.2.2.2.2.1)
  let a2:=getD z0.1.2.2.2.2.2.2.1 i8.toNat (zj Sh.str)
  let a3:=[32,44,32,85,78,73,81,85,69,32,40,32]++a2
  let a4:=a3++[32,41]
  Tr.br (decide (i8 < a0))
  (Tr.chk (bif b4 then a1&&cv a2 else true)
   (Tr.chk a1 (Tr.chk (decide ([32,44,32,85,78,73,81,85,69,32,40,32].length+length a2≤1099511627776)) (Tr.chk (decide (length a3+[32,41].length≤1099511627776)) (Tr.chk (decide (length s5+length a4≤1099511627776)) (Tr.to (lR.h15 (bif b4 then ez a2 else false) (s5++a4) (IntKind.i64.wrap (i8+1)) z0)))))))
  (Tr.to (lR.h20 b4 s5 0 z0))
 | .h20 b4 s5 i9 z0=>
  let a0:=(↑(length z0.1.2.2.2.2.2.2.2.1):Int)
  let a1:=zF i9 (length z0.1.2.2.2.2.2.2.2.1)
  let a2:=getD z0.1.2.2.2.2.2.2.2.1 i9.toNat (zj bG)
  let a3:=ez a2.1
  let a4:=[32,44,32,82,69,70,69,82,69,78,67,69,83,32,40,32]++a2.1
  let a5:=a4++[32,41,32]
  let a6:=a5++a2.2
  let a7:=zB z0.1.2.2.2.2.2.2.2.2.1
  let a8:=GY a7 [32,44]
  let a9:=s5++a8.1
  let a10:=a9++[32,41]
  Tr.br (decide (i9 < a0))
  (Tr.chk (bif b4 then a1&&(cv a2.1&&bif a3 then a1&&cv a2.2 else true) else true)
   (Tr.chk a1 (Tr.chk (decide ([32,44,32,82,69,70,69,82,69,78,67,69,83,32,40,32].length+length a2.1≤1099511627776)) (Tr.chk (decide (length a4+[32,41,32].length≤1099511627776)) (Tr.chk a1 (Tr.chk (decide (length a5+length a2.2≤1099511627776)) (Tr.chk (decide (length s5+length a6≤1099511627776))
   (Tr.to (lR.h20 (bif b4 then bif a3 then ez a2.2 else false else false) (s5++a6) (IntKind.i64.wrap (i9+1)) z0)))))))))
  (Tr.chk (Cw a7 [32,44])
   (Tr.chk (decide (length s5+length a8.1≤1099511627776)&&decide (length a9+[32,41].length≤1099511627776)) (Tr.re (AV.tup [AV.str (bif b4 then a10 else a10),AV.bool (bif b4 then a8.2 else false)]) [])))
def rC (x0:Sem zp):=zT [Sh.str,Sh.bool] zf0 100000000 (zdw x0)
def Ke (x0:Sem zp):=(rC x0).isSome
def N8 (x0:Sem zp):=o2 (rC x0)
def Sc:=FT [zp] [Sh.str,Sh.bool] fun x=>rC x.1
theorem Pk:FK 240 Sc:=y0.T1 (f:=Tryz.f240) (keep:=XG) (e:=zcK)

def LD:=Tt.addL [(240,Sc)]
theorem vd:zm LD:=y0.addL <| fc Pk <| gZ
end
noncomputable section
abbrev zcD:List CP:=[.d .str,.d .str,.d .str,.nil,.nil,.d .str,.nil,.nil,.d .str,.d zg,.d zg,.d .str,.d .str,.nil,.d (.sl zf),.nil,.d .str,.d zg,.d zg,.d .str,.d .str,.nil,.d .str]
abbrev zcE:List CP:=[.d .str,.d .str,.d .str,.nil,.nil,.d .str,.nil,.nil,.d .str,.d zg,.d zg,.d .str,.d .str,.nil,.nil,.d (.sl aK),.d .expr,.d .str]

abbrev zeu:=jL [(15,[1,3,5,12,13]),(27,[1,3,5,8,9,14,15])]
inductive xT where
 | h15 (s12:List UInt8) (i13:Int) (z0:zu lQ) (z1:zu eJ) (z2:zu zcD)
 | h27 (s8:TS) (b9:Sem Sh.bool) (s14:List UInt8) (i15:Int) (z0:zu lQ) (z1:zu eJ) (z2:zu zcE)
abbrev zgQ:xT→Nat×St
 | .h15 s12 i13 z0 z1 z2=>(15,⟨tm 430 [(1,AV.ptr 0 0),(3,AV.ptr 1 0),(5,AV.ptr 2 0),(12,AV.str s12),(13,AV.int .i64 i13)],[AO.box (bh [] lQ z0),AO.box (bh [] eJ z1),AO.box (bh [] zcD z2)]⟩)
 | .h27 s8 b9 s14 i15 z0 z1 z2=>(27,⟨tm 430 [(1,AV.ptr 0 0),(3,AV.ptr 1 0),(5,AV.ptr 2 0),(8,AV.str s8),(9,AV.bool b9),(14,AV.str s14),(15,AV.int .i64 i15)],[AO.box (bh [] lQ z0),AO.box (bh [] eJ z1),AO.box (bh [] zcE z2)]⟩)
def zib (x0:Sem zp):Tr (xT ⊕ zV):=
 let a0:=zB x0.2.2.2.2.2.2.2.2.1
 let a1:=zB x0.2.2.2.2.2.2.2.2.2.2.2.1
 let a2:=(x0.1,x0.2.1,x0.2.2.1,x0.2.2.2.1,x0.2.2.2.2.1,x0.2.2.2.2.2.1,x0.2.2.2.2.2.2.1,x0.2.2.2.2.2.2.2.1,a0,x0.2.2.2.2.2.2.2.2.2.1,x0.2.2.2.2.2.2.2.2.2.2.1,a1,x0.2.2.2.2.2.2.2.2.2.2.2.2)
 let a3:=N8 a2
 let a4:=GY a1 [87,72,69,82,69]
 let a5:=[68,69,76,69,84,69,32,70,82,79,77,32]++x0.2.1
 let a6:=[83,69,76,69,67,84,32,42,32,70,82,79,77,32]++x0.2.1
 let a7:=[77,73,71,82,65,84,69,32,67,79,80,89,32]++x0.2.1
 let a8:=a7++[32,70,82,79,77,32]
 let a9:=a8++x0.2.2.1
 let a10:=a9++[32,40,32]
 let a11:=Rs x0.2.2.2.1
 let a12:=a10++a11.1
 let a13:=a12++[32,41]
 let a14:=GY a0 []
 let a15:=cv x0.2.2.1
 let a16:=ez x0.2.2.1
 let a17:=[77,73,71,82,65,84,69,32,74,79,73,78,32]++x0.2.1
 let a18:=a17++[32,70,82,79,77,32]
 let a19:=a18++x0.2.2.1
 let a20:=a19++[32,44,32]
 let a21:=a20++x0.2.2.2.2.2.2.2.2.2.2.2.2
 let a22:=a21++[32,79,78,32]
 let a23:=a22++x0.2.2.2.2.2.1
 let a24:=cv x0.2.2.2.2.2.2.2.2.2.2.2.2
 let a25:=ez x0.2.2.2.2.2.2.2.2.2.2.2.2
 let a26:=[77,73,71,82,65,84,69,32,71,82,79,85,80,32]++x0.2.1
 let a27:=a26++[32,70,82,79,77,32]
 let a28:=a27++x0.2.2.1
 let a29:=zF 0 (length x0.2.2.2.1)
 let a30:=a28++[32,66,89,32]
 let a31:=getD x0.2.2.2.1 (toNat 0) (zj Sh.str)
 let a32:=a30++a31
 let a33:=zF 1 (length x0.2.2.2.1)
 let a34:=a32++[32,83,85,77,32]
 let a35:=getD x0.2.2.2.1 (toNat 1) (zj Sh.str)
 let a36:=a34++a35
 let a37:=[71,82,65,78,84,32,82,69,65,68,32,79,78,32]++x0.2.1
 let a38:=a37++[32,84,79,32]
 let a39:=[71,82,65,78,84,32,87,82,73,84,69,32,79,78,32]++x0.2.1
 let a40:=a39++[32,84,79,32]
 let a41:=[82,69,86,79,75,69,32,82,69,65,68,32,79,78,32]++x0.2.1
 let a42:=a41++[32,70,82,79,77,32]
 let a43:=[82,69,86,79,75,69,32,87,82,73,84,69,32,79,78,32]++x0.2.1
 let a44:=a43++[32,70,82,79,77,32]
 Tr.chk (Cw a0 [])
 (Tr.chk (Cw a1 [87,72,69,82,69])
  (Tr.br (x0.1==[99,114,101,97,116,101]) (Tr.chk (Ke a2) (Tr.re (AV.tup [AV.str a3.1,AV.agg [AV.str x0.1,AV.str x0.2.1,AV.str [],AV.nils,AV.sl zi x0.2.2.2.2.1,AV.str x0.2.2.2.2.2.1,AV.sl Sh.str x0.2.2.2.2.2.2.1,AV.sl (Sh.str.pr Sh.str) x0.2.2.2.2.2.2.2.1,AV.str (ze.op x0.2.2.2.2.2.2.2.2.1),AV.int .i64 (ze.v x0.2.2.2.2.2.2.2.2.1).1,
  AV.int .i64 (ze.v x0.2.2.2.2.2.2.2.2.1).2.1,AV.str (ze.v x0.2.2.2.2.2.2.2.2.1).2.2,AV.str (ze.s x0.2.2.2.2.2.2.2.2.1),AV.sl Sh.expr (ze.l x0.2.2.2.2.2.2.2.2.1),AV.nils,AV.nils,AV.str [],AV.int .i64 0,AV.int .i64 0,AV.str [],AV.str [],AV.nils,AV.str []],AV.bool a3.2]) [])) (Tr.br (x0.1==[100,114,111,112])
  (Tr.chk (decide ([68,82,79,80,32,84,65,66,76,69,32].length+length x0.2.1≤1099511627776)) (Tr.re (AV.tup [AV.str ([68,82,79,80,32,84,65,66,76,69,32]++x0.2.1),AV.agg [AV.str x0.1,AV.str x0.2.1,AV.str [],AV.nils,AV.nils,AV.str [],AV.nils,AV.nils,AV.str [],AV.int .i64 0,
  AV.int .i64 0,AV.str [],AV.str [],AV.nils,AV.nils,AV.nils,AV.str [],AV.int .i64 0,AV.int .i64 0,AV.str [],AV.str [],AV.nils,AV.str []],AV.kb true]) [])) (Tr.br (x0.1==[105,110,115,101,114,116]) (Tr.to (xT.h15 [] 0 (x0,()) ([],[],[],[],[],0,0,[],[],[],0,0,[],[],[],())
  (x0.1,x0.2.1,[],[],[],0,0,[],[],x0.2.2.2.2.2.2.2.2.2.1,[],0,0,[],[],[],()))) (Tr.br (x0.1==[117,112,100,97,116,101]) (Tr.to (xT.h27 a4.1 a4.2 [] 0 (x0,()) ([],[],[],[],[],0,0,[],[],[],0,0,[],[],[],()) (x0.1,x0.2.1,[],[],[],0,0,[],[],x0.2.2.2.2.2.2.2.2.2.2.1,x0.2.2.2.2.2.2.2.2.2.2.2.1,[],()))) (Tr.br (x0.1==[100,101,108,101,116,101])
  (Tr.chk (decide ([68,69,76,69,84,69,32,70,82,79,77,32].length+length x0.2.1≤1099511627776)) (Tr.chk (decide (length a5+length a4.1≤1099511627776)) (Tr.re (AV.tup [AV.str (a5++a4.1),AV.agg [AV.str x0.1,AV.str x0.2.1,AV.str [],AV.nils,AV.nils,AV.str [],AV.nils,AV.nils,AV.str [],AV.int .i64 0,
  AV.int .i64 0,AV.str [],AV.str [],AV.nils,AV.nils,AV.nils,AV.str (ze.op x0.2.2.2.2.2.2.2.2.2.2.2.1),AV.int .i64 (ze.v x0.2.2.2.2.2.2.2.2.2.2.2.1).1,AV.int .i64 (ze.v x0.2.2.2.2.2.2.2.2.2.2.2.1).2.1,AV.str (ze.v x0.2.2.2.2.2.2.2.2.2.2.2.1).2.2,AV.str (ze.s x0.2.2.2.2.2.2.2.2.2.2.2.1),AV.sl Sh.expr (ze.l x0.2.2.2.2.2.2.2.2.2.2.2.1),AV.str []],AV.bool a4.2]) [])))
  (Tr.br (x0.1==[115,101,108,101,99,116]) (Tr.chk (decide ([83,69,76,69,67,84,32,42,32,70,82,79,77,32].length+length x0.2.1≤1099511627776)) (Tr.chk (decide (length a6+length a4.1≤1099511627776)) (Tr.re (AV.tup [AV.str (a6++a4.1),AV.agg [AV.str x0.1,AV.str x0.2.1,AV.str [],AV.nils,AV.nils,AV.str [],AV.nils,AV.nils,AV.str [],AV.int .i64 0,
  AV.int .i64 0,AV.str [],AV.str [],AV.nils,AV.nils,AV.nils,AV.str (ze.op x0.2.2.2.2.2.2.2.2.2.2.2.1),AV.int .i64 (ze.v x0.2.2.2.2.2.2.2.2.2.2.2.1).1,AV.int .i64 (ze.v x0.2.2.2.2.2.2.2.2.2.2.2.1).2.1,AV.str (ze.v x0.2.2.2.2.2.2.2.2.2.2.2.1).2.2,AV.str (ze.s x0.2.2.2.2.2.2.2.2.2.2.2.1),AV.sl Sh.expr (ze.l x0.2.2.2.2.2.2.2.2.2.2.2.1),AV.str []],AV.bool a4.2]) [])))
  (Tr.br (x0.1==[99,111,112,121]) (Tr.chk (Oj x0.2.2.2.1) (Tr.chk (decide ([77,73,71,82,65,84,69,32,67,79,80,89,32].length+length x0.2.1≤1099511627776)) (Tr.chk (decide (length a7+[32,70,82,79,77,32].length≤1099511627776)) (Tr.chk (decide (length a8+length x0.2.2.1≤1099511627776))
  (Tr.chk (decide (length a9+[32,40,32].length≤1099511627776)) (Tr.chk (decide (length a10+length a11.1≤1099511627776)) (Tr.chk (decide (length a12+[32,41].length≤1099511627776)) (Tr.chk (decide (length a13+length a14.1≤1099511627776)) (Tr.br a11.2 (Tr.br a14.2 (Tr.chk a15 (Tr.re (AV.tup [AV.str (a13++a14.1),AV.agg
  [AV.str x0.1,AV.str x0.2.1,AV.str x0.2.2.1,AV.sl Sh.str x0.2.2.2.1,AV.nils,AV.str [],AV.nils,AV.nils,AV.str (ze.op x0.2.2.2.2.2.2.2.2.1),AV.int .i64 (ze.v x0.2.2.2.2.2.2.2.2.1).1,AV.int .i64 (ze.v x0.2.2.2.2.2.2.2.2.1).2.1,AV.str (ze.v x0.2.2.2.2.2.2.2.2.1).2.2,AV.str (ze.s x0.2.2.2.2.2.2.2.2.1),
  AV.sl Sh.expr (ze.l x0.2.2.2.2.2.2.2.2.1),AV.nils,AV.nils,AV.str [],AV.int .i64 0,AV.int .i64 0,AV.str [],AV.str [],AV.nils,AV.str []],AV.bool a16]) [])) (Tr.re (AV.tup [AV.str (a13++a14.1),AV.agg [AV.str x0.1,AV.str x0.2.1,AV.str x0.2.2.1,AV.sl Sh.str x0.2.2.2.1,AV.nils,AV.str [],AV.nils,AV.nils,AV.str (ze.op x0.2.2.2.2.2.2.2.2.1),
  AV.int .i64 (ze.v x0.2.2.2.2.2.2.2.2.1).1,AV.int .i64 (ze.v x0.2.2.2.2.2.2.2.2.1).2.1,AV.str (ze.v x0.2.2.2.2.2.2.2.2.1).2.2,AV.str (ze.s x0.2.2.2.2.2.2.2.2.1),AV.sl Sh.expr (ze.l x0.2.2.2.2.2.2.2.2.1),AV.nils,AV.nils,AV.str [],AV.int .i64 0,AV.int .i64 0,AV.str [],AV.str [],AV.nils,AV.str []],AV.kb false]) [])) (Tr.re (AV.tup [AV.str (a13++a14.1),AV.agg
  [AV.str x0.1,AV.str x0.2.1,AV.str x0.2.2.1,AV.sl Sh.str x0.2.2.2.1,AV.nils,AV.str [],AV.nils,AV.nils,AV.str (ze.op x0.2.2.2.2.2.2.2.2.1),AV.int .i64 (ze.v x0.2.2.2.2.2.2.2.2.1).1,AV.int .i64 (ze.v x0.2.2.2.2.2.2.2.2.1).2.1,AV.str (ze.v x0.2.2.2.2.2.2.2.2.1).2.2,AV.str (ze.s x0.2.2.2.2.2.2.2.2.1),
  AV.sl Sh.expr (ze.l x0.2.2.2.2.2.2.2.2.1),AV.nils,AV.nils,AV.str [],AV.int .i64 0,AV.int .i64 0,AV.str [],AV.str [],AV.nils,AV.str []],AV.kb false]) [])))))))))) (Tr.br (x0.1==[106,111,105,110]) (Tr.chk (decide ([77,73,71,82,65,84,69,32,74,79,73,78,32].length+length x0.2.1≤1099511627776))
  (Tr.chk (decide (length a17+[32,70,82,79,77,32].length≤1099511627776)) (Tr.chk (decide (length a18+length x0.2.2.1≤1099511627776)) (Tr.chk (decide (length a19+[32,44,32].length≤1099511627776)) (Tr.chk (decide (length a20+length x0.2.2.2.2.2.2.2.2.2.2.2.2≤1099511627776))
  (Tr.chk (decide (length a21+[32,79,78,32].length≤1099511627776)) (Tr.chk (decide (length a22+length x0.2.2.2.2.2.1≤1099511627776)) (Tr.chk (decide (length a23+length a14.1≤1099511627776)) (Tr.br a14.2 (Tr.chk a15 (Tr.br a16 (Tr.chk a24 (Tr.br a25 (Tr.chk (cv x0.2.2.2.2.2.1) (Tr.re (AV.tup [AV.str (a23++a14.1),AV.agg
  [AV.str x0.1,AV.str x0.2.1,AV.str x0.2.2.1,AV.nils,AV.nils,AV.str x0.2.2.2.2.2.1,AV.nils,AV.nils,AV.str (ze.op x0.2.2.2.2.2.2.2.2.1),AV.int .i64 (ze.v x0.2.2.2.2.2.2.2.2.1).1,AV.int .i64 (ze.v x0.2.2.2.2.2.2.2.2.1).2.1,AV.str (ze.v x0.2.2.2.2.2.2.2.2.1).2.2,AV.str (ze.s x0.2.2.2.2.2.2.2.2.1),AV.sl Sh.expr (ze.l x0.2.2.2.2.2.2.2.2.1),AV.nils,AV.nils,AV.str [],
  AV.int .i64 0,AV.int .i64 0,AV.str [],AV.str [],AV.nils,AV.str x0.2.2.2.2.2.2.2.2.2.2.2.2],AV.bool (ez x0.2.2.2.2.2.1)]) [])) (Tr.re (AV.tup [AV.str (a23++a14.1),AV.agg [AV.str x0.1,AV.str x0.2.1,AV.str x0.2.2.1,AV.nils,AV.nils,AV.str x0.2.2.2.2.2.1,AV.nils,AV.nils,AV.str (ze.op x0.2.2.2.2.2.2.2.2.1),AV.int .i64 (ze.v x0.2.2.2.2.2.2.2.2.1).1,
  AV.int .i64 (ze.v x0.2.2.2.2.2.2.2.2.1).2.1,AV.str (ze.v x0.2.2.2.2.2.2.2.2.1).2.2,AV.str (ze.s x0.2.2.2.2.2.2.2.2.1),AV.sl Sh.expr (ze.l x0.2.2.2.2.2.2.2.2.1),AV.nils,AV.nils,AV.str [],AV.int .i64 0,AV.int .i64 0,AV.str [],AV.str [],AV.nils,AV.str x0.2.2.2.2.2.2.2.2.2.2.2.2],AV.kb false]) []))) (Tr.re (AV.tup [AV.str (a23++a14.1),AV.agg
  [AV.str x0.1,AV.str x0.2.1,AV.str x0.2.2.1,AV.nils,AV.nils,AV.str x0.2.2.2.2.2.1,AV.nils,AV.nils,AV.str (ze.op x0.2.2.2.2.2.2.2.2.1),AV.int .i64 (ze.v x0.2.2.2.2.2.2.2.2.1).1,AV.int .i64 (ze.v x0.2.2.2.2.2.2.2.2.1).2.1,AV.str (ze.v x0.2.2.2.2.2.2.2.2.1).2.2,AV.str (ze.s x0.2.2.2.2.2.2.2.2.1),AV.sl Sh.expr (ze.l x0.2.2.2.2.2.2.2.2.1),AV.nils,AV.nils,AV.str [],
  AV.int .i64 0,AV.int .i64 0,AV.str [],AV.str [],AV.nils,AV.str x0.2.2.2.2.2.2.2.2.2.2.2.2],AV.kb false]) []))) (Tr.re (AV.tup [AV.str (a23++a14.1),AV.agg [AV.str x0.1,AV.str x0.2.1,AV.str x0.2.2.1,AV.nils,AV.nils,AV.str x0.2.2.2.2.2.1,AV.nils,AV.nils,AV.str (ze.op x0.2.2.2.2.2.2.2.2.1),AV.int .i64 (ze.v x0.2.2.2.2.2.2.2.2.1).1,
  AV.int .i64 (ze.v x0.2.2.2.2.2.2.2.2.1).2.1,AV.str (ze.v x0.2.2.2.2.2.2.2.2.1).2.2,AV.str (ze.s x0.2.2.2.2.2.2.2.2.1),AV.sl Sh.expr (ze.l x0.2.2.2.2.2.2.2.2.1),AV.nils,AV.nils,AV.str [],AV.int .i64 0,AV.int .i64 0,AV.str [],AV.str [],AV.nils,AV.str x0.2.2.2.2.2.2.2.2.2.2.2.2],AV.kb false]) [])))))))))) (Tr.br (x0.1==[103,114,111,117,112])
  (Tr.br ((↑(length x0.2.2.2.1):Int) != 2) (Tr.re (AV.tup [AV.str [],AV.agg [AV.str x0.1,AV.str x0.2.1,AV.str x0.2.2.1,AV.sl Sh.str x0.2.2.2.1,AV.nils,AV.str [],AV.nils,AV.nils,AV.str (ze.op x0.2.2.2.2.2.2.2.2.1),AV.int .i64 (ze.v x0.2.2.2.2.2.2.2.2.1).1,AV.int .i64 (ze.v x0.2.2.2.2.2.2.2.2.1).2.1,
  AV.str (ze.v x0.2.2.2.2.2.2.2.2.1).2.2,AV.str (ze.s x0.2.2.2.2.2.2.2.2.1),AV.sl Sh.expr (ze.l x0.2.2.2.2.2.2.2.2.1),AV.nils,AV.nils,AV.str [],AV.int .i64 0,AV.int .i64 0,AV.str [],AV.str [],AV.nils,AV.str []],AV.kb false]) []) (Tr.chk (decide ([77,73,71,82,65,84,69,32,71,82,79,85,80,32].length+length x0.2.1≤1099511627776))
  (Tr.chk (decide (length a26+[32,70,82,79,77,32].length≤1099511627776)) (Tr.chk (decide (length a27+length x0.2.2.1≤1099511627776)) (Tr.chk (decide (length a28+[32,66,89,32].length≤1099511627776)) (Tr.chk a29 (Tr.chk (decide (length a30+length a31≤1099511627776))
  (Tr.chk (decide (length a32+[32,83,85,77,32].length≤1099511627776)) (Tr.chk a33 (Tr.chk (decide (length a34+length a35≤1099511627776)) (Tr.chk (decide (length a36+length a14.1≤1099511627776)) (Tr.br a14.2 (Tr.chk a15 (Tr.br a16 (Tr.chk a29 (Tr.chk (cv a31) (Tr.br (ez a31) (Tr.chk a33 (Tr.chk (cv a35) (Tr.re (AV.tup [AV.str (a36++a14.1),
  AV.agg [AV.str x0.1,AV.str x0.2.1,AV.str x0.2.2.1,AV.sl Sh.str x0.2.2.2.1,AV.nils,AV.str [],AV.nils,AV.nils,AV.str (ze.op x0.2.2.2.2.2.2.2.2.1),AV.int .i64 (ze.v x0.2.2.2.2.2.2.2.2.1).1,AV.int .i64 (ze.v x0.2.2.2.2.2.2.2.2.1).2.1,AV.str (ze.v x0.2.2.2.2.2.2.2.2.1).2.2,AV.str (ze.s x0.2.2.2.2.2.2.2.2.1),AV.sl Sh.expr (ze.l x0.2.2.2.2.2.2.2.2.1),AV.nils,AV.nils,
  AV.str [],AV.int .i64 0,AV.int .i64 0,AV.str [],AV.str [],AV.nils,AV.str []],AV.bool (ez a35)]) []))) (Tr.re (AV.tup [AV.str (a36++a14.1),AV.agg [AV.str x0.1,AV.str x0.2.1,AV.str x0.2.2.1,AV.sl Sh.str x0.2.2.2.1,AV.nils,AV.str [],AV.nils,AV.nils,AV.str (ze.op x0.2.2.2.2.2.2.2.2.1),AV.int .i64 (ze.v x0.2.2.2.2.2.2.2.2.1).1,
  AV.int .i64 (ze.v x0.2.2.2.2.2.2.2.2.1).2.1,AV.str (ze.v x0.2.2.2.2.2.2.2.2.1).2.2,AV.str (ze.s x0.2.2.2.2.2.2.2.2.1),AV.sl Sh.expr (ze.l x0.2.2.2.2.2.2.2.2.1),AV.nils,AV.nils,AV.str [],AV.int .i64 0,AV.int .i64 0,AV.str [],AV.str [],AV.nils,AV.str []],AV.kb false]) [])))) (Tr.re (AV.tup [AV.str (a36++a14.1),AV.agg
  [AV.str x0.1,AV.str x0.2.1,AV.str x0.2.2.1,AV.sl Sh.str x0.2.2.2.1,AV.nils,AV.str [],AV.nils,AV.nils,AV.str (ze.op x0.2.2.2.2.2.2.2.2.1),AV.int .i64 (ze.v x0.2.2.2.2.2.2.2.2.1).1,AV.int .i64 (ze.v x0.2.2.2.2.2.2.2.2.1).2.1,AV.str (ze.v x0.2.2.2.2.2.2.2.2.1).2.2,AV.str (ze.s x0.2.2.2.2.2.2.2.2.1),
  AV.sl Sh.expr (ze.l x0.2.2.2.2.2.2.2.2.1),AV.nils,AV.nils,AV.str [],AV.int .i64 0,AV.int .i64 0,AV.str [],AV.str [],AV.nils,AV.str []],AV.kb false]) []))) (Tr.re (AV.tup [AV.str (a36++a14.1),AV.agg [AV.str x0.1,AV.str x0.2.1,AV.str x0.2.2.1,AV.sl Sh.str x0.2.2.2.1,AV.nils,AV.str [],AV.nils,AV.nils,AV.str (ze.op x0.2.2.2.2.2.2.2.2.1),
  AV.int .i64 (ze.v x0.2.2.2.2.2.2.2.2.1).1,AV.int .i64 (ze.v x0.2.2.2.2.2.2.2.2.1).2.1,AV.str (ze.v x0.2.2.2.2.2.2.2.2.1).2.2,AV.str (ze.s x0.2.2.2.2.2.2.2.2.1),AV.sl Sh.expr (ze.l x0.2.2.2.2.2.2.2.2.1),AV.nils,AV.nils,AV.str [],AV.int .i64 0,AV.int .i64 0,AV.str [],AV.str [],AV.nils,AV.str []],AV.kb false]) []))))))))))))) (Tr.br (x0.1==[114,101,97,100])
  (Tr.chk (decide ([71,82,65,78,84,32,82,69,65,68,32,79,78,32].length+length x0.2.1≤1099511627776)) (Tr.chk (decide (length a37+[32,84,79,32].length≤1099511627776)) (Tr.chk (decide (length a38+length x0.2.2.2.2.2.2.2.2.2.2.2.2≤1099511627776)) (Tr.chk a24 (Tr.re (AV.tup [AV.str (a38++x0.2.2.2.2.2.2.2.2.2.2.2.2),AV.agg
  [AV.str x0.1,AV.str x0.2.1,AV.str [],AV.nils,AV.nils,AV.str [],AV.nils,AV.nils,AV.str [],AV.int .i64 0,AV.int .i64 0,AV.str [],AV.str [],AV.nils,AV.nils,AV.nils,AV.str [],AV.int .i64 0,AV.int .i64 0,AV.str [],AV.str [],AV.nils,AV.str x0.2.2.2.2.2.2.2.2.2.2.2.2],AV.bool a25]) []))))) (Tr.br (x0.1==[119,114,105,116,101])
  (Tr.chk (decide ([71,82,65,78,84,32,87,82,73,84,69,32,79,78,32].length+length x0.2.1≤1099511627776)) (Tr.chk (decide (length a39+[32,84,79,32].length≤1099511627776)) (Tr.chk (decide (length a40+length x0.2.2.2.2.2.2.2.2.2.2.2.2≤1099511627776)) (Tr.chk a24 (Tr.re (AV.tup [AV.str (a40++x0.2.2.2.2.2.2.2.2.2.2.2.2),AV.agg
  [AV.str x0.1,AV.str x0.2.1,AV.str [],AV.nils,AV.nils,AV.str [],AV.nils,AV.nils,AV.str [],AV.int .i64 0,AV.int .i64 0,AV.str [],AV.str [],AV.nils,AV.nils,AV.nils,AV.str [],AV.int .i64 0,AV.int .i64 0,AV.str [],AV.str [],AV.nils,AV.str x0.2.2.2.2.2.2.2.2.2.2.2.2],AV.bool a25]) []))))) (Tr.br (x0.1==[117,110,114,101,97,100])
  (Tr.chk (decide ([82,69,86,79,75,69,32,82,69,65,68,32,79,78,32].length+length x0.2.1≤1099511627776)) (Tr.chk (decide (length a41+[32,70,82,79,77,32].length≤1099511627776)) (Tr.chk (decide (length a42+length x0.2.2.2.2.2.2.2.2.2.2.2.2≤1099511627776)) (Tr.chk a24 (Tr.re (AV.tup [AV.str (a42++x0.2.2.2.2.2.2.2.2.2.2.2.2),AV.agg
  [AV.str x0.1,AV.str x0.2.1,AV.str [],AV.nils,AV.nils,AV.str [],AV.nils,AV.nils,AV.str [],AV.int .i64 0,AV.int .i64 0,AV.str [],AV.str [],AV.nils,AV.nils,AV.nils,AV.str [],AV.int .i64 0,AV.int .i64 0,AV.str [],AV.str [],AV.nils,AV.str x0.2.2.2.2.2.2.2.2.2.2.2.2],AV.bool a25]) []))))) (Tr.br (x0.1==[117,110,119,114,105,116,101]) (Tr.chk
  (decide ([82,69,86,79,75,69,32,87,82,73,84,69,32,79,78,32].length+length x0.2.1≤1099511627776)) (Tr.chk (decide (length a43+[32,70,82,79,77,32].length≤1099511627776)) (Tr.chk (decide (length a44+length x0.2.2.2.2.2.2.2.2.2.2.2.2≤1099511627776)) (Tr.chk a24 (Tr.re (AV.tup [AV.str (a44++x0.2.2.2.2.2.2.2.2.2.2.2.2),AV.agg
  [AV.str x0.1,AV.str x0.2.1,AV.str [],AV.nils,AV.nils,AV.str [],AV.nils,AV.nils,AV.str [],AV.int .i64 0,AV.int .i64 0,AV.str [],AV.str [],AV.nils,AV.nils,AV.nils,AV.str [],AV.int .i64 0,AV.int .i64 0,AV.str [],AV.str [],AV.nils,AV.str x0.2.2.2.2.2.2.2.2.2.2.2.2],AV.bool a25]) []))))) (Tr.re (AV.tup [AV.str [],AV.agg
  [AV.str x0.1,AV.str x0.2.1,AV.str [],AV.nils,AV.nils,AV.str [],AV.nils,AV.nils,AV.str [],AV.int .i64 0,AV.int .i64 0,AV.str [],AV.str [],AV.nils,AV.nils,AV.nils,AV.str [],AV.int .i64 0,AV.int .i64 0,AV.str [],AV.str [],AV.nils,AV.str []],AV.kb false]) [])))))))))))))))
def ziQ:xT→Tr (xT ⊕ zV)
 | .h15 s12 i13 z0 z1 z2=>
  let a0:=(↑(length z0.1.2.2.2.2.2.2.2.2.2.1):Int)
  let a1:=zF i13 (length z0.1.2.2.2.2.2.2.2.2.2.1)
  let a2:=getD z0.1.2.2.2.2.2.2.2.2.2.1 i13.toNat (zj zf)
  let a3:=nj a2
  let a4:=s12++[32,44,32]
  let a5:=ry a2
  let a6:=IntKind.i64.wrap (i13+1)
  let a7:=[73,78,83,69,82,84,32,73,78,84,79,32]++z0.1.2.1
  let a8:=a7++[32,86,65,76,85,69,83,32,40,32]
  let a9:=a8++s12
  Tr.br (decide (i13 < a0))
  (Tr.chk a1
   (Tr.chk (mB a2) (Tr.br (!wB a2) (Tr.re (AV.tup [AV.str [],AV.agg [AV.str z2.1,AV.str z2.2.1,AV.str z2.2.2.1,AV.nils,AV.nils,AV.str z2.2.2.2.1,AV.nils,AV.nils,AV.str z2.2.2.2.2.1,AV.int .i64 z2.2.2.2.2.2.1,AV.int .i64 z2.2.2.2.2.2.2.1,AV.str z2.2.2.2.2.2.2.2.1,AV.str z2.2.2.2.2.2.2.2.2.1,AV.nils,AV.sl zf z2.2.2.2.2.2.2.2.2.2.1,AV.nils,
   AV.str z2.2.2.2.2.2.2.2.2.2.2.1,AV.int .i64 z2.2.2.2.2.2.2.2.2.2.2.2.1,AV.int .i64 z2.2.2.2.2.2.2.2.2.2.2.2.2.1,AV.str z2.2.2.2.2.2.2.2.2.2.2.2.2.2.1,AV.str z2.2.2.2.2.2.2.2.2.2.2.2.2.2.2.1,AV.nils,AV.str z2.2.2.2.2.2.2.2.2.2.2.2.2.2.2.2.1],AV.kb false]) []) (Tr.br (decide (i13 > 0)) (Tr.chk (decide (s12.length+[32,44,32].length≤1099511627776))
   (Tr.chk a1 (Tr.chk a3 (Tr.chk (decide (length a4+length a5≤1099511627776)) (Tr.to (xT.h15 (a4++a5) a6 z0 z1 z2)))))) (Tr.chk a1 (Tr.chk a3 (Tr.chk (decide (s12.length+length a5≤1099511627776)) (Tr.to (xT.h15 (s12++a5) a6 z0 z1 z2)))))))))
  (Tr.chk (decide ([73,78,83,69,82,84,32,73,78,84,79,32].length+length z0.1.2.1≤1099511627776))
   (Tr.chk (decide (length a7+[32,86,65,76,85,69,83,32,40,32].length≤1099511627776)) (Tr.chk (decide (length a8+s12.length≤1099511627776)) (Tr.chk (decide (length a9+[32,41].length≤1099511627776)) (Tr.br (decide (1≤a0)) (Tr.re (AV.tup [AV.str (a9++[32,41]),AV.agg
   [AV.str z2.1,AV.str z2.2.1,AV.str z2.2.2.1,AV.nils,AV.nils,AV.str z2.2.2.2.1,AV.nils,AV.nils,AV.str z2.2.2.2.2.1,AV.int .i64 z2.2.2.2.2.2.1,AV.int .i64 z2.2.2.2.2.2.2.1,AV.str z2.2.2.2.2.2.2.2.1,AV.str z2.2.2.2.2.2.2.2.2.1,AV.nils,AV.sl zf z2.2.2.2.2.2.2.2.2.2.1,AV.nils,AV.str z2.2.2.2.2.2.2.2.2.2.2.1,AV.int .i64 z2.2.2.2.2.2.2.2.2.2.2.2.1,
   AV.int .i64 z2.2.2.2.2.2.2.2.2.2.2.2.2.1,AV.str z2.2.2.2.2.2.2.2.2.2.2.2.2.2.1,AV.str z2.2.2.2.2.2.2.2.2.2.2.2.2.2.2.1,AV.nils,AV.str z2.2.2.2.2.2.2.2.2.2.2.2.2.2.2.2.1],AV.bool (decide (a0≤12))]) []) (Tr.re (AV.tup [AV.str (a9++[32,41]),AV.agg [AV.str z2.1,AV.str z2.2.1,AV.str z2.2.2.1,AV.nils,AV.nils,AV.str z2.2.2.2.1,AV.nils,AV.nils,
   AV.str z2.2.2.2.2.1,AV.int .i64 z2.2.2.2.2.2.1,AV.int .i64 z2.2.2.2.2.2.2.1,AV.str z2.2.2.2.2.2.2.2.1,AV.str z2.2.2.2.2.2.2.2.2.1,AV.nils,AV.sl zf z2.2.2.2.2.2.2.2.2.2.1,AV.nils,AV.str z2.2.2.2.2.2.2.2.2.2.2.1,AV.int .i64 z2.2.2.2.2.2.2.2.2.2.2.2.1,AV.int .i64 z2.2.2.2.2.2.2.2.2.2.2.2.2.1,AV.str z2.2.2.2.2.2.2.2.2.2.2.2.2.2.1,AV.str z2.2.2.2.2.2.2.2.2.2.2.2.2.2.2.1,
   AV.nils,AV.str z2.2.2.2.2.2.2.2.2.2.2.2.2.2.2.2.1],AV.kb false]) []))))))
 | .h27 s8 b9 s14 i15 z0 z1 z2=>
  let a0:=(↑(length z0.1.2.2.2.2.2.2.2.2.2.2.1):Int)
  let a1:=zF i15 (length z0.1.2.2.2.2.2.2.2.2.2.2.1)
  let a2:=getD z0.1.2.2.2.2.2.2.2.2.2.2.1 i15.toNat (zj aK)
  let a3 := !ez a2.1
  let a4:=zB a2.2
  let a5:=decide (length a2.1+[32,61,32].length≤1099511627776)
  let a6:=tv a4
  let a7:=a2.1++[32,61,32]
  let a8:=rA a4
  let a9:=decide (length a7+length a8≤1099511627776)
  let a10:=s14++[32,44,32]
  let a11:=a7++a8
  let a12:=IntKind.i64.wrap (i15+1)
  let a13:=[85,80,68,65,84,69,32]++z0.1.2.1
  let a14:=a13++[32,83,69,84,32]
  let a15:=a14++s14
  Tr.br (decide (i15 < a0))
  (Tr.chk (a1&&(cv a2.1&&bif a3 then true else a1&&wK a4))
   (Tr.br (bif a3 then true else !EB a4) (Tr.re (AV.tup [AV.str [],AV.agg [AV.str z2.1,AV.str z2.2.1,AV.str z2.2.2.1,AV.nils,AV.nils,AV.str z2.2.2.2.1,AV.nils,AV.nils,AV.str z2.2.2.2.2.1,AV.int .i64 z2.2.2.2.2.2.1,AV.int .i64 z2.2.2.2.2.2.2.1,AV.str z2.2.2.2.2.2.2.2.1,AV.str z2.2.2.2.2.2.2.2.2.1,AV.nils,AV.nils,
   AV.sl (Sh.str.pr Sh.expr) z2.2.2.2.2.2.2.2.2.2.1,AV.str (ze.op z2.2.2.2.2.2.2.2.2.2.2.1),AV.int .i64 (ze.v z2.2.2.2.2.2.2.2.2.2.2.1).1,AV.int .i64 (ze.v z2.2.2.2.2.2.2.2.2.2.2.1).2.1,AV.str (ze.v z2.2.2.2.2.2.2.2.2.2.2.1).2.2,AV.str (ze.s z2.2.2.2.2.2.2.2.2.2.2.1),AV.sl Sh.expr (ze.l z2.2.2.2.2.2.2.2.2.2.2.1),AV.str z2.2.2.2.2.2.2.2.2.2.2.2.1],AV.kb false]) [])
   (Tr.br (decide (i15 > 0)) (Tr.chk (decide (s14.length+[32,44,32].length≤1099511627776)) (Tr.chk a1 (Tr.chk a5 (Tr.chk a1 (Tr.chk a6 (Tr.chk a9 (Tr.chk (decide (length a10+length a11≤1099511627776)) (Tr.to (xT.h27 s8 b9 (a10++a11) a12 z0 z1 z2))))))))) (Tr.chk a1 (Tr.chk a5 (Tr.chk a1
   (Tr.chk a6 (Tr.chk a9 (Tr.chk (decide (s14.length+length a11≤1099511627776)) (Tr.to (xT.h27 s8 b9 (s14++a11) a12 z0 z1 z2)))))))))))
  (Tr.chk (decide ([85,80,68,65,84,69,32].length+length z0.1.2.1≤1099511627776))
   (Tr.chk (decide (length a13+[32,83,69,84,32].length≤1099511627776)) (Tr.chk (decide (length a14+s14.length≤1099511627776)) (Tr.chk (decide (length a15+length s8≤1099511627776)) (Tr.br b9 (Tr.br (decide (1≤a0)) (Tr.re (AV.tup [AV.str (a15++s8),AV.agg [AV.str z2.1,AV.str z2.2.1,AV.str z2.2.2.1,AV.nils,AV.nils,AV.str z2.2.2.2.1,AV.nils,AV.nils,
   AV.str z2.2.2.2.2.1,AV.int .i64 z2.2.2.2.2.2.1,AV.int .i64 z2.2.2.2.2.2.2.1,AV.str z2.2.2.2.2.2.2.2.1,AV.str z2.2.2.2.2.2.2.2.2.1,AV.nils,AV.nils,AV.sl (Sh.str.pr Sh.expr) z2.2.2.2.2.2.2.2.2.2.1,AV.str (ze.op z2.2.2.2.2.2.2.2.2.2.2.1),AV.int .i64 (ze.v z2.2.2.2.2.2.2.2.2.2.2.1).1,AV.int .i64 (ze.v z2.2.2.2.2.2.2.2.2.2.2.1).2.1,AV.str (ze.v z2.2.2.2.2.2.2.2.2.2.2.1).2.2,
   AV.str (ze.s z2.2.2.2.2.2.2.2.2.2.2.1),AV.sl Sh.expr (ze.l z2.2.2.2.2.2.2.2.2.2.2.1),AV.str z2.2.2.2.2.2.2.2.2.2.2.2.1],AV.bool (decide (a0≤8))]) []) (Tr.re (AV.tup [AV.str (a15++s8),AV.agg [AV.str z2.1,AV.str z2.2.1,AV.str z2.2.2.1,AV.nils,AV.nils,AV.str z2.2.2.2.1,AV.nils,AV.nils,AV.str z2.2.2.2.2.1,AV.int .i64 z2.2.2.2.2.2.1,AV.int .i64 z2.2.2.2.2.2.2.1,
   AV.str z2.2.2.2.2.2.2.2.1,AV.str z2.2.2.2.2.2.2.2.2.1,AV.nils,AV.nils,AV.sl (Sh.str.pr Sh.expr) z2.2.2.2.2.2.2.2.2.2.1,AV.str (ze.op z2.2.2.2.2.2.2.2.2.2.2.1),AV.int .i64 (ze.v z2.2.2.2.2.2.2.2.2.2.2.1).1,AV.int .i64 (ze.v z2.2.2.2.2.2.2.2.2.2.2.1).2.1,AV.str (ze.v z2.2.2.2.2.2.2.2.2.2.2.1).2.2,
   AV.str (ze.s z2.2.2.2.2.2.2.2.2.2.2.1),AV.sl Sh.expr (ze.l z2.2.2.2.2.2.2.2.2.2.2.1),AV.str z2.2.2.2.2.2.2.2.2.2.2.2.1],AV.kb false]) [])) (Tr.re (AV.tup [AV.str (a15++s8),AV.agg [AV.str z2.1,AV.str z2.2.1,AV.str z2.2.2.1,AV.nils,AV.nils,AV.str z2.2.2.2.1,AV.nils,AV.nils,AV.str z2.2.2.2.2.1,AV.int .i64 z2.2.2.2.2.2.1,AV.int .i64 z2.2.2.2.2.2.2.1,
   AV.str z2.2.2.2.2.2.2.2.1,AV.str z2.2.2.2.2.2.2.2.2.1,AV.nils,AV.nils,AV.sl (Sh.str.pr Sh.expr) z2.2.2.2.2.2.2.2.2.2.1,AV.str (ze.op z2.2.2.2.2.2.2.2.2.2.2.1),AV.int .i64 (ze.v z2.2.2.2.2.2.2.2.2.2.2.1).1,AV.int .i64 (ze.v z2.2.2.2.2.2.2.2.2.2.2.1).2.1,AV.str (ze.v z2.2.2.2.2.2.2.2.2.2.2.1).2.2,AV.str (ze.s z2.2.2.2.2.2.2.2.2.2.2.1),
   AV.sl Sh.expr (ze.l z2.2.2.2.2.2.2.2.2.2.2.1),AV.str z2.2.2.2.2.2.2.2.2.2.2.2.1],AV.kb false]) []))))))
def w8 (x0:Sem zp):=zT [Sh.str,zp,Sh.bool] ziQ 100000000 (zib x0)
def Ok (x0:Sem zp):=(w8 x0).isSome
def Rt (x0:Sem zp):=o3 (w8 x0)
def zaB:=FT [zp] [Sh.str,zp,Sh.bool] fun x=>w8 x.1
theorem V8:FK 183 zaB:=vd.T1 (f:=Tryz.f183) (keep:=zeu) (e:=zgQ)

def Tu:=LD.add 183 zaB
theorem y1:zm Tu:=vd.add V8
end

noncomputable def zh4 (x0:Sem zp):Tr (Empty ⊕ zV):=
 let a0:=(x0.1,x0.2.1,x0.2.2.1,x0.2.2.2.1,x0.2.2.2.2.1,x0.2.2.2.2.2.1,x0.2.2.2.2.2.2.1,x0.2.2.2.2.2.2.2.1,zB x0.2.2.2.2.2.2.2.2.1,x0.2.2.2.2.2.2.2.2.2.1,x0.2.2.2.2.2.2.2.2.2.2.1,zB x0.2.2.2.2.2.2.2.2.2.2.2.1,x0.2.2.2.2.2.2.2.2.2.2.2.2)
 let a1:=Rt a0
 let a2 := !a1.2.2
 let a3 := !ez x0.2.1
 let a4:=(a1.2.1.1,a1.2.1.2.1,a1.2.1.2.2.1,a1.2.1.2.2.2.1,a1.2.1.2.2.2.2.1,a1.2.1.2.2.2.2.2.1,a1.2.1.2.2.2.2.2.2.1,a1.2.1.2.2.2.2.2.2.2.1,zB a1.2.1.2.2.2.2.2.2.2.2.1,a1.2.1.2.2.2.2.2.2.2.2.2.1,a1.2.1.2.2.2.2.2.2.2.2.2.2.1,zB a1.2.1.2.2.2.2.2.2.2.2.2.2.2.1,a1.2.1.2.2.2.2.2.2.2.2.2.2.2.2)
 let a5:=AK a1.1
 Tr.chk (Ok a0)
 (Tr.chk (bif a2 then true else cv x0.2.1&&bif a3 then true else Rr a4 a0)
  (Tr.br (bif a2 then true else bif a3 then true else !YM a4 a0) (Tr.re (AV.tup [AV.str [],AV.kb false]) []) (Tr.chk (Oc a1.1) (Tr.br (!a5.2) (Tr.re (AV.tup [AV.str [],AV.kb false]) []) (Tr.re (AV.tup [AV.str a1.1,AV.kb true]) [])))))
noncomputable def Cv (x0:Sem zp):=zT [Sh.str,Sh.bool] t0 100000000 (zh4 x0)
noncomputable def jF (x0:Sem zp):=(Cv x0).isSome
noncomputable def mF (x0:Sem zp):=o2 (Cv x0)
noncomputable def Z9:=FT [zp] [Sh.str,Sh.bool] fun x=>Cv x.1
theorem VD:FK 116 Z9:=y1.T1 (f:=Tryz.f116) (keep:=k0) (e:=e0)

noncomputable def DQ:=Tu.add 116 Z9
theorem m7:zm DQ:=y1.add VD
noncomputable section

def zdL (x0:Sem zq.sl) (x1:Sem zg) (x2:Sem Sh.str):Tr (Empty ⊕ zV):=
 let a0:=decide (x1 < (↑(length x0):Int))
 let a1:=getD x0 (toNat x1) (zj zq)
 let a2:=a1.1==1
 let a3:=a1.1==4
 let a4:=a1.2==x2
 Tr.chk
 (bif a0 then zF x1 (length x0)&&bif a2 then zF x1 (length x0) else zF x1 (length x0)&&bif a3 then zF x1 (length x0) else true
 else true)
 (Tr.re (AV.bool (bif a0 then bif a2 then a4 else bif a3 then a4 else false else false)) [])
def Of (x0:Sem zq.sl) (x1:Sem zg) (x2:Sem Sh.str):=zT [Sh.bool] t0 100000000 (zdL x0 x1 x2)
def jE (x0:Sem zq.sl) (x1:Sem zg) (x2:Sem Sh.str):=(Of x0 x1 x2).isSome
def qa (x0:Sem zq.sl) (x1:Sem zg) (x2:Sem Sh.str):=o1 (Of x0 x1 x2)
def SR:=FT [zq.sl,zg,Sh.str] [Sh.bool] fun x=>Of x.1 x.2.1 x.2.2.1
theorem PW:FK 274 SR:=m7.T1 (f:=Tryz.f274) (keep:=k0) (e:=e0)

abbrev XR:=jL [(3,[0,2,4,5]),(10,[0,2,6,7]),(18,[0,2,6,8])]
inductive lr where
 | h3 (s0:Sem Sh.str) (l4:List (Sem zf)) (i5:Int) (z0:zu [CP.d zf])
 | h10 (s0:Sem Sh.str) (i7:Int) (z0:zu [CP.d zf]) (z1:zu [CP.d zf])
 | h18 (s0:Sem Sh.str) (i8:Int) (z0:zu [CP.d zf]) (z1:zu [CP.d zf])
abbrev zcS:lr→Nat×St
 | .h3 s0 l4 i5 z0=>(3,⟨tm 145 [(0,AV.str s0),(2,AV.ptr 0 0),(4,AV.sl zf l4),(5,AV.int .i64 i5)],[AO.box (bh [] [CP.d zf] z0)]⟩)
 | .h10 s0 i7 z0 z1=>(10,⟨tm 145 [(0,AV.str s0),(2,AV.ptr 0 0),(6,AV.ptr 1 0),(7,AV.int .i64 i7)],[AO.box (bh [] [CP.d zf] z0),AO.box (bh [] [CP.d zf] z1)]⟩)
 | .h18 s0 i8 z0 z1=>(18,⟨tm 145 [(0,AV.str s0),(2,AV.ptr 0 0),(6,AV.ptr 1 0),(8,AV.int .i64 i8)],[AO.box (bh [] [CP.d zf] z0),AO.box (bh [] [CP.d zf] z1)]⟩)
def zdO (x0:Sem Sh.str):Tr (lr ⊕ zV):=
 Tr.to (lr.h3 x0 [(0,0,[]),(3,0,[]),(3,1,[])] 0 ((0,0,[]),()))
def zf8:lr→Tr (lr ⊕ zV)
 | .h3 s0 l4 i5 z0=>
  let a0:=l4.getD i5.toNat (zj zf)
  let a1:=decide ((↑(length s0):Int) ≥ 2)
  let a2:=(↑(getD s0 (toNat 0) 0).toNat:Int)==39
  let a3:=IntKind.i64.wrap ((↑(length s0):Int) - 1)
  Tr.br (decide (i5 < (↑l4.length:Int)))
  (Tr.chk (zF i5 l4.length) (Tr.chk (nj a0) (Tr.br (ry a0==s0) (Tr.chk (zF i5 l4.length) (Tr.re (AV.tup [AV.agg [AV.int .i64 a0.1,AV.int .i64 a0.2.1,AV.str a0.2.2],AV.kb true]) [])) (Tr.to (lr.h3 s0 l4 (IntKind.i64.wrap (i5+1)) z0)))))
  (Tr.chk (bif a1 then zF 0 (length s0)&&bif a2 then zF a3 (length s0) else true else true) (Tr.br (bif a1 then bif a2 then (↑(getD s0 a3.toNat 0).toNat:Int)==39 else false else false) (Tr.to (lr.h10 s0 1 z0 ((2,0,[]),()))) (Tr.to (lr.h18 s0 0 z0 ((1,0,[]),())))))
 | .h10 s0 i7 z0 z1=>
  let a0:=IntKind.i64.wrap ((↑(length s0):Int) - 1)
  let a1:=IntKind.i64.wrap (i7+1)
  let a2:=List.take (a1.toNat - i7.toNat) (List.drop i7.toNat s0)
  let a3:=((z1.1.1,z1.1.2.1,z1.1.2.2++a2),())
  Tr.br (decide (i7 < a0))
  (Tr.chk (decide (0≤i7)&&decide (i7≤a1)&&decide (a1≤(↑(length s0):Int))) (Tr.chk (decide (length z1.1.2.2+a2.length≤1099511627776)) (Tr.chk (zF i7 (length s0)) (Tr.br ((↑(getD s0 i7.toNat 0).toNat:Int)==39) (Tr.to (lr.h10 s0 (IntKind.i64.wrap (a1+1)) z0 a3)) (Tr.to (lr.h10 s0 a1 z0 a3))))))
  (Tr.chk (nj z1.1) (Tr.re (AV.tup [AV.agg [AV.int .i64 z1.1.1,AV.int .i64 z1.1.2.1,AV.str z1.1.2.2],AV.bool (ry z1.1==s0)]) []))
 | .h18 s0 i8 z0 z1=>
  let a0:=zF 0 (length s0)
  let a1:=(↑(getD s0 (toNat 0) 0).toNat:Int)
  let a2:=IntKind.i64.wrap (i8+1)
  let a3:=(↑(getD s0 i8.toNat 0).toNat:Int)
  let a4:=decide (a3 < 48)
  let a5:=decide (a3 > 57)
  let a6:=decide (z1.1.2.1 < -922337203685477580)
  let a7:=z1.1.2.1==-922337203685477580
  let a8:=IntKind.i64.wrap (0 - z1.1.2.1)
  let a9:=(z1.1.1,a8,z1.1.2.2)
  Tr.br (decide (i8 < (↑(length s0):Int)))
  (Tr.chk (bif i8==0 then a0 else true) (Tr.br (bif i8==0 then a1==45 else false) (Tr.to (lr.h18 s0 a2 z0 z1)) (Tr.chk (zF i8 (length s0)&&bif a4 then true else zF i8 (length s0)&&bif a5 then true else bif a6 then true else bif a7 then zF i8 (length s0) else true)
  (Tr.br (bif a4 then true else bif a5 then true else bif a6 then true else bif a7 then decide (a3 > 56) else false) (Tr.re (AV.tup [AV.agg [AV.int .i64 0,AV.int .i64 0,AV.str []],AV.kb false]) []) (Tr.chk (zF i8 (length s0)) (Tr.to (lr.h18 s0 a2 z0 ((z1.1.1,IntKind.i64.wrap (IntKind.i64.wrap (IntKind.i64.wrap (10 * z1.1.2.1) - IntKind.i64.wrap a3)+48),z1.1.2.2),()))))))))
  (Tr.chk (bif s0==[] then true else a0) (Tr.br (bif s0==[] then true else a1 != 45) (Tr.br (z1.1.2.1==-9223372036854775808) (Tr.re (AV.tup [AV.agg [AV.int .i64 0,AV.int .i64 0,AV.str []],AV.kb false]) []) (Tr.chk (nj a9) (Tr.re (AV.tup [AV.agg [AV.int .i64 z1.1.1,AV.int .i64 a8,AV.str z1.1.2.2],AV.bool (ry a9==s0)]) []))) (Tr.chk (nj z1.1)
  (Tr.re (AV.tup [AV.agg [AV.int .i64 z1.1.1,AV.int .i64 z1.1.2.1,AV.str z1.1.2.2],AV.bool (ry z1.1==s0)]) []))))
def wE (x0:Sem Sh.str):=zT [zf,Sh.bool] zf8 100000000 (zdO x0)
def Ez (x0:Sem Sh.str):=(wE x0).isSome
def pW (x0:Sem Sh.str):=o2 (wE x0)
def SU:=FT [Sh.str] [zf,Sh.bool] fun x=>wE x.1
theorem PZ:FK 292 SU:=m7.T1 (f:=Tryz.f292) (keep:=XR) (e:=zcS)

def TA:=DQ.addL [(274,SR),(292,SU)]
theorem Ac:zm TA:=m7.addL <| fc PW <| fc PZ <|  gZ
end
end Cad
