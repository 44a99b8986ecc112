/- The document's texts of expressions. The document's reader: tokens. The document's reader: cut; names. The document's writer: creates; columns, sources. The document's writer. The document's statements: texts. The document's reader: numbers. The document's reader: atoms. The document's reader: atoms. The document's reader: expressions. The document's reader: expressions, values. Functions on two variables to which pointers lead. The document's reader: values. The document's reader: CREATE. -/
import Derived.Test.YtiefilkilbdpgaaGreatDoorK14
import Derived.Test.YtiefilkilbdpgaaGreatDoorK12
namespace Cad
open Go Go.Proofs
open Int (toNat)
open List (getD)
open List (length)
noncomputable section
set_option maxHeartbeats 4000000

def xS (g:Sem Sh.expr→Sem Sh.str) (c:Sem Sh.expr→Bool):bb:=xX.add 242 (zA [Sh.expr] [Sh.str] (fun x=>c x.1) fun x=>(g x.1,()))
theorem Cy {g:Sem Sh.expr→Sem Sh.str} {c:Sem Sh.expr→Bool} (hg:FK 242 (zA [Sh.expr] [Sh.str] (fun x=>c x.1) fun x=>(g x.1,()))):zm (xS g c):=sQ.add hg
abbrev I6:Nat→zT:=fun _=>{ }
theorem Te (g:Sem Sh.expr→Sem Sh.str) (c:Sem Sh.expr→Bool):zz (xS g c).P 242 Tryz.f242 1:=aG (by kernel_rfl)
def ID (g:Sem Sh.expr→Sem Sh.str) (c:Sem Sh.expr→Bool) (x0:Sem Sh.expr):Tr (Empty ⊕ ag):=
 let a0:=zJ 0 (ze.l x0).length
 let a1:=zC ((ze.l x0).getD (toNat 0) (zj Sh.expr))
 let a2:=c a1
 let a3:=g a1
 let a4:=[40,78,79,84,32]++a3
 let a5:=decide ([40].length+length a3≤1099511627776)
 let a6:=[40]++a3
 let a7:=zJ 1 (ze.l x0).length
 let a8:=zC ((ze.l x0).getD (toNat 1) (zj Sh.expr))
 let a9:=c a8
 let a10:=a6++[32,65,78,68,32]
 let a11:=g a8
 let a12:=a10++a11
 let a13:=a6++[32,79,82,32]
 let a14:=a13++a11
 let a15:=a6++[32]
 let a16:=a15++ze.op x0
 let a17:=a16++[32]
 let a18:=a17++a11
 Tr.br (ze.op x0==[108,105,116]) (Tr.chk (md (ze.v x0)) (Tr.re (AV.str (pB (ze.v x0))) []))
 (Tr.br (ze.op x0==[99,111,108]) (Tr.re (AV.str (ze.s x0)) [])
  (Tr.br (ze.op x0==[110,111,116]) (Tr.chk a0 (Tr.chk a2 (Tr.chk (decide ([40,78,79,84,32].length+length a3≤1099511627776)) (Tr.chk (decide (length a4+[41].length≤1099511627776)) (Tr.re (AV.str (a4++[41])) []))))) (Tr.br (ze.op x0==[110,117,108,108]) (Tr.chk a0 (Tr.chk a2 (Tr.chk a5
  (Tr.chk (decide (length a6+[32,73,83,32,78,85,76,76,41].length≤1099511627776)) (Tr.re (AV.str (a6++[32,73,83,32,78,85,76,76,41])) []))))) (Tr.br (ze.op x0==[97,110,100]) (Tr.chk a0 (Tr.chk a2 (Tr.chk a5 (Tr.chk (decide (length a6+[32,65,78,68,32].length≤1099511627776)) (Tr.chk a7 (Tr.chk a9
  (Tr.chk (decide (length a10+length a11≤1099511627776)) (Tr.chk (decide (length a12+[41].length≤1099511627776)) (Tr.re (AV.str (a12++[41])) []))))))))) (Tr.br (ze.op x0==[111,114]) (Tr.chk a0 (Tr.chk a2 (Tr.chk a5 (Tr.chk (decide (length a6+[32,79,82,32].length≤1099511627776)) (Tr.chk a7 (Tr.chk a9
  (Tr.chk (decide (length a13+length a11≤1099511627776)) (Tr.chk (decide (length a14+[41].length≤1099511627776)) (Tr.re (AV.str (a14++[41])) []))))))))) (Tr.chk a0 (Tr.chk a2 (Tr.chk a5 (Tr.chk (decide (length a6+[32].length≤1099511627776)) (Tr.chk (decide (length a15+length (ze.op x0)≤1099511627776))
  (Tr.chk (decide (length a16+[32].length≤1099511627776)) (Tr.chk a7 (Tr.chk a9 (Tr.chk (decide (length a17+length a11≤1099511627776)) (Tr.chk (decide (length a18+[41].length≤1099511627776)) (Tr.re (AV.str (a18++[41])) []))))))))))))))))
theorem R9 (g:Sem Sh.expr→Sem Sh.str) (c:Sem Sh.expr→Bool) (x0:Sem Sh.expr):rn (xS g c) 0 I6 Tryz.f242 [zy Sh.expr x0] []=(ID g c x0).map (lf Tryz.f242 e0):=by kernel_rfl
def oo (o:Option (zu (List.map some [Sh.str]))):Sem Sh.str:=(fun r:zu (List.map some [Sh.str])=>r.1) (o.getD (bK [Sh.str]))
def M8 (g:Sem Sh.expr→Sem Sh.str) (c:Sem Sh.expr→Bool) (x0:Sem Sh.expr):Option (zu (List.map some [Sh.str])):=ap [Sh.str] t0 100000000 (ID g c x0)
def gL:Nat→Sem Sh.expr→Option (zu (List.map some [Sh.str]))
 | 0=>fun _=>none
 | n+1=>M8 (fun x0=>oo (gL n x0)) fun x0=>(gL n x0).isSome
theorem IT:zz xX.P 242 Tryz.f242 1:=aG (by kernel_rfl)
theorem Ak:∀ n,FK 242 (zA [Sh.expr] [Sh.str] (fun x=>(gL n x.1).isSome) fun x=>(oo (gL n x.1),()))
 | 0=>cQ ⟨Tryz.f242,IT.1,IT.2.1,IT.2.2.1⟩ (fun _=>rfl)
 | n+1=>hJ (E:=xS (fun x0=>oo (gL n x0)) (fun x0=>(gL n x0).isSome)) (ks:=[Sh.expr]) (outs:=[Sh.str]) (keep:=I6) (gas:=400) (n:=100000000) (e:=e0) (t:=t0) (i:=fun x=>ID (fun x0=>oo (gL n x0)) (fun x0=>(gL n x0).isSome) x.1) (Cy (Ak n)) (Te _ _) (fun x=>R9 _ _ x.1) (G8 _ _ _ _ _) (fun _=>by kernel_rfl) (fun _=>by kernel_rfl)
def E7 (x0:Sem Sh.expr):Option (zu (List.map some [Sh.str])):=gL 16 x0
def rc (x0:Sem Sh.expr):Bool:=(E7 x0).isSome
def pD (x0:Sem Sh.expr):Sem Sh.str:=oo (E7 x0)
def NP:zB:=zA [Sh.expr] [Sh.str] (fun x=>rc x.1) fun x=>(pD x.1,())
theorem Ld:FK 242 NP:=Ak 16

def xY:=xX.add 242 NP
theorem jT:zm xY:=sQ.add Ld
end
noncomputable section

abbrev SU:=kP [(6,[1,3])]
inductive vQ where
 | h6 (i3:Int) (z0:zr [CP.d zo])
abbrev XP:vQ→Nat×St
 | .h6 i3 z0=>(6,⟨tm 82 [(1,AV.ptr 0 0),(3,AV.int .i64 i3)],[AO.box (bu [] [CP.d zo] z0)]⟩)
def YG (x0:Sem zo):Tr (vQ ⊕ ag):=
 let a0:=(2,0,x0.2)
 Tr.br (x0.1==1) (Tr.chk (yC x0.2) (Tr.re (AV.bool (un x0.2)) []))
 (Tr.br (x0.1==2) (Tr.to (vQ.h6 0 (x0,())))
  (Tr.br (x0.1==3) (Tr.chk (uh a0) (Tr.re (AV.bool (BF a0)) [])) (Tr.br (x0.1==4) (Tr.re (AV.bool (bif x0.2==[40] then true else bif x0.2==[41] then true else bif x0.2==[44] then true else bif x0.2==[61] then true else bif x0.2==[60] then true else bif x0.2==[43] then true else bif x0.2==[45] then true else x0.2==[42])) []) (Tr.re (AV.kb false) []))))
def zaV:vQ→Tr (vQ ⊕ ag)
 | .h6 i3 z0=>
  let a0:=(↑(length z0.1.2):Int)
  let a1:=(↑(getD z0.1.2 i3.toNat 0).toNat:Int)
  Tr.br (decide (i3 < a0))
  (Tr.chk (zJ i3 (length z0.1.2))
   (Tr.chk (f7 a1) (Tr.br (!gO a1) (Tr.re (AV.kb false) []) (Tr.to (vQ.h6 (IntKind.i64.wrap (i3+1)) z0)))))
  (Tr.re (AV.bool (bif decide (1≤a0) then decide (a0≤19) else false)) [])
def Ds (x0:Sem zo):=ap [Sh.bool] zaV 100000000 (YG x0)
def lB (x0:Sem zo):=(Ds x0).isSome
def qw (x0:Sem zo):=o1 (Ds x0)
def NZ:=FT [zo] [Sh.bool] fun x=>Ds x.1
theorem Ln:FK 180 NZ:=jT.T1 (f:=Tryz.f180) (keep:=SU) (e:=XP)

abbrev I2:Nat→zT:=fun _=>{ }
theorem S9:zz xY.P 112 Tryz.f112 2:=aG (by kernel_rfl)
def IA (y:zr zH) (x0:TS):Tr (Empty ⊕ ag):=
 let a0:=(y.1,y.2.1,y.2.2.1,())
 let a1:=aW a0 x0
 Tr.chk (aF a0 x0)
 (Tr.br (!a1.1) (Tr.re (AV.agg [AV.str [],AV.int .i64 0,AV.int .i64 0,AV.str [],AV.str [],AV.nils]) (bE zH a1.2))
  (Tr.br (x0==[87,72,69,82,69]) Tr.err (Tr.chk (zK (a1.2.1,a1.2.2.1,a1.2.2.2.1,()) [40]) Tr.err)))
theorem R3 (y:zr zH) (x0:TS):rn xY 1 I2 Tryz.f112 [AV.ptr 0 0,zy Sh.str x0] (bE zH y)=(IA y x0).map (lf Tryz.f112 e0):=by kernel_rfl
def Fe (y:zr zH) (x0:TS):Option (zu (List.map some [Sh.expr])×zr zH):=vG [Sh.expr] zH t0 100000000 (IA y x0)
def bX (y:zr zH) (x0:TS):Bool:=(Fe y x0).isSome
def cK (y:zr zH) (x0:TS):(Sem Sh.expr)×zr zH:=(fun r:zu (List.map some [Sh.expr])×zr zH=>(r.1.1,r.2)) ((Fe y x0).getD (bK [Sh.expr],eT zH))
def NF:zB:=vn zH [Sh.str] [Sh.expr] zH (fun y x=>bX y x.1) fun y x=>(((cK y x.1).1,()),(cK y x.1).2)
theorem K3:FK 112 NF:=oU (ps:=zH) (ks:=[Sh.str]) (outs:=[Sh.expr]) (keep:=I2) (gas:=400) (n:=100000000) (e:=e0) (t:=t0) (i:=fun y x=>IA y x.1) jT S9 (fun y x=>R3 y x.1) (G8 _ _ _ _ _) (fun _ _=>by kernel_rfl) (fun _ _=>by kernel_rfl)

def zcX (x0:TS):Tr (Empty ⊕ ag):=
 Tr.chk (yC x0&&bif un x0 then Du x0 else true) (Tr.re (AV.bool (bif un x0 then !Kc x0 else false)) [])
def yI (x0:TS):=ap [Sh.bool] t0 100000000 (zcX x0)
def dQ (x0:TS):=(yI x0).isSome
def fK (x0:TS):=o1 (yI x0)
def VG:=FT [Sh.str] [Sh.bool] fun x=>yI x.1
theorem Re:FK 118 VG:=jT.T1 (f:=Tryz.f118) (keep:=k0) (e:=e0)

def OY:=xY.addL [(180,NZ),(112,NF),(118,VG)]
theorem lS:zm OY:=jT.addL <| fc Ln <| fc K3 <| fc Re g6
end
noncomputable section

abbrev Zn:=kP [(3,[0,4,5]),(11,[0,4,5,6,7,8]),(15,[0,4,5,6,7,8]),(20,[0,4,5,8])]
inductive dB where
 | h3 (s0:TS) (i5:Int)
 | h11 (s0:TS) (i5:Int) (i6:Int) (i7:Int) (z0:zr [CP.d zo])
 | h15 (s0:TS) (i5:Int) (i6:Int) (i7:Int) (z0:zr [CP.d zo])
 | h20 (s0:TS) (i5:Int) (z0:zr [CP.d zo])
 | h3b (s0:TS) (i5:Int) (lh_0:LF)
 | h11b (s0:TS) (i5:Int) (i6:Int) (i7:Int) (z1:zr [CP.d zo]) (lh_0:LF)
 | h15b (s0:TS) (i5:Int) (i6:Int) (i7:Int) (z1:zr [CP.d zo]) (lh_0:LF)
 | h20b (s0:TS) (i5:Int) (z1:zr [CP.d zo]) (lh_0:LF)
abbrev zbD:dB→Nat×St
 | .h3 s0 i5=>(3,⟨tm 131 [(0,AV.str s0),(4,AV.nils),(5,AV.int .i64 i5)],[]⟩)
 | .h11 s0 i5 i6 i7 z0=>(11,⟨tm 131 [(0,AV.str s0),(4,AV.nils),(5,AV.int .i64 i5),(6,AV.int IntKind.u8 i6),(7,AV.int .i64 i7),(8,AV.ptr 0 0)],[AO.box (bu [] [CP.d zo] z0)]⟩)
 | .h15 s0 i5 i6 i7 z0=>(15,⟨tm 131 [(0,AV.str s0),(4,AV.nils),(5,AV.int .i64 i5),(6,AV.int IntKind.u8 i6),(7,AV.int .i64 i7),(8,AV.ptr 0 0)],[AO.box (bu [] [CP.d zo] z0)]⟩)
 | .h20 s0 i5 z0=>(20,⟨tm 131 [(0,AV.str s0),(4,AV.nils),(5,AV.int .i64 i5),(8,AV.ptr 0 0)],[AO.box (bu [] [CP.d zo] z0)]⟩)
 | .h3b s0 i5 lh_0=>(3,⟨tm 131 [(0,AV.str s0),(4,AV.vec 0),(5,AV.int .i64 i5)],[AO.vec zo lh_0]⟩)
 | .h11b s0 i5 i6 i7 z1 lh_0=>(11,⟨tm 131 [(0,AV.str s0),(4,AV.vec 0),(5,AV.int .i64 i5),(6,AV.int IntKind.u8 i6),(7,AV.int .i64 i7),(8,AV.ptr 1 0)],[AO.vec zo lh_0,AO.box (bu [] [CP.d zo] z1)]⟩)
 | .h15b s0 i5 i6 i7 z1 lh_0=>(15,⟨tm 131 [(0,AV.str s0),(4,AV.vec 0),(5,AV.int .i64 i5),(6,AV.int IntKind.u8 i6),(7,AV.int .i64 i7),(8,AV.ptr 1 0)],[AO.vec zo lh_0,AO.box (bu [] [CP.d zo] z1)]⟩)
 | .h20b s0 i5 z1 lh_0=>(20,⟨tm 131 [(0,AV.str s0),(4,AV.vec 0),(5,AV.int .i64 i5),(8,AV.ptr 1 0)],[AO.vec zo lh_0,AO.box (bu [] [CP.d zo] z1)]⟩)
def zcZ (x0:TS):Tr (dB ⊕ ag):=
 Tr.to (dB.h3 x0 0)
def zdC:dB→Tr (dB ⊕ ag)
 | .h3 s0 i5=>
  let a0:=(↑(getD s0 i5.toNat 0).toNat:Int)
  let a1:=IntKind.i64.wrap (i5+1)
  let a2:=List.take (a1.toNat - i5.toNat) (List.drop i5.toNat s0)
  let a3:=((4,a2),())
  let a4:=(4,a2)
  let a5:=[a4]
  Tr.br (decide (i5 < (↑(length s0):Int)))
  (Tr.chk (zJ i5 (length s0))
   (Tr.br (bif a0==32 then true else a0==10) (Tr.to (dB.h3 s0 a1)) (Tr.chk (decide (0≤i5)&&decide (i5≤a1)&&decide (a1≤(↑(length s0):Int))) (Tr.chk (me a0) (Tr.br (ou a0) (Tr.to (dB.h11 s0 a1 a0 i5 a3)) (Tr.chk (f7 a0) (Tr.br (gO a0) (Tr.to (dB.h15 s0 a1 a0 i5 a3)) (Tr.br (a0==39) (Tr.to (dB.h20 s0 a1 ((3,[]),()))) (Tr.chk (lB a4)
   (Tr.br (!qw a4) (Tr.re (AV.tup [AV.nils,AV.kb false]) []) (Tr.chk (decide (a5.length≤1073741824)) (Tr.to (dB.h3b s0 a1 a5)))))))))))))
  (Tr.re (AV.tup [AV.nils,AV.bool true]) [])
 | .h11 s0 i5 i6 i7 z0=>
  let a0:=decide (i5 < (↑(length s0):Int))
  let a1:=(↑(getD s0 i5.toNat 0).toNat:Int)
  let a2:=List.take (i5.toNat - i7.toNat) (List.drop i7.toNat s0)
  let a3:=(1,a2)
  let a4:=[a3]
  Tr.chk (bif a0 then zJ i5 (length s0)&&yE a1 else true)
  (Tr.br (bif a0 then Dt a1 else false) (Tr.to (dB.h11 s0 (IntKind.i64.wrap (i5+1)) i6 i7 z0))
   (Tr.chk (decide (0≤i7)&&decide (i7≤i5)&&decide (i5≤(↑(length s0):Int))) (Tr.chk (f7 i6) (Tr.br (gO i6) (Tr.to (dB.h15 s0 i5 i6 i7 ((1,a2),()))) (Tr.br (i6==39) (Tr.to (dB.h20 s0 i5 ((3,[]),()))) (Tr.chk (lB a3) (Tr.br (!qw a3) (Tr.re (AV.tup [AV.nils,AV.kb false]) []) (Tr.chk (decide (a4.length≤1073741824)) (Tr.to (dB.h3b s0 i5 a4))))))))))
 | .h15 s0 i5 i6 i7 z0=>
  let a0:=decide (i5 < (↑(length s0):Int))
  let a1:=(↑(getD s0 i5.toNat 0).toNat:Int)
  let a2:=(2,List.take (i5.toNat - i7.toNat) (List.drop i7.toNat s0))
  let a3:=[a2]
  Tr.chk (bif a0 then zJ i5 (length s0)&&f7 a1 else true)
  (Tr.br (bif a0 then gO a1 else false) (Tr.to (dB.h15 s0 (IntKind.i64.wrap (i5+1)) i6 i7 z0))
   (Tr.chk (decide (0≤i7)&&decide (i7≤i5)&&decide (i5≤(↑(length s0):Int))) (Tr.br (i6==39) (Tr.to (dB.h20 s0 i5 ((3,[]),()))) (Tr.chk (lB a2) (Tr.br (!qw a2) (Tr.re (AV.tup [AV.nils,AV.kb false]) []) (Tr.chk (decide (a3.length≤1073741824)) (Tr.to (dB.h3b s0 i5 a3))))))))
 | .h20 s0 i5 z0=>
  let a0:=decide (i5 < (↑(length s0):Int))
  let a1:=(↑(getD s0 i5.toNat 0).toNat:Int)
  let a2:=a1 != 39
  let a3:=IntKind.i64.wrap (i5+1)
  let a4:=decide (a3 < (↑(length s0):Int))
  let a5:=List.take (a3.toNat - i5.toNat) (List.drop i5.toNat s0)
  let a6:=((z0.1.1,z0.1.2++a5),())
  Tr.chk (bif a0 then zJ i5 (length s0)&&bif a2 then true else bif a4 then zJ a3 (length s0) else true else true)
  (Tr.br (bif a0 then bif a2 then true else bif a4 then (↑(getD s0 a3.toNat 0).toNat:Int)==39 else false else false)
   (Tr.chk (decide (0≤i5)&&decide (i5≤a3)&&decide (a3≤(↑(length s0):Int))) (Tr.chk (decide (length z0.1.2+a5.length≤1099511627776)) (Tr.chk (zJ i5 (length s0)) (Tr.br (a1==39) (Tr.to (dB.h20 s0 (IntKind.i64.wrap (a3+1)) a6)) (Tr.to (dB.h20 s0 a3 a6))))))
   (Tr.br (decide (i5 ≥ (↑(length s0):Int))) (Tr.re (AV.tup [AV.nils,AV.kb false]) []) (Tr.chk (lB z0.1) (Tr.br (!qw z0.1) (Tr.re (AV.tup [AV.nils,AV.kb false]) []) (Tr.chk (decide ([z0.1].length≤1073741824)) (Tr.to (dB.h3b s0 a3 [z0.1])))))))
 | .h3b s0 i5 lh_0=>
  let a0:=(↑(getD s0 i5.toNat 0).toNat:Int)
  let a1:=IntKind.i64.wrap (i5+1)
  let a2:=List.take (a1.toNat - i5.toNat) (List.drop i5.toNat s0)
  let a3:=((4,a2),())
  let a4:=(4,a2)
  let a5:=[a4]
  Tr.br (decide (i5 < (↑(length s0):Int)))
  (Tr.chk (zJ i5 (length s0))
   (Tr.br (bif a0==32 then true else a0==10) (Tr.to (dB.h3b s0 a1 lh_0)) (Tr.chk (decide (0≤i5)&&decide (i5≤a1)&&decide (a1≤(↑(length s0):Int))) (Tr.chk (me a0) (Tr.br (ou a0) (Tr.to (dB.h11b s0 a1 a0 i5 a3 lh_0)) (Tr.chk (f7 a0) (Tr.br (gO a0) (Tr.to (dB.h15b s0 a1 a0 i5 a3 lh_0)) (Tr.br (a0==39) (Tr.to (dB.h20b s0 a1 ((3,[]),()) lh_0))
   (Tr.chk (lB a4) (Tr.br (!qw a4) (Tr.re (AV.tup [AV.nils,AV.kb false]) []) (Tr.chk (decide (lh_0.length+a5.length≤1073741824)) (Tr.to (dB.h3b s0 a1 (lh_0++a5))))))))))))))
  (Tr.re (AV.tup [AV.vec 0,AV.bool (decide ((↑lh_0.length:Int)≤400))]) [AO.vec zo lh_0])
 | .h11b s0 i5 i6 i7 z1 lh_0=>
  let a0:=decide (i5 < (↑(length s0):Int))
  let a1:=(↑(getD s0 i5.toNat 0).toNat:Int)
  let a2:=List.take (i5.toNat - i7.toNat) (List.drop i7.toNat s0)
  let a3:=(1,a2)
  let a4:=[a3]
  Tr.chk (bif a0 then zJ i5 (length s0)&&yE a1 else true)
  (Tr.br (bif a0 then Dt a1 else false) (Tr.to (dB.h11b s0 (IntKind.i64.wrap (i5+1)) i6 i7 z1 lh_0))
   (Tr.chk (decide (0≤i7)&&decide (i7≤i5)&&decide (i5≤(↑(length s0):Int))) (Tr.chk (f7 i6) (Tr.br (gO i6) (Tr.to (dB.h15b s0 i5 i6 i7 ((1,a2),()) lh_0)) (Tr.br (i6==39) (Tr.to (dB.h20b s0 i5 ((3,[]),()) lh_0)) (Tr.chk (lB a3) (Tr.br (!qw a3) (Tr.re (AV.tup [AV.nils,AV.kb false]) [])
   (Tr.chk (decide (lh_0.length+a4.length≤1073741824)) (Tr.to (dB.h3b s0 i5 (lh_0++a4)))))))))))
 | .h15b s0 i5 i6 i7 z1 lh_0=>
  let a0:=decide (i5 < (↑(length s0):Int))
  let a1:=(↑(getD s0 i5.toNat 0).toNat:Int)
  let a2:=(2,List.take (i5.toNat - i7.toNat) (List.drop i7.toNat s0))
  let a3:=[a2]
  Tr.chk (bif a0 then zJ i5 (length s0)&&f7 a1 else true)
  (Tr.br (bif a0 then gO a1 else false) (Tr.to (dB.h15b s0 (IntKind.i64.wrap (i5+1)) i6 i7 z1 lh_0))
   (Tr.chk (decide (0≤i7)&&decide (i7≤i5)&&decide (i5≤(↑(length s0):Int))) (Tr.br (i6==39) (Tr.to (dB.h20b s0 i5 ((3,[]),()) lh_0)) (Tr.chk (lB a2) (Tr.br (!qw a2) (Tr.re (AV.tup [AV.nils,AV.kb false]) []) (Tr.chk (decide (lh_0.length+a3.length≤1073741824)) (Tr.to (dB.h3b s0 i5 (lh_0++a3)))))))))
 | .h20b s0 i5 z1 lh_0=>
  let a0:=decide (i5 < (↑(length s0):Int))
  let a1:=(↑(getD s0 i5.toNat 0).toNat:Int)
  let a2:=a1 != 39
  let a3:=IntKind.i64.wrap (i5+1)
  let a4:=decide (a3 < (↑(length s0):Int))
  let a5:=List.take (a3.toNat - i5.toNat) (List.drop i5.toNat s0)
  let a6:=((z1.1.1,z1.1.2++a5),())
  Tr.chk (bif a0 then zJ i5 (length s0)&&bif a2 then true else bif a4 then zJ a3 (length s0) else true else true)
  (Tr.br (bif a0 then bif a2 then true else bif a4 then (↑(getD s0 a3.toNat 0).toNat:Int)==39 else false else false)
   (Tr.chk (decide (0≤i5)&&decide (i5≤a3)&&decide (a3≤(↑(length s0):Int))) (Tr.chk (decide (length z1.1.2+a5.length≤1099511627776)) (Tr.chk (zJ i5 (length s0)) (Tr.br (a1==39) (Tr.to (dB.h20b s0 (IntKind.i64.wrap (a3+1)) a6 lh_0)) (Tr.to (dB.h20b s0 a3 a6 lh_0))))))
   (Tr.br (decide (i5 ≥ (↑(length s0):Int))) (Tr.re (AV.tup [AV.nils,AV.kb false]) []) (Tr.chk (lB z1.1) (Tr.br (!qw z1.1) (Tr.re (AV.tup [AV.nils,AV.kb false]) []) (Tr.chk (decide (lh_0.length+[z1.1].length≤1073741824)) (Tr.to (dB.h3b s0 a3 (lh_0++[z1.1]))))))))
def Dr (x0:TS):=ap [zo.sl,Sh.bool] zdC 100000000 (zcZ x0)
def Kb (x0:TS):=(Dr x0).isSome
def xe (x0:TS):=o2 (Dr x0)
def VI:=FT [Sh.str] [zo.sl,Sh.bool] fun x=>Dr x.1
theorem Rg:FK 105 VI:=lS.T1 (f:=Tryz.f105) (keep:=Zn) (e:=zbD)

def Yx (x0:Sem Sh.expr) (x1:TS):Tr (Empty ⊕ ag):=
 let a0:=x1++[32,67,72,69,67,75,32,40,32]
 let a1:=a0++pD (zC x0)
 Tr.br (ze.op x0==[])
 (Tr.chk (gK (zC x0) (ze.mk [] (0,0,[]) [] [])) (Tr.re (AV.tup [AV.str [],AV.bool (fI (zC x0) (ze.mk [] (0,0,[]) [] []))]) []))
 (Tr.chk (Dl (zC x0))
  (Tr.br (!J3 (zC x0)) (Tr.re (AV.tup [AV.str [],AV.kb false]) []) (Tr.br (x1==[87,72,69,82,69]) (Tr.chk (rc (zC x0)) (Tr.chk (decide ([32,87,72,69,82,69,32].length+length (pD (zC x0))≤1099511627776)) (Tr.re (AV.tup [AV.str ([32,87,72,69,82,69,32]++pD (zC x0)),AV.kb true]) [])))
  (Tr.chk (decide (length x1+[32,67,72,69,67,75,32,40,32].length≤1099511627776)) (Tr.chk (rc (zC x0)) (Tr.chk (decide (length a0+length (pD (zC x0))≤1099511627776)) (Tr.chk (decide (length a1+[32,41].length≤1099511627776)) (Tr.re (AV.tup [AV.str (a1++[32,41]),AV.kb true]) []))))))))
def yM (x0:Sem Sh.expr) (x1:TS):=ap [Sh.str,Sh.bool] t0 100000000 (Yx x0 x1)
def yL (x0:Sem Sh.expr) (x1:TS):=(yM x0 x1).isSome
def Dx (x0:Sem Sh.expr) (x1:TS):=o2 (yM x0 x1)
def NM:=FT [Sh.expr,Sh.str] [Sh.str,Sh.bool] fun x=>yM x.1 x.2.1
theorem La:FK 239 NM:=lS.T1 (f:=Tryz.f239) (keep:=k0) (e:=e0)

abbrev SQ:=kP [(3,[0,4,5])]
inductive rK where
 | h3 (l0:LS) (s4:List UInt8) (i5:Int)
abbrev XM:rK→Nat×St
 | .h3 l0 s4 i5=>(3,⟨tm 37 [(0,AV.sl Sh.str l0),(4,AV.str s4),(5,AV.int .i64 i5)],[]⟩)
def YA (x0:Sem Sh.str.sl):Tr (rK ⊕ ag):=
 Tr.to (rK.h3 x0 [] 0)
def zaS:rK→Tr (rK ⊕ ag)
 | .h3 l0 s4 i5=>
  let a0:=l0.getD i5.toNat (zj Sh.str)
  let a1:=s4++[32,44,32]
  let a2:=IntKind.i64.wrap (i5+1)
  let a3:=decide (1≤(↑l0.length:Int))
  Tr.br (decide (i5 < (↑l0.length:Int)))
  (Tr.chk (zJ i5 l0.length)
   (Tr.chk (dQ a0) (Tr.br (!fK a0) (Tr.re (AV.tup [AV.str [],AV.kb false]) []) (Tr.br (decide (i5 > 0)) (Tr.chk (decide (s4.length+[32,44,32].length≤1099511627776)) (Tr.chk (zJ i5 l0.length) (Tr.chk (decide (length a1+length a0≤1099511627776)) (Tr.to (rK.h3 l0 (a1++a0) a2)))))
   (Tr.chk (zJ i5 l0.length) (Tr.chk (decide (s4.length+length a0≤1099511627776)) (Tr.to (rK.h3 l0 (s4++a0) a2))))))))
  (Tr.re (AV.tup [AV.str (bif a3 then s4 else s4),AV.bool (bif a3 then decide ((↑l0.length:Int)≤8) else false)]) [])
def ut (x0:Sem Sh.str.sl):=ap [Sh.str,Sh.bool] zaS 100000000 (YA x0)
def Kh (x0:Sem Sh.str.sl):=(ut x0).isSome
def Ng (x0:Sem Sh.str.sl):=o2 (ut x0)
def NQ:=FT [Sh.str.sl] [Sh.str,Sh.bool] fun x=>ut x.1
theorem Le:FK 243 NQ:=lS.T1 (f:=Tryz.f243) (keep:=SQ) (e:=XM)

def OZ:=OY.addL [(105,VI),(239,NM),(243,NQ)]
theorem wy:zm OZ:=lS.addL <| fc Rg <| fc La <| fc Le g6
end
noncomputable section

abbrev SO:=kP [(4,[1,4,5,6]),(15,[1,4,5,8]),(20,[1,4,5,9])]
inductive kQ where
 | h4 (b4:Bool) (s5:zq) (i6:Int) (z0:zr [CP.d zx])
 | h15 (b4:Bool) (s5:zq) (i8:Int) (z0:zr [CP.d zx])
 | h20 (b4:Bool) (s5:zq) (i9:Int) (z0:zr [CP.d zx])
abbrev XK:kQ→Nat×St
 | .h4 b4 s5 i6 z0=>(4,⟨tm 174 [(1,AV.ptr 0 0),(4,AV.bool b4),(5,AV.str s5),(6,AV.int .i64 i6)],[AO.box (bu [] [CP.d zx] z0)]⟩)
 | .h15 b4 s5 i8 z0=>(15,⟨tm 174 [(1,AV.ptr 0 0),(4,AV.bool b4),(5,AV.str s5),(8,AV.int .i64 i8)],[AO.box (bu [] [CP.d zx] z0)]⟩)
 | .h20 b4 s5 i9 z0=>(20,⟨tm 174 [(1,AV.ptr 0 0),(4,AV.bool b4),(5,AV.str s5),(9,AV.int .i64 i9)],[AO.box (bu [] [CP.d zx] z0)]⟩)
def Yy (x0:Sem zx):Tr (kQ ⊕ ag):=
 let a0:=[67,82,69,65,84,69,32,84,65,66,76,69,32]++x0.2.1
 let a1:=(↑(length x0.2.2.2.2.1):Int)
 let a2:=(↑(length x0.2.2.2.2.2.2.1):Int)
 let a3:=(↑(length x0.2.2.2.2.2.2.2.1):Int)
 Tr.chk (dQ x0.2.2.2.2.2.1)
 (Tr.chk (decide ([67,82,69,65,84,69,32,84,65,66,76,69,32].length+length x0.2.1≤1099511627776))
  (Tr.chk (decide (length a0+[32,40,32].length≤1099511627776)) (Tr.to (kQ.h4 (bif fK x0.2.2.2.2.2.1 then bif decide (1≤a1) then bif decide (a1≤8) then bif decide (a2≤8) then decide (a3≤8) else false else false else false else false) (a0++[32,40,32]) 0 (x0,())))))
def zaQ:kQ→Tr (kQ ⊕ ag)
 | .h4 b4 s5 i6 z0=>
  let a0:=(↑(length z0.1.2.2.2.2.1):Int)
  let a1:=getD z0.1.2.2.2.2.1 i6.toNat (zj zi)
  let a2:=a1.1++[32]
  let a3:=[[],[73,78,84],[84,69,88,84],[66,79,79,76]].getD (toNat a1.2.1) (zj Sh.str)
  let a4:=a2++a3
  let a5:=s5++a4
  let a6:=a5++[32,78,79,84,32,78,85,76,76]
  let a7:=IntKind.i64.wrap (i6+1)
  let a8:=[75,69,89,32,40,32]++z0.1.2.2.2.2.2.1
  let a9:=a8++[32,41]
  Tr.br (decide (i6 < a0))
  (Tr.chk (zJ i6 (length z0.1.2.2.2.2.1))
   (Tr.chk (dQ a1.1) (Tr.br (bif !fK a1.1 then true else bif decide (a1.2.1 < 1) then true else decide (a1.2.1 > 3)) (Tr.re (AV.tup [AV.str [],AV.kb false]) []) (Tr.chk (decide (length a1.1+[32].length≤1099511627776)) (Tr.chk (zJ a1.2.1 [[],[73,78,84],[84,69,88,84],[66,79,79,76]].length) (Tr.chk (decide (length a2+length a3≤1099511627776))
   (Tr.chk (decide (length s5+length a4≤1099511627776)) (Tr.br a1.2.2 (Tr.chk (decide (length a5+[32,78,79,84,32,78,85,76,76].length≤1099511627776)) (Tr.chk (decide (length a6+[32,44,32].length≤1099511627776)) (Tr.to (kQ.h4 b4 (a6++[32,44,32]) a7 z0))))
   (Tr.chk (decide (length a5+[32,44,32].length≤1099511627776)) (Tr.to (kQ.h4 b4 (a5++[32,44,32]) a7 z0)))))))))))
  (Tr.chk (decide ([75,69,89,32,40,32].length+length z0.1.2.2.2.2.2.1≤1099511627776))
   (Tr.chk (decide (length a8+[32,41].length≤1099511627776)) (Tr.chk (decide (length s5+length a9≤1099511627776)) (Tr.to (kQ.h15 b4 (s5++a9) 0 z0)))))
 | .h15 b4 s5 i8 z0=>
  let a0:=(↑(length z0.1.2.2.2.2.2.2.1):Int)
  let a1:=zJ i8 (length z0.1.2.2.2.2.2.2.1)
  let a2:=getD z0.1.2.2.2.2.2.2.1 i8.toNat (zj Sh.str)
  let a3:=[32,44,32,85,78,73,81,85,69,32,40,32]++a2
  let a4:=a3++[32,41]
  Tr.br (decide (i8 < a0))
  (Tr.chk (bif b4 then a1&&dQ a2 else true)
   (Tr.chk a1 (Tr.chk (decide ([32,44,32,85,78,73,81,85,69,32,40,32].length+length a2≤1099511627776)) (Tr.chk (decide (length a3+[32,41].length≤1099511627776)) (Tr.chk (decide (length s5+length a4≤1099511627776)) (Tr.to (kQ.h15 (bif b4 then fK a2 else false) (s5++a4) (IntKind.i64.wrap (i8+1)) z0)))))))
  (Tr.to (kQ.h20 b4 s5 0 z0))
 | .h20 b4 s5 i9 z0=>
  let a0:=(↑(length z0.1.2.2.2.2.2.2.2.1):Int)
  let a1:=zJ i9 (length z0.1.2.2.2.2.2.2.2.1)
  let a2:=getD z0.1.2.2.2.2.2.2.2.1 i9.toNat (zj bI)
  let a3:=fK a2.1
  let a4:=[32,44,32,82,69,70,69,82,69,78,67,69,83,32,40,32]++a2.1
  let a5:=a4++[32,41,32]
  let a6:=a5++a2.2
  let a7:=zC z0.1.2.2.2.2.2.2.2.2.1
  let a8:=Dx a7 [32,44]
  let a9:=s5++a8.1
  let a10:=a9++[32,41]
  Tr.br (decide (i9 < a0))
  (Tr.chk (bif b4 then a1&&(dQ a2.1&&bif a3 then a1&&dQ a2.2 else true) else true)
   (Tr.chk a1 (Tr.chk (decide ([32,44,32,82,69,70,69,82,69,78,67,69,83,32,40,32].length+length a2.1≤1099511627776)) (Tr.chk (decide (length a4+[32,41,32].length≤1099511627776)) (Tr.chk a1 (Tr.chk (decide (length a5+length a2.2≤1099511627776)) (Tr.chk (decide (length s5+length a6≤1099511627776))
   (Tr.to (kQ.h20 (bif b4 then bif a3 then fK a2.2 else false else false) (s5++a6) (IntKind.i64.wrap (i9+1)) z0)))))))))
  (Tr.chk (yL a7 [32,44])
   (Tr.chk (decide (length s5+length a8.1≤1099511627776)&&decide (length a9+[32,41].length≤1099511627776)) (Tr.re (AV.tup [AV.str (bif b4 then a10 else a10),AV.bool (bif b4 then a8.2 else false)]) [])))
def pE (x0:Sem zx):=ap [Sh.str,Sh.bool] zaQ 100000000 (Yy x0)
def GJ (x0:Sem zx):=(pE x0).isSome
def J9 (x0:Sem zx):=o2 (pE x0)
def NN:=FT [zx] [Sh.str,Sh.bool] fun x=>pE x.1
theorem Lb:FK 240 NN:=wy.T1 (f:=Tryz.f240) (keep:=SO) (e:=XK)

def HZ:=OZ.addL [(240,NN)]
theorem sP:zm HZ:=wy.addL <| fc Lb <| g6
end
noncomputable section
abbrev XE:List CP:=[.d .str,.d .str,.d .str,.nil,.nil,.d .str,.nil,.nil,.d .str,.d zg,.d zg,.d .str,.d .str,.nil,.d (.sl zf),.nil,.d .str,.d zg,.d zg,.d .str,.d .str,.nil,.d .str]
abbrev XF:List CP:=[.d .str,.d .str,.d .str,.nil,.nil,.d .str,.nil,.nil,.d .str,.d zg,.d zg,.d .str,.d .str,.nil,.nil,.d (.sl aJ),.d .expr,.d .str]

abbrev Zk:=kP [(15,[1,3,5,12,13]),(27,[1,3,5,8,9,14,15])]
inductive vg where
 | h15 (s12:List UInt8) (i13:Int) (z0:zr kO) (z1:zr dN) (z2:zr XE)
 | h27 (s8:TS) (b9:Sem Sh.bool) (s14:List UInt8) (i15:Int) (z0:zr kO) (z1:zr dN) (z2:zr XF)
abbrev zbB:vg→Nat×St
 | .h15 s12 i13 z0 z1 z2=>(15,⟨tm 430 [(1,AV.ptr 0 0),(3,AV.ptr 1 0),(5,AV.ptr 2 0),(12,AV.str s12),(13,AV.int .i64 i13)],[AO.box (bu [] kO z0),AO.box (bu [] dN z1),AO.box (bu [] XE z2)]⟩)
 | .h27 s8 b9 s14 i15 z0 z1 z2=>(27,⟨tm 430 [(1,AV.ptr 0 0),(3,AV.ptr 1 0),(5,AV.ptr 2 0),(8,AV.str s8),(9,AV.bool b9),(14,AV.str s14),(15,AV.int .i64 i15)],[AO.box (bu [] kO z0),AO.box (bu [] dN z1),AO.box (bu [] XF z2)]⟩)
def zcW (x0:Sem zx):Tr (vg ⊕ ag):=
 let a0:=zC x0.2.2.2.2.2.2.2.2.1
 let a1:=zC x0.2.2.2.2.2.2.2.2.2.2.2.1
 let a2:=(x0.1,x0.2.1,x0.2.2.1,x0.2.2.2.1,x0.2.2.2.2.1,x0.2.2.2.2.2.1,x0.2.2.2.2.2.2.1,x0.2.2.2.2.2.2.2.1,a0,x0.2.2.2.2.2.2.2.2.2.1,x0.2.2.2.2.2.2.2.2.2.2.1,a1,x0.2.2.2.2.2.2.2.2.2.2.2.2)
 let a3:=J9 a2
 let a4:=Dx a1 [87,72,69,82,69]
 let a5:=[68,69,76,69,84,69,32,70,82,79,77,32]++x0.2.1
 let a6:=[83,69,76,69,67,84,32,42,32,70,82,79,77,32]++x0.2.1
 let a7:=[77,73,71,82,65,84,69,32,67,79,80,89,32]++x0.2.1
 let a8:=a7++[32,70,82,79,77,32]
 let a9:=a8++x0.2.2.1
 let a10:=a9++[32,40,32]
 let a11:=Ng x0.2.2.2.1
 let a12:=a10++a11.1
 let a13:=a12++[32,41]
 let a14:=Dx a0 []
 let a15:=dQ x0.2.2.1
 let a16:=fK x0.2.2.1
 let a17:=[77,73,71,82,65,84,69,32,74,79,73,78,32]++x0.2.1
 let a18:=a17++[32,70,82,79,77,32]
 let a19:=a18++x0.2.2.1
 let a20:=a19++[32,44,32]
 let a21:=a20++x0.2.2.2.2.2.2.2.2.2.2.2.2
 let a22:=a21++[32,79,78,32]
 let a23:=a22++x0.2.2.2.2.2.1
 let a24:=dQ x0.2.2.2.2.2.2.2.2.2.2.2.2
 let a25:=fK x0.2.2.2.2.2.2.2.2.2.2.2.2
 let a26:=[77,73,71,82,65,84,69,32,71,82,79,85,80,32]++x0.2.1
 let a27:=a26++[32,70,82,79,77,32]
 let a28:=a27++x0.2.2.1
 let a29:=zJ 0 (length x0.2.2.2.1)
 let a30:=a28++[32,66,89,32]
 let a31:=getD x0.2.2.2.1 (toNat 0) (zj Sh.str)
 let a32:=a30++a31
 let a33:=zJ 1 (length x0.2.2.2.1)
 let a34:=a32++[32,83,85,77,32]
 let a35:=getD x0.2.2.2.1 (toNat 1) (zj Sh.str)
 let a36:=a34++a35
 let a37:=[71,82,65,78,84,32,82,69,65,68,32,79,78,32]++x0.2.1
 let a38:=a37++[32,84,79,32]
 let a39:=[71,82,65,78,84,32,87,82,73,84,69,32,79,78,32]++x0.2.1
 let a40:=a39++[32,84,79,32]
 let a41:=[82,69,86,79,75,69,32,82,69,65,68,32,79,78,32]++x0.2.1
 let a42:=a41++[32,70,82,79,77,32]
 let a43:=[82,69,86,79,75,69,32,87,82,73,84,69,32,79,78,32]++x0.2.1
 let a44:=a43++[32,70,82,79,77,32]
 Tr.chk (yL a0 [])
 (Tr.chk (yL a1 [87,72,69,82,69])
  (Tr.br (x0.1==[99,114,101,97,116,101]) (Tr.chk (GJ a2) (Tr.re (AV.tup [AV.str a3.1,AV.agg [AV.str x0.1,AV.str x0.2.1,AV.str [],AV.nils,AV.sl zi x0.2.2.2.2.1,AV.str x0.2.2.2.2.2.1,AV.sl Sh.str x0.2.2.2.2.2.2.1,AV.sl (Sh.str.pr Sh.str) x0.2.2.2.2.2.2.2.1,AV.str (ze.op x0.2.2.2.2.2.2.2.2.1),AV.int .i64 (ze.v x0.2.2.2.2.2.2.2.2.1).1,
  AV.int .i64 (ze.v x0.2.2.2.2.2.2.2.2.1).2.1,AV.str (ze.v x0.2.2.2.2.2.2.2.2.1).2.2,AV.str (ze.s x0.2.2.2.2.2.2.2.2.1),AV.sl Sh.expr (ze.l x0.2.2.2.2.2.2.2.2.1),AV.nils,AV.nils,AV.str [],AV.int .i64 0,AV.int .i64 0,AV.str [],AV.str [],AV.nils,AV.str []],AV.bool a3.2]) [])) (Tr.br (x0.1==[100,114,111,112])
  (Tr.chk (decide ([68,82,79,80,32,84,65,66,76,69,32].length+length x0.2.1≤1099511627776)) (Tr.re (AV.tup [AV.str ([68,82,79,80,32,84,65,66,76,69,32]++x0.2.1),AV.agg [AV.str x0.1,AV.str x0.2.1,AV.str [],AV.nils,AV.nils,AV.str [],AV.nils,AV.nils,AV.str [],AV.int .i64 0,
  AV.int .i64 0,AV.str [],AV.str [],AV.nils,AV.nils,AV.nils,AV.str [],AV.int .i64 0,AV.int .i64 0,AV.str [],AV.str [],AV.nils,AV.str []],AV.kb true]) [])) (Tr.br (x0.1==[105,110,115,101,114,116]) (Tr.to (vg.h15 [] 0 (x0,()) ([],[],[],[],[],0,0,[],[],[],0,0,[],[],[],())
  (x0.1,x0.2.1,[],[],[],0,0,[],[],x0.2.2.2.2.2.2.2.2.2.1,[],0,0,[],[],[],()))) (Tr.br (x0.1==[117,112,100,97,116,101]) (Tr.to (vg.h27 a4.1 a4.2 [] 0 (x0,()) ([],[],[],[],[],0,0,[],[],[],0,0,[],[],[],()) (x0.1,x0.2.1,[],[],[],0,0,[],[],x0.2.2.2.2.2.2.2.2.2.2.1,x0.2.2.2.2.2.2.2.2.2.2.2.1,[],()))) (Tr.br (x0.1==[100,101,108,101,116,101])
  (Tr.chk (decide ([68,69,76,69,84,69,32,70,82,79,77,32].length+length x0.2.1≤1099511627776)) (Tr.chk (decide (length a5+length a4.1≤1099511627776)) (Tr.re (AV.tup [AV.str (a5++a4.1),AV.agg [AV.str x0.1,AV.str x0.2.1,AV.str [],AV.nils,AV.nils,AV.str [],AV.nils,AV.nils,AV.str [],AV.int .i64 0,
  AV.int .i64 0,AV.str [],AV.str [],AV.nils,AV.nils,AV.nils,AV.str (ze.op x0.2.2.2.2.2.2.2.2.2.2.2.1),AV.int .i64 (ze.v x0.2.2.2.2.2.2.2.2.2.2.2.1).1,AV.int .i64 (ze.v x0.2.2.2.2.2.2.2.2.2.2.2.1).2.1,AV.str (ze.v x0.2.2.2.2.2.2.2.2.2.2.2.1).2.2,AV.str (ze.s x0.2.2.2.2.2.2.2.2.2.2.2.1),AV.sl Sh.expr (ze.l x0.2.2.2.2.2.2.2.2.2.2.2.1),AV.str []],AV.bool a4.2]) [])))
  (Tr.br (x0.1==[115,101,108,101,99,116]) (Tr.chk (decide ([83,69,76,69,67,84,32,42,32,70,82,79,77,32].length+length x0.2.1≤1099511627776)) (Tr.chk (decide (length a6+length a4.1≤1099511627776)) (Tr.re (AV.tup [AV.str (a6++a4.1),AV.agg [AV.str x0.1,AV.str x0.2.1,AV.str [],AV.nils,AV.nils,AV.str [],AV.nils,AV.nils,AV.str [],AV.int .i64 0,
  AV.int .i64 0,AV.str [],AV.str [],AV.nils,AV.nils,AV.nils,AV.str (ze.op x0.2.2.2.2.2.2.2.2.2.2.2.1),AV.int .i64 (ze.v x0.2.2.2.2.2.2.2.2.2.2.2.1).1,AV.int .i64 (ze.v x0.2.2.2.2.2.2.2.2.2.2.2.1).2.1,AV.str (ze.v x0.2.2.2.2.2.2.2.2.2.2.2.1).2.2,AV.str (ze.s x0.2.2.2.2.2.2.2.2.2.2.2.1),AV.sl Sh.expr (ze.l x0.2.2.2.2.2.2.2.2.2.2.2.1),AV.str []],AV.bool a4.2]) [])))
  (Tr.br (x0.1==[99,111,112,121]) (Tr.chk (Kh x0.2.2.2.1) (Tr.chk (decide ([77,73,71,82,65,84,69,32,67,79,80,89,32].length+length x0.2.1≤1099511627776)) (Tr.chk (decide (length a7+[32,70,82,79,77,32].length≤1099511627776)) (Tr.chk (decide (length a8+length x0.2.2.1≤1099511627776))
  (Tr.chk (decide (length a9+[32,40,32].length≤1099511627776)) (Tr.chk (decide (length a10+length a11.1≤1099511627776)) (Tr.chk (decide (length a12+[32,41].length≤1099511627776)) (Tr.chk (decide (length a13+length a14.1≤1099511627776)) (Tr.br a11.2 (Tr.br a14.2 (Tr.chk a15 (Tr.re (AV.tup [AV.str (a13++a14.1),AV.agg
  [AV.str x0.1,AV.str x0.2.1,AV.str x0.2.2.1,AV.sl Sh.str x0.2.2.2.1,AV.nils,AV.str [],AV.nils,AV.nils,AV.str (ze.op x0.2.2.2.2.2.2.2.2.1),AV.int .i64 (ze.v x0.2.2.2.2.2.2.2.2.1).1,AV.int .i64 (ze.v x0.2.2.2.2.2.2.2.2.1).2.1,AV.str (ze.v x0.2.2.2.2.2.2.2.2.1).2.2,AV.str (ze.s x0.2.2.2.2.2.2.2.2.1),
  AV.sl Sh.expr (ze.l x0.2.2.2.2.2.2.2.2.1),AV.nils,AV.nils,AV.str [],AV.int .i64 0,AV.int .i64 0,AV.str [],AV.str [],AV.nils,AV.str []],AV.bool a16]) [])) (Tr.re (AV.tup [AV.str (a13++a14.1),AV.agg [AV.str x0.1,AV.str x0.2.1,AV.str x0.2.2.1,AV.sl Sh.str x0.2.2.2.1,AV.nils,AV.str [],AV.nils,AV.nils,AV.str (ze.op x0.2.2.2.2.2.2.2.2.1),
  AV.int .i64 (ze.v x0.2.2.2.2.2.2.2.2.1).1,AV.int .i64 (ze.v x0.2.2.2.2.2.2.2.2.1).2.1,AV.str (ze.v x0.2.2.2.2.2.2.2.2.1).2.2,AV.str (ze.s x0.2.2.2.2.2.2.2.2.1),AV.sl Sh.expr (ze.l x0.2.2.2.2.2.2.2.2.1),AV.nils,AV.nils,AV.str [],AV.int .i64 0,AV.int .i64 0,AV.str [],AV.str [],AV.nils,AV.str []],AV.kb false]) [])) (Tr.re (AV.tup [AV.str (a13++a14.1),AV.agg
  [AV.str x0.1,AV.str x0.2.1,AV.str x0.2.2.1,AV.sl Sh.str x0.2.2.2.1,AV.nils,AV.str [],AV.nils,AV.nils,AV.str (ze.op x0.2.2.2.2.2.2.2.2.1),AV.int .i64 (ze.v x0.2.2.2.2.2.2.2.2.1).1,AV.int .i64 (ze.v x0.2.2.2.2.2.2.2.2.1).2.1,AV.str (ze.v x0.2.2.2.2.2.2.2.2.1).2.2,AV.str (ze.s x0.2.2.2.2.2.2.2.2.1),
  AV.sl Sh.expr (ze.l x0.2.2.2.2.2.2.2.2.1),AV.nils,AV.nils,AV.str [],AV.int .i64 0,AV.int .i64 0,AV.str [],AV.str [],AV.nils,AV.str []],AV.kb false]) [])))))))))) (Tr.br (x0.1==[106,111,105,110]) (Tr.chk (decide ([77,73,71,82,65,84,69,32,74,79,73,78,32].length+length x0.2.1≤1099511627776))
  (Tr.chk (decide (length a17+[32,70,82,79,77,32].length≤1099511627776)) (Tr.chk (decide (length a18+length x0.2.2.1≤1099511627776)) (Tr.chk (decide (length a19+[32,44,32].length≤1099511627776)) (Tr.chk (decide (length a20+length x0.2.2.2.2.2.2.2.2.2.2.2.2≤1099511627776))
  (Tr.chk (decide (length a21+[32,79,78,32].length≤1099511627776)) (Tr.chk (decide (length a22+length x0.2.2.2.2.2.1≤1099511627776)) (Tr.chk (decide (length a23+length a14.1≤1099511627776)) (Tr.br a14.2 (Tr.chk a15 (Tr.br a16 (Tr.chk a24 (Tr.br a25 (Tr.chk (dQ x0.2.2.2.2.2.1) (Tr.re (AV.tup [AV.str (a23++a14.1),AV.agg
  [AV.str x0.1,AV.str x0.2.1,AV.str x0.2.2.1,AV.nils,AV.nils,AV.str x0.2.2.2.2.2.1,AV.nils,AV.nils,AV.str (ze.op x0.2.2.2.2.2.2.2.2.1),AV.int .i64 (ze.v x0.2.2.2.2.2.2.2.2.1).1,AV.int .i64 (ze.v x0.2.2.2.2.2.2.2.2.1).2.1,AV.str (ze.v x0.2.2.2.2.2.2.2.2.1).2.2,AV.str (ze.s x0.2.2.2.2.2.2.2.2.1),AV.sl Sh.expr (ze.l x0.2.2.2.2.2.2.2.2.1),AV.nils,AV.nils,AV.str [],
  AV.int .i64 0,AV.int .i64 0,AV.str [],AV.str [],AV.nils,AV.str x0.2.2.2.2.2.2.2.2.2.2.2.2],AV.bool (fK x0.2.2.2.2.2.1)]) [])) (Tr.re (AV.tup [AV.str (a23++a14.1),AV.agg [AV.str x0.1,AV.str x0.2.1,AV.str x0.2.2.1,AV.nils,AV.nils,AV.str x0.2.2.2.2.2.1,AV.nils,AV.nils,AV.str (ze.op x0.2.2.2.2.2.2.2.2.1),AV.int .i64 (ze.v x0.2.2.2.2.2.2.2.2.1).1,
  AV.int .i64 (ze.v x0.2.2.2.2.2.2.2.2.1).2.1,AV.str (ze.v x0.2.2.2.2.2.2.2.2.1).2.2,AV.str (ze.s x0.2.2.2.2.2.2.2.2.1),AV.sl Sh.expr (ze.l x0.2.2.2.2.2.2.2.2.1),AV.nils,AV.nils,AV.str [],AV.int .i64 0,AV.int .i64 0,AV.str [],AV.str [],AV.nils,AV.str x0.2.2.2.2.2.2.2.2.2.2.2.2],AV.kb false]) []))) (Tr.re (AV.tup [AV.str (a23++a14.1),AV.agg
  [AV.str x0.1,AV.str x0.2.1,AV.str x0.2.2.1,AV.nils,AV.nils,AV.str x0.2.2.2.2.2.1,AV.nils,AV.nils,AV.str (ze.op x0.2.2.2.2.2.2.2.2.1),AV.int .i64 (ze.v x0.2.2.2.2.2.2.2.2.1).1,AV.int .i64 (ze.v x0.2.2.2.2.2.2.2.2.1).2.1,AV.str (ze.v x0.2.2.2.2.2.2.2.2.1).2.2,AV.str (ze.s x0.2.2.2.2.2.2.2.2.1),AV.sl Sh.expr (ze.l x0.2.2.2.2.2.2.2.2.1),AV.nils,AV.nils,AV.str [],
  AV.int .i64 0,AV.int .i64 0,AV.str [],AV.str [],AV.nils,AV.str x0.2.2.2.2.2.2.2.2.2.2.2.2],AV.kb false]) []))) (Tr.re (AV.tup [AV.str (a23++a14.1),AV.agg [AV.str x0.1,AV.str x0.2.1,AV.str x0.2.2.1,AV.nils,AV.nils,AV.str x0.2.2.2.2.2.1,AV.nils,AV.nils,AV.str (ze.op x0.2.2.2.2.2.2.2.2.1),AV.int .i64 (ze.v x0.2.2.2.2.2.2.2.2.1).1,
  AV.int .i64 (ze.v x0.2.2.2.2.2.2.2.2.1).2.1,AV.str (ze.v x0.2.2.2.2.2.2.2.2.1).2.2,AV.str (ze.s x0.2.2.2.2.2.2.2.2.1),AV.sl Sh.expr (ze.l x0.2.2.2.2.2.2.2.2.1),AV.nils,AV.nils,AV.str [],AV.int .i64 0,AV.int .i64 0,AV.str [],AV.str [],AV.nils,AV.str x0.2.2.2.2.2.2.2.2.2.2.2.2],AV.kb false]) [])))))))))) (Tr.br (x0.1==[103,114,111,117,112])
  (Tr.br ((↑(length x0.2.2.2.1):Int) != 2) (Tr.re (AV.tup [AV.str [],AV.agg [AV.str x0.1,AV.str x0.2.1,AV.str x0.2.2.1,AV.sl Sh.str x0.2.2.2.1,AV.nils,AV.str [],AV.nils,AV.nils,AV.str (ze.op x0.2.2.2.2.2.2.2.2.1),AV.int .i64 (ze.v x0.2.2.2.2.2.2.2.2.1).1,AV.int .i64 (ze.v x0.2.2.2.2.2.2.2.2.1).2.1,
  AV.str (ze.v x0.2.2.2.2.2.2.2.2.1).2.2,AV.str (ze.s x0.2.2.2.2.2.2.2.2.1),AV.sl Sh.expr (ze.l x0.2.2.2.2.2.2.2.2.1),AV.nils,AV.nils,AV.str [],AV.int .i64 0,AV.int .i64 0,AV.str [],AV.str [],AV.nils,AV.str []],AV.kb false]) []) (Tr.chk (decide ([77,73,71,82,65,84,69,32,71,82,79,85,80,32].length+length x0.2.1≤1099511627776))
  (Tr.chk (decide (length a26+[32,70,82,79,77,32].length≤1099511627776)) (Tr.chk (decide (length a27+length x0.2.2.1≤1099511627776)) (Tr.chk (decide (length a28+[32,66,89,32].length≤1099511627776)) (Tr.chk a29 (Tr.chk (decide (length a30+length a31≤1099511627776))
  (Tr.chk (decide (length a32+[32,83,85,77,32].length≤1099511627776)) (Tr.chk a33 (Tr.chk (decide (length a34+length a35≤1099511627776)) (Tr.chk (decide (length a36+length a14.1≤1099511627776)) (Tr.br a14.2 (Tr.chk a15 (Tr.br a16 (Tr.chk a29 (Tr.chk (dQ a31) (Tr.br (fK a31) (Tr.chk a33 (Tr.chk (dQ a35) (Tr.re (AV.tup [AV.str (a36++a14.1),
  AV.agg [AV.str x0.1,AV.str x0.2.1,AV.str x0.2.2.1,AV.sl Sh.str x0.2.2.2.1,AV.nils,AV.str [],AV.nils,AV.nils,AV.str (ze.op x0.2.2.2.2.2.2.2.2.1),AV.int .i64 (ze.v x0.2.2.2.2.2.2.2.2.1).1,AV.int .i64 (ze.v x0.2.2.2.2.2.2.2.2.1).2.1,AV.str (ze.v x0.2.2.2.2.2.2.2.2.1).2.2,AV.str (ze.s x0.2.2.2.2.2.2.2.2.1),AV.sl Sh.expr (ze.l x0.2.2.2.2.2.2.2.2.1),AV.nils,AV.nils,
  AV.str [],AV.int .i64 0,AV.int .i64 0,AV.str [],AV.str [],AV.nils,AV.str []],AV.bool (fK a35)]) []))) (Tr.re (AV.tup [AV.str (a36++a14.1),AV.agg [AV.str x0.1,AV.str x0.2.1,AV.str x0.2.2.1,AV.sl Sh.str x0.2.2.2.1,AV.nils,AV.str [],AV.nils,AV.nils,AV.str (ze.op x0.2.2.2.2.2.2.2.2.1),AV.int .i64 (ze.v x0.2.2.2.2.2.2.2.2.1).1,
  AV.int .i64 (ze.v x0.2.2.2.2.2.2.2.2.1).2.1,AV.str (ze.v x0.2.2.2.2.2.2.2.2.1).2.2,AV.str (ze.s x0.2.2.2.2.2.2.2.2.1),AV.sl Sh.expr (ze.l x0.2.2.2.2.2.2.2.2.1),AV.nils,AV.nils,AV.str [],AV.int .i64 0,AV.int .i64 0,AV.str [],AV.str [],AV.nils,AV.str []],AV.kb false]) [])))) (Tr.re (AV.tup [AV.str (a36++a14.1),AV.agg
  [AV.str x0.1,AV.str x0.2.1,AV.str x0.2.2.1,AV.sl Sh.str x0.2.2.2.1,AV.nils,AV.str [],AV.nils,AV.nils,AV.str (ze.op x0.2.2.2.2.2.2.2.2.1),AV.int .i64 (ze.v x0.2.2.2.2.2.2.2.2.1).1,AV.int .i64 (ze.v x0.2.2.2.2.2.2.2.2.1).2.1,AV.str (ze.v x0.2.2.2.2.2.2.2.2.1).2.2,AV.str (ze.s x0.2.2.2.2.2.2.2.2.1),
  AV.sl Sh.expr (ze.l x0.2.2.2.2.2.2.2.2.1),AV.nils,AV.nils,AV.str [],AV.int .i64 0,AV.int .i64 0,AV.str [],AV.str [],AV.nils,AV.str []],AV.kb false]) []))) (Tr.re (AV.tup [AV.str (a36++a14.1),AV.agg [AV.str x0.1,AV.str x0.2.1,AV.str x0.2.2.1,AV.sl Sh.str x0.2.2.2.1,AV.nils,AV.str [],AV.nils,AV.nils,AV.str (ze.op x0.2.2.2.2.2.2.2.2.1),
  AV.int .i64 (ze.v x0.2.2.2.2.2.2.2.2.1).1,AV.int .i64 (ze.v x0.2.2.2.2.2.2.2.2.1).2.1,AV.str (ze.v x0.2.2.2.2.2.2.2.2.1).2.2,AV.str (ze.s x0.2.2.2.2.2.2.2.2.1),AV.sl Sh.expr (ze.l x0.2.2.2.2.2.2.2.2.1),AV.nils,AV.nils,AV.str [],AV.int .i64 0,AV.int .i64 0,AV.str [],AV.str [],AV.nils,AV.str []],AV.kb false]) []))))))))))))) (Tr.br (x0.1==[114,101,97,100])
  (Tr.chk (decide ([71,82,65,78,84,32,82,69,65,68,32,79,78,32].length+length x0.2.1≤1099511627776)) (Tr.chk (decide (length a37+[32,84,79,32].length≤1099511627776)) (Tr.chk (decide (length a38+length x0.2.2.2.2.2.2.2.2.2.2.2.2≤1099511627776)) (Tr.chk a24 (Tr.re (AV.tup [AV.str (a38++x0.2.2.2.2.2.2.2.2.2.2.2.2),AV.agg
  [AV.str x0.1,AV.str x0.2.1,AV.str [],AV.nils,AV.nils,AV.str [],AV.nils,AV.nils,AV.str [],AV.int .i64 0,AV.int .i64 0,AV.str [],AV.str [],AV.nils,AV.nils,AV.nils,AV.str [],AV.int .i64 0,AV.int .i64 0,AV.str [],AV.str [],AV.nils,AV.str x0.2.2.2.2.2.2.2.2.2.2.2.2],AV.bool a25]) []))))) (Tr.br (x0.1==[119,114,105,116,101])
  (Tr.chk (decide ([71,82,65,78,84,32,87,82,73,84,69,32,79,78,32].length+length x0.2.1≤1099511627776)) (Tr.chk (decide (length a39+[32,84,79,32].length≤1099511627776)) (Tr.chk (decide (length a40+length x0.2.2.2.2.2.2.2.2.2.2.2.2≤1099511627776)) (Tr.chk a24 (Tr.re (AV.tup [AV.str (a40++x0.2.2.2.2.2.2.2.2.2.2.2.2),AV.agg
  [AV.str x0.1,AV.str x0.2.1,AV.str [],AV.nils,AV.nils,AV.str [],AV.nils,AV.nils,AV.str [],AV.int .i64 0,AV.int .i64 0,AV.str [],AV.str [],AV.nils,AV.nils,AV.nils,AV.str [],AV.int .i64 0,AV.int .i64 0,AV.str [],AV.str [],AV.nils,AV.str x0.2.2.2.2.2.2.2.2.2.2.2.2],AV.bool a25]) []))))) (Tr.br (x0.1==[117,110,114,101,97,100])
  (Tr.chk (decide ([82,69,86,79,75,69,32,82,69,65,68,32,79,78,32].length+length x0.2.1≤1099511627776)) (Tr.chk (decide (length a41+[32,70,82,79,77,32].length≤1099511627776)) (Tr.chk (decide (length a42+length x0.2.2.2.2.2.2.2.2.2.2.2.2≤1099511627776)) (Tr.chk a24 (Tr.re (AV.tup [AV.str (a42++x0.2.2.2.2.2.2.2.2.2.2.2.2),AV.agg
  [AV.str x0.1,AV.str x0.2.1,AV.str [],AV.nils,AV.nils,AV.str [],AV.nils,AV.nils,AV.str [],AV.int .i64 0,AV.int .i64 0,AV.str [],AV.str [],AV.nils,AV.nils,AV.nils,AV.str [],AV.int .i64 0,AV.int .i64 0,AV.str [],AV.str [],AV.nils,AV.str x0.2.2.2.2.2.2.2.2.2.2.2.2],AV.bool a25]) []))))) (Tr.br (x0.1==[117,110,119,114,105,116,101]) (Tr.chk
  (decide ([82,69,86,79,75,69,32,87,82,73,84,69,32,79,78,32].length+length x0.2.1≤1099511627776)) (Tr.chk (decide (length a43+[32,70,82,79,77,32].length≤1099511627776)) (Tr.chk (decide (length a44+length x0.2.2.2.2.2.2.2.2.2.2.2.2≤1099511627776)) (Tr.chk a24 (Tr.re (AV.tup [AV.str (a44++x0.2.2.2.2.2.2.2.2.2.2.2.2),AV.agg
  [AV.str x0.1,AV.str x0.2.1,AV.str [],AV.nils,AV.nils,AV.str [],AV.nils,AV.nils,AV.str [],AV.int .i64 0,AV.int .i64 0,AV.str [],AV.str [],AV.nils,AV.nils,AV.nils,AV.str [],AV.int .i64 0,AV.int .i64 0,AV.str [],AV.str [],AV.nils,AV.str x0.2.2.2.2.2.2.2.2.2.2.2.2],AV.bool a25]) []))))) (Tr.re (AV.tup [AV.str [],AV.agg
  [AV.str x0.1,AV.str x0.2.1,AV.str [],AV.nils,AV.nils,AV.str [],AV.nils,AV.nils,AV.str [],AV.int .i64 0,AV.int .i64 0,AV.str [],AV.str [],AV.nils,AV.nils,AV.nils,AV.str [],AV.int .i64 0,AV.int .i64 0,AV.str [],AV.str [],AV.nils,AV.str []],AV.kb false]) [])))))))))))))))
def zdA:vg→Tr (vg ⊕ ag)
 | .h15 s12 i13 z0 z1 z2=>
  let a0:=(↑(length z0.1.2.2.2.2.2.2.2.2.2.1):Int)
  let a1:=zJ i13 (length z0.1.2.2.2.2.2.2.2.2.2.1)
  let a2:=getD z0.1.2.2.2.2.2.2.2.2.2.1 i13.toNat (zj zf)
  let a3:=md a2
  let a4:=s12++[32,44,32]
  let a5:=pB a2
  let a6:=IntKind.i64.wrap (i13+1)
  let a7:=[73,78,83,69,82,84,32,73,78,84,79,32]++z0.1.2.1
  let a8:=a7++[32,86,65,76,85,69,83,32,40,32]
  let a9:=a8++s12
  Tr.br (decide (i13 < a0))
  (Tr.chk a1
   (Tr.chk (uh a2) (Tr.br (!BF a2) (Tr.re (AV.tup [AV.str [],AV.agg [AV.str z2.1,AV.str z2.2.1,AV.str z2.2.2.1,AV.nils,AV.nils,AV.str z2.2.2.2.1,AV.nils,AV.nils,AV.str z2.2.2.2.2.1,AV.int .i64 z2.2.2.2.2.2.1,AV.int .i64 z2.2.2.2.2.2.2.1,AV.str z2.2.2.2.2.2.2.2.1,AV.str z2.2.2.2.2.2.2.2.2.1,AV.nils,AV.sl zf z2.2.2.2.2.2.2.2.2.2.1,AV.nils,
   AV.str z2.2.2.2.2.2.2.2.2.2.2.1,AV.int .i64 z2.2.2.2.2.2.2.2.2.2.2.2.1,AV.int .i64 z2.2.2.2.2.2.2.2.2.2.2.2.2.1,AV.str z2.2.2.2.2.2.2.2.2.2.2.2.2.2.1,AV.str z2.2.2.2.2.2.2.2.2.2.2.2.2.2.2.1,AV.nils,AV.str z2.2.2.2.2.2.2.2.2.2.2.2.2.2.2.2.1],AV.kb false]) []) (Tr.br (decide (i13 > 0)) (Tr.chk (decide (s12.length+[32,44,32].length≤1099511627776))
   (Tr.chk a1 (Tr.chk a3 (Tr.chk (decide (length a4+length a5≤1099511627776)) (Tr.to (vg.h15 (a4++a5) a6 z0 z1 z2)))))) (Tr.chk a1 (Tr.chk a3 (Tr.chk (decide (s12.length+length a5≤1099511627776)) (Tr.to (vg.h15 (s12++a5) a6 z0 z1 z2)))))))))
  (Tr.chk (decide ([73,78,83,69,82,84,32,73,78,84,79,32].length+length z0.1.2.1≤1099511627776))
   (Tr.chk (decide (length a7+[32,86,65,76,85,69,83,32,40,32].length≤1099511627776)) (Tr.chk (decide (length a8+s12.length≤1099511627776)) (Tr.chk (decide (length a9+[32,41].length≤1099511627776)) (Tr.br (decide (1≤a0)) (Tr.re (AV.tup [AV.str (a9++[32,41]),AV.agg
   [AV.str z2.1,AV.str z2.2.1,AV.str z2.2.2.1,AV.nils,AV.nils,AV.str z2.2.2.2.1,AV.nils,AV.nils,AV.str z2.2.2.2.2.1,AV.int .i64 z2.2.2.2.2.2.1,AV.int .i64 z2.2.2.2.2.2.2.1,AV.str z2.2.2.2.2.2.2.2.1,AV.str z2.2.2.2.2.2.2.2.2.1,AV.nils,AV.sl zf z2.2.2.2.2.2.2.2.2.2.1,AV.nils,AV.str z2.2.2.2.2.2.2.2.2.2.2.1,AV.int .i64 z2.2.2.2.2.2.2.2.2.2.2.2.1,
   AV.int .i64 z2.2.2.2.2.2.2.2.2.2.2.2.2.1,AV.str z2.2.2.2.2.2.2.2.2.2.2.2.2.2.1,AV.str z2.2.2.2.2.2.2.2.2.2.2.2.2.2.2.1,AV.nils,AV.str z2.2.2.2.2.2.2.2.2.2.2.2.2.2.2.2.1],AV.bool (decide (a0≤12))]) []) (Tr.re (AV.tup [AV.str (a9++[32,41]),AV.agg [AV.str z2.1,AV.str z2.2.1,AV.str z2.2.2.1,AV.nils,AV.nils,AV.str z2.2.2.2.1,AV.nils,AV.nils,
   AV.str z2.2.2.2.2.1,AV.int .i64 z2.2.2.2.2.2.1,AV.int .i64 z2.2.2.2.2.2.2.1,AV.str z2.2.2.2.2.2.2.2.1,AV.str z2.2.2.2.2.2.2.2.2.1,AV.nils,AV.sl zf z2.2.2.2.2.2.2.2.2.2.1,AV.nils,AV.str z2.2.2.2.2.2.2.2.2.2.2.1,AV.int .i64 z2.2.2.2.2.2.2.2.2.2.2.2.1,AV.int .i64 z2.2.2.2.2.2.2.2.2.2.2.2.2.1,AV.str z2.2.2.2.2.2.2.2.2.2.2.2.2.2.1,AV.str z2.2.2.2.2.2.2.2.2.2.2.2.2.2.2.1,
   AV.nils,AV.str z2.2.2.2.2.2.2.2.2.2.2.2.2.2.2.2.1],AV.kb false]) []))))))
 | .h27 s8 b9 s14 i15 z0 z1 z2=>
  let a0:=(↑(length z0.1.2.2.2.2.2.2.2.2.2.2.1):Int)
  let a1:=zJ i15 (length z0.1.2.2.2.2.2.2.2.2.2.2.1)
  let a2:=getD z0.1.2.2.2.2.2.2.2.2.2.2.1 i15.toNat (zj aJ)
  let a3 := !fK a2.1
  let a4:=zC a2.2
  let a5:=decide (length a2.1+[32,61,32].length≤1099511627776)
  let a6:=rc a4
  let a7:=a2.1++[32,61,32]
  let a8:=pD a4
  let a9:=decide (length a7+length a8≤1099511627776)
  let a10:=s14++[32,44,32]
  let a11:=a7++a8
  let a12:=IntKind.i64.wrap (i15+1)
  let a13:=[85,80,68,65,84,69,32]++z0.1.2.1
  let a14:=a13++[32,83,69,84,32]
  let a15:=a14++s14
  Tr.br (decide (i15 < a0))
  (Tr.chk (a1&&(dQ a2.1&&bif a3 then true else a1&&Dl a4))
   (Tr.br (bif a3 then true else !J3 a4) (Tr.re (AV.tup [AV.str [],AV.agg [AV.str z2.1,AV.str z2.2.1,AV.str z2.2.2.1,AV.nils,AV.nils,AV.str z2.2.2.2.1,AV.nils,AV.nils,AV.str z2.2.2.2.2.1,AV.int .i64 z2.2.2.2.2.2.1,AV.int .i64 z2.2.2.2.2.2.2.1,AV.str z2.2.2.2.2.2.2.2.1,AV.str z2.2.2.2.2.2.2.2.2.1,AV.nils,AV.nils,
   AV.sl (Sh.str.pr Sh.expr) z2.2.2.2.2.2.2.2.2.2.1,AV.str (ze.op z2.2.2.2.2.2.2.2.2.2.2.1),AV.int .i64 (ze.v z2.2.2.2.2.2.2.2.2.2.2.1).1,AV.int .i64 (ze.v z2.2.2.2.2.2.2.2.2.2.2.1).2.1,AV.str (ze.v z2.2.2.2.2.2.2.2.2.2.2.1).2.2,AV.str (ze.s z2.2.2.2.2.2.2.2.2.2.2.1),AV.sl Sh.expr (ze.l z2.2.2.2.2.2.2.2.2.2.2.1),AV.str z2.2.2.2.2.2.2.2.2.2.2.2.1],AV.kb false]) [])
   (Tr.br (decide (i15 > 0)) (Tr.chk (decide (s14.length+[32,44,32].length≤1099511627776)) (Tr.chk a1 (Tr.chk a5 (Tr.chk a1 (Tr.chk a6 (Tr.chk a9 (Tr.chk (decide (length a10+length a11≤1099511627776)) (Tr.to (vg.h27 s8 b9 (a10++a11) a12 z0 z1 z2))))))))) (Tr.chk a1 (Tr.chk a5 (Tr.chk a1
   (Tr.chk a6 (Tr.chk a9 (Tr.chk (decide (s14.length+length a11≤1099511627776)) (Tr.to (vg.h27 s8 b9 (s14++a11) a12 z0 z1 z2)))))))))))
  (Tr.chk (decide ([85,80,68,65,84,69,32].length+length z0.1.2.1≤1099511627776))
   (Tr.chk (decide (length a13+[32,83,69,84,32].length≤1099511627776)) (Tr.chk (decide (length a14+s14.length≤1099511627776)) (Tr.chk (decide (length a15+length s8≤1099511627776)) (Tr.br b9 (Tr.br (decide (1≤a0)) (Tr.re (AV.tup [AV.str (a15++s8),AV.agg [AV.str z2.1,AV.str z2.2.1,AV.str z2.2.2.1,AV.nils,AV.nils,AV.str z2.2.2.2.1,AV.nils,AV.nils,
   AV.str z2.2.2.2.2.1,AV.int .i64 z2.2.2.2.2.2.1,AV.int .i64 z2.2.2.2.2.2.2.1,AV.str z2.2.2.2.2.2.2.2.1,AV.str z2.2.2.2.2.2.2.2.2.1,AV.nils,AV.nils,AV.sl (Sh.str.pr Sh.expr) z2.2.2.2.2.2.2.2.2.2.1,AV.str (ze.op z2.2.2.2.2.2.2.2.2.2.2.1),AV.int .i64 (ze.v z2.2.2.2.2.2.2.2.2.2.2.1).1,AV.int .i64 (ze.v z2.2.2.2.2.2.2.2.2.2.2.1).2.1,AV.str (ze.v z2.2.2.2.2.2.2.2.2.2.2.1).2.2,
   AV.str (ze.s z2.2.2.2.2.2.2.2.2.2.2.1),AV.sl Sh.expr (ze.l z2.2.2.2.2.2.2.2.2.2.2.1),AV.str z2.2.2.2.2.2.2.2.2.2.2.2.1],AV.bool (decide (a0≤8))]) []) (Tr.re (AV.tup [AV.str (a15++s8),AV.agg [AV.str z2.1,AV.str z2.2.1,AV.str z2.2.2.1,AV.nils,AV.nils,AV.str z2.2.2.2.1,AV.nils,AV.nils,AV.str z2.2.2.2.2.1,AV.int .i64 z2.2.2.2.2.2.1,AV.int .i64 z2.2.2.2.2.2.2.1,
   AV.str z2.2.2.2.2.2.2.2.1,AV.str z2.2.2.2.2.2.2.2.2.1,AV.nils,AV.nils,AV.sl (Sh.str.pr Sh.expr) z2.2.2.2.2.2.2.2.2.2.1,AV.str (ze.op z2.2.2.2.2.2.2.2.2.2.2.1),AV.int .i64 (ze.v z2.2.2.2.2.2.2.2.2.2.2.1).1,AV.int .i64 (ze.v z2.2.2.2.2.2.2.2.2.2.2.1).2.1,AV.str (ze.v z2.2.2.2.2.2.2.2.2.2.2.1).2.2,
   AV.str (ze.s z2.2.2.2.2.2.2.2.2.2.2.1),AV.sl Sh.expr (ze.l z2.2.2.2.2.2.2.2.2.2.2.1),AV.str z2.2.2.2.2.2.2.2.2.2.2.2.1],AV.kb false]) [])) (Tr.re (AV.tup [AV.str (a15++s8),AV.agg [AV.str z2.1,AV.str z2.2.1,AV.str z2.2.2.1,AV.nils,AV.nils,AV.str z2.2.2.2.1,AV.nils,AV.nils,AV.str z2.2.2.2.2.1,AV.int .i64 z2.2.2.2.2.2.1,AV.int .i64 z2.2.2.2.2.2.2.1,
   AV.str z2.2.2.2.2.2.2.2.1,AV.str z2.2.2.2.2.2.2.2.2.1,AV.nils,AV.nils,AV.sl (Sh.str.pr Sh.expr) z2.2.2.2.2.2.2.2.2.2.1,AV.str (ze.op z2.2.2.2.2.2.2.2.2.2.2.1),AV.int .i64 (ze.v z2.2.2.2.2.2.2.2.2.2.2.1).1,AV.int .i64 (ze.v z2.2.2.2.2.2.2.2.2.2.2.1).2.1,AV.str (ze.v z2.2.2.2.2.2.2.2.2.2.2.1).2.2,AV.str (ze.s z2.2.2.2.2.2.2.2.2.2.2.1),
   AV.sl Sh.expr (ze.l z2.2.2.2.2.2.2.2.2.2.2.1),AV.str z2.2.2.2.2.2.2.2.2.2.2.2.1],AV.kb false]) []))))))
def uu (x0:Sem zx):=ap [Sh.str,zx,Sh.bool] zdA 100000000 (zcW x0)
def Ki (x0:Sem zx):=(uu x0).isSome
def Nh (x0:Sem zx):=o3 (uu x0)
def VE:=FT [zx] [Sh.str,zx,Sh.bool] fun x=>uu x.1
theorem Rc:FK 183 VE:=sP.T1 (f:=Tryz.f183) (keep:=Zk) (e:=zbB)

def O0:=HZ.add 183 VE
theorem wz:zm O0:=sP.add Rc
end

noncomputable def zcQ (x0:Sem zx):Tr (Empty ⊕ ag):=
 let a0:=(x0.1,x0.2.1,x0.2.2.1,x0.2.2.2.1,x0.2.2.2.2.1,x0.2.2.2.2.2.1,x0.2.2.2.2.2.2.1,x0.2.2.2.2.2.2.2.1,zC x0.2.2.2.2.2.2.2.2.1,x0.2.2.2.2.2.2.2.2.2.1,x0.2.2.2.2.2.2.2.2.2.2.1,zC x0.2.2.2.2.2.2.2.2.2.2.2.1,x0.2.2.2.2.2.2.2.2.2.2.2.2)
 let a1:=Nh a0
 let a2 := !a1.2.2
 let a3 := !fK x0.2.1
 let a4:=(a1.2.1.1,a1.2.1.2.1,a1.2.1.2.2.1,a1.2.1.2.2.2.1,a1.2.1.2.2.2.2.1,a1.2.1.2.2.2.2.2.1,a1.2.1.2.2.2.2.2.2.1,a1.2.1.2.2.2.2.2.2.2.1,zC a1.2.1.2.2.2.2.2.2.2.2.1,a1.2.1.2.2.2.2.2.2.2.2.2.1,a1.2.1.2.2.2.2.2.2.2.2.2.2.1,zC a1.2.1.2.2.2.2.2.2.2.2.2.2.2.1,a1.2.1.2.2.2.2.2.2.2.2.2.2.2.2)
 let a5:=xe a1.1
 Tr.chk (Ki a0)
 (Tr.chk (bif a2 then true else dQ x0.2.1&&bif a3 then true else Nf a4 a0)
  (Tr.br (bif a2 then true else bif a3 then true else !TQ a4 a0) (Tr.re (AV.tup [AV.str [],AV.kb false]) []) (Tr.chk (Kb a1.1) (Tr.br (!a5.2) (Tr.re (AV.tup [AV.str [],AV.kb false]) []) (Tr.re (AV.tup [AV.str a1.1,AV.kb true]) [])))))
noncomputable def yK (x0:Sem zx):=ap [Sh.str,Sh.bool] t0 100000000 (zcQ x0)
noncomputable def iJ (x0:Sem zx):=(yK x0).isSome
noncomputable def lC (x0:Sem zx):=o2 (yK x0)
noncomputable def Vh:=FT [zx] [Sh.str,Sh.bool] fun x=>yK x.1
theorem QN:FK 116 Vh:=wz.T1 (f:=Tryz.f116) (keep:=k0) (e:=e0)

noncomputable def A5:=O0.add 116 Vh
theorem lT:zm A5:=wz.add QN
noncomputable section

def YP (x0:Sem zo.sl) (x1:Sem zg) (x2:Sem Sh.str):Tr (Empty ⊕ ag):=
 let a0:=decide (x1 < (↑(length x0):Int))
 let a1:=getD x0 (toNat x1) (zj zo)
 let a2:=a1.1==1
 let a3:=a1.1==4
 let a4:=a1.2==x2
 Tr.chk
 (bif a0 then zJ x1 (length x0)&&bif a2 then zJ x1 (length x0) else zJ x1 (length x0)&&bif a3 then zJ x1 (length x0) else true
 else true)
 (Tr.re (AV.bool (bif a0 then bif a2 then a4 else bif a3 then a4 else false else false)) [])
def Kd (x0:Sem zo.sl) (x1:Sem zg) (x2:Sem Sh.str):=ap [Sh.bool] t0 100000000 (YP x0 x1 x2)
def iI (x0:Sem zo.sl) (x1:Sem zg) (x2:Sem Sh.str):=(Kd x0 x1 x2).isSome
def ov (x0:Sem zo.sl) (x1:Sem zg) (x2:Sem Sh.str):=o1 (Kd x0 x1 x2)
def Ol:=FT [zo.sl,zg,Sh.str] [Sh.bool] fun x=>Kd x.1 x.2.1 x.2.2.1
theorem LO:FK 274 Ol:=lT.T1 (f:=Tryz.f274) (keep:=k0) (e:=e0)

abbrev SZ:=kP [(3,[0,2,4,5]),(10,[0,2,6,7]),(18,[0,2,6,8])]
inductive kl where
 | h3 (s0:Sem Sh.str) (l4:List (Sem zf)) (i5:Int) (z0:zr [CP.d zf])
 | h10 (s0:Sem Sh.str) (i7:Int) (z0:zr [CP.d zf]) (z1:zr [CP.d zf])
 | h18 (s0:Sem Sh.str) (i8:Int) (z0:zr [CP.d zf]) (z1:zr [CP.d zf])
abbrev XS:kl→Nat×St
 | .h3 s0 l4 i5 z0=>(3,⟨tm 145 [(0,AV.str s0),(2,AV.ptr 0 0),(4,AV.sl zf l4),(5,AV.int .i64 i5)],[AO.box (bu [] [CP.d zf] z0)]⟩)
 | .h10 s0 i7 z0 z1=>(10,⟨tm 145 [(0,AV.str s0),(2,AV.ptr 0 0),(6,AV.ptr 1 0),(7,AV.int .i64 i7)],[AO.box (bu [] [CP.d zf] z0),AO.box (bu [] [CP.d zf] z1)]⟩)
 | .h18 s0 i8 z0 z1=>(18,⟨tm 145 [(0,AV.str s0),(2,AV.ptr 0 0),(6,AV.ptr 1 0),(8,AV.int .i64 i8)],[AO.box (bu [] [CP.d zf] z0),AO.box (bu [] [CP.d zf] z1)]⟩)
def YR (x0:Sem Sh.str):Tr (kl ⊕ ag):=
 Tr.to (kl.h3 x0 [(0,0,[]),(3,0,[]),(3,1,[])] 0 ((0,0,[]),()))
def zaY:kl→Tr (kl ⊕ ag)
 | .h3 s0 l4 i5 z0=>
  let a0:=l4.getD i5.toNat (zj zf)
  let a1:=decide ((↑(length s0):Int) ≥ 2)
  let a2:=(↑(getD s0 (toNat 0) 0).toNat:Int)==39
  let a3:=IntKind.i64.wrap ((↑(length s0):Int) - 1)
  Tr.br (decide (i5 < (↑l4.length:Int)))
  (Tr.chk (zJ i5 l4.length) (Tr.chk (md a0) (Tr.br (pB a0==s0) (Tr.chk (zJ i5 l4.length) (Tr.re (AV.tup [AV.agg [AV.int .i64 a0.1,AV.int .i64 a0.2.1,AV.str a0.2.2],AV.kb true]) [])) (Tr.to (kl.h3 s0 l4 (IntKind.i64.wrap (i5+1)) z0)))))
  (Tr.chk (bif a1 then zJ 0 (length s0)&&bif a2 then zJ a3 (length s0) else true else true) (Tr.br (bif a1 then bif a2 then (↑(getD s0 a3.toNat 0).toNat:Int)==39 else false else false) (Tr.to (kl.h10 s0 1 z0 ((2,0,[]),()))) (Tr.to (kl.h18 s0 0 z0 ((1,0,[]),())))))
 | .h10 s0 i7 z0 z1=>
  let a0:=IntKind.i64.wrap ((↑(length s0):Int) - 1)
  let a1:=IntKind.i64.wrap (i7+1)
  let a2:=List.take (a1.toNat - i7.toNat) (List.drop i7.toNat s0)
  let a3:=((z1.1.1,z1.1.2.1,z1.1.2.2++a2),())
  Tr.br (decide (i7 < a0))
  (Tr.chk (decide (0≤i7)&&decide (i7≤a1)&&decide (a1≤(↑(length s0):Int))) (Tr.chk (decide (length z1.1.2.2+a2.length≤1099511627776)) (Tr.chk (zJ i7 (length s0)) (Tr.br ((↑(getD s0 i7.toNat 0).toNat:Int)==39) (Tr.to (kl.h10 s0 (IntKind.i64.wrap (a1+1)) z0 a3)) (Tr.to (kl.h10 s0 a1 z0 a3))))))
  (Tr.chk (md z1.1) (Tr.re (AV.tup [AV.agg [AV.int .i64 z1.1.1,AV.int .i64 z1.1.2.1,AV.str z1.1.2.2],AV.bool (pB z1.1==s0)]) []))
 | .h18 s0 i8 z0 z1=>
  let a0:=zJ 0 (length s0)
  let a1:=(↑(getD s0 (toNat 0) 0).toNat:Int)
  let a2:=IntKind.i64.wrap (i8+1)
  let a3:=(↑(getD s0 i8.toNat 0).toNat:Int)
  let a4:=decide (a3 < 48)
  let a5:=decide (a3 > 57)
  let a6:=decide (z1.1.2.1 < -922337203685477580)
  let a7:=z1.1.2.1==-922337203685477580
  let a8:=IntKind.i64.wrap (0 - z1.1.2.1)
  let a9:=(z1.1.1,a8,z1.1.2.2)
  Tr.br (decide (i8 < (↑(length s0):Int)))
  (Tr.chk (bif i8==0 then a0 else true) (Tr.br (bif i8==0 then a1==45 else false) (Tr.to (kl.h18 s0 a2 z0 z1)) (Tr.chk (zJ i8 (length s0)&&bif a4 then true else zJ i8 (length s0)&&bif a5 then true else bif a6 then true else bif a7 then zJ i8 (length s0) else true)
  (Tr.br (bif a4 then true else bif a5 then true else bif a6 then true else bif a7 then decide (a3 > 56) else false) (Tr.re (AV.tup [AV.agg [AV.int .i64 0,AV.int .i64 0,AV.str []],AV.kb false]) []) (Tr.chk (zJ i8 (length s0)) (Tr.to (kl.h18 s0 a2 z0 ((z1.1.1,IntKind.i64.wrap (IntKind.i64.wrap (IntKind.i64.wrap (10 * z1.1.2.1) - IntKind.i64.wrap a3)+48),z1.1.2.2),()))))))))
  (Tr.chk (bif s0==[] then true else a0) (Tr.br (bif s0==[] then true else a1 != 45) (Tr.br (z1.1.2.1==-9223372036854775808) (Tr.re (AV.tup [AV.agg [AV.int .i64 0,AV.int .i64 0,AV.str []],AV.kb false]) []) (Tr.chk (md a9) (Tr.re (AV.tup [AV.agg [AV.int .i64 z1.1.1,AV.int .i64 a8,AV.str z1.1.2.2],AV.bool (pB a9==s0)]) []))) (Tr.chk (md z1.1)
  (Tr.re (AV.tup [AV.agg [AV.int .i64 z1.1.1,AV.int .i64 z1.1.2.1,AV.str z1.1.2.2],AV.bool (pB z1.1==s0)]) []))))
def ui (x0:Sem Sh.str):=ap [zf,Sh.bool] zaY 100000000 (YR x0)
def BG (x0:Sem Sh.str):=(ui x0).isSome
def om (x0:Sem Sh.str):=o2 (ui x0)
def Oo:=FT [Sh.str] [zf,Sh.bool] fun x=>ui x.1
theorem LR:FK 292 Oo:=lT.T1 (f:=Tryz.f292) (keep:=SZ) (e:=XS)

def O6:=A5.addL [(274,Ol),(292,Oo)]
theorem wL:zm O6:=lT.addL <| fc LO <| fc LR <|  g6
end
noncomputable section

abbrev SY:=kP [(1,[0,1,4])]
inductive vS where
 | h1 (s0:Sem Sh.str) (s1:Sem Sh.str) (z0:zr [CP.d zf])
abbrev XR:vS→Nat×St
 | .h1 s0 s1 z0=>(1,⟨tm 25 [(0,AV.str s0),(1,AV.str s1),(4,AV.ptr 0 0)],[AO.box (bu [] [CP.d zf] z0)]⟩)
def YQ (x0:Sem Sh.str) (x1:Sem Sh.str):Tr (vS ⊕ ag):=
 Tr.to (vS.h1 x0 x1 ((0,0,[]),()))
def zaX:vS→Tr (vS ⊕ ag)
 | .h1 s0 s1 z0=>
  let a0:=decide ((↑(length s1):Int) > 0)
  Tr.chk (bif a0 then zJ 0 (length s1) else true)
  (Tr.br (bif a0 then (↑(getD s1 (toNat 0) 0).toNat:Int)==48 else false) (Tr.chk (decide (0≤1)&&decide (1≤(↑(length s1):Int))&&decide ((↑(length s1):Int)≤(↑(length s1):Int))) (Tr.to (vS.h1 s0 (List.take ((↑(length s1):Int).toNat - toNat 1) (List.drop (toNat 1) s1)) z0)))
  (Tr.br (s1==[]) (Tr.re (AV.tup [AV.agg [AV.int .i64 1,AV.int .i64 0,AV.str []],AV.kb true]) []) (Tr.chk (decide (length s0+length s1≤1099511627776)) (Tr.chk (BG (s0++s1)) (Tr.re (AV.tup [AV.agg [AV.int .i64 (om (s0++s1)).1.1,AV.int .i64 (om (s0++s1)).1.2.1,AV.str (om (s0++s1)).1.2.2],AV.bool (om (s0++s1)).2]) [])))))
def Dw (x0:Sem Sh.str) (x1:Sem Sh.str):=ap [zf,Sh.bool] zaX 100000000 (YQ x0 x1)
def Ke (x0:Sem Sh.str) (x1:Sem Sh.str):=(Dw x0 x1).isSome
def PI (x0:Sem Sh.str) (x1:Sem Sh.str):=o2 (Dw x0 x1)
def On:=FT [Sh.str,Sh.str] [zf,Sh.bool] fun x=>Dw x.1 x.2.1
theorem LQ:FK 291 On:=wL.T1 (f:=Tryz.f291) (keep:=SY) (e:=XR)

def O7:=O6.add 291 On
theorem wM:zm O7:=wL.add LQ
end

noncomputable def YO (x0:Sem zo.sl) (x1:Sem zg):Tr (Empty ⊕ ag):=
 let a0:=IntKind.i64.wrap (x1+1)
 let a1:=decide (a0 ≥ (↑(length x0):Int))
 let a2:=zJ a0 (length x0)
 let a3:=getD x0 a0.toNat (zj zo)
 let a4:=PI [45] a3.2
 let a5:=getD x0 (toNat x1) (zj zo)
 let a6:=PI [] a5.2
 let a7:=ov x0 x1 [84,82,85,69]
 let a8:=ov x0 x1 [70,65,76,83,69]
 let a9:=om a5.2
 Tr.br (decide (x1 ≥ (↑(length x0):Int)))
 (Tr.re (AV.tup [AV.agg [AV.str [],AV.int .i64 0,AV.int .i64 0,AV.str [],AV.str [],AV.nils],AV.int .i64 (-1)]) [])
 (Tr.chk (zJ x1 (length x0))
  (Tr.chk (iI x0 x1 [45]) (Tr.br (ov x0 x1 [45]) (Tr.chk (bif a1 then true else a2) (Tr.br (bif a1 then true else a3.1 != 2) (Tr.re (AV.tup [AV.agg [AV.str [],AV.int .i64 0,AV.int .i64 0,AV.str [],AV.str [],AV.nils],AV.int .i64 (-1)]) []) (Tr.chk a2 (Tr.chk (Ke [45] a3.2) (Tr.br (!a4.2)
  (Tr.re (AV.tup [AV.agg [AV.str [],AV.int .i64 0,AV.int .i64 0,AV.str [],AV.str [],AV.nils],AV.int .i64 (-1)]) []) (Tr.re (AV.tup [AV.agg [AV.str [108,105,116],AV.int .i64 a4.1.1,AV.int .i64 a4.1.2.1,AV.str a4.1.2.2,AV.str [],AV.nils],AV.int .i64 (IntKind.i64.wrap (x1+2))]) [])))))) (Tr.br (a5.1==2) (Tr.chk (Ke [] a5.2) (Tr.br (!a6.2)
  (Tr.re (AV.tup [AV.agg [AV.str [],AV.int .i64 0,AV.int .i64 0,AV.str [],AV.str [],AV.nils],AV.int .i64 (-1)]) []) (Tr.re (AV.tup [AV.agg [AV.str [108,105,116],AV.int .i64 a6.1.1,AV.int .i64 a6.1.2.1,AV.str a6.1.2.2,AV.str [],AV.nils],AV.int .i64 a0]) []))) (Tr.br (a5.1==3) (Tr.re
  (AV.tup [AV.agg [AV.str [108,105,116],AV.int .i64 2,AV.int .i64 0,AV.str a5.2,AV.str [],AV.nils],AV.int .i64 a0]) []) (Tr.chk (iI x0 x1 [40]) (Tr.br (ov x0 x1 [40]) Tr.err (Tr.chk (iI x0 x1 [84,82,85,69]&&bif a7 then true else iI x0 x1 [70,65,76,83,69]&&bif a8 then true else iI x0 x1 [78,85,76,76])
  (Tr.br (bif a7 then true else bif a8 then true else ov x0 x1 [78,85,76,76]) (Tr.chk (BG a5.2) (Tr.re (AV.tup [AV.agg [AV.str [108,105,116],AV.int .i64 a9.1.1,AV.int .i64 a9.1.2.1,AV.str a9.1.2.2,AV.str [],AV.nils],AV.int .i64 a0]) [])) (Tr.br (a5.1==1) (Tr.re (AV.tup [AV.agg [AV.str [99,111,108],AV.int .i64 0,AV.int .i64 0,AV.str [],AV.str a5.2,AV.nils],
  AV.int .i64 a0]) []) (Tr.re (AV.tup [AV.agg [AV.str [],AV.int .i64 0,AV.int .i64 0,AV.str [],AV.str [],AV.nils],AV.int .i64 (-1)]) [])))))))))))
noncomputable def yG (x0:Sem zo.sl) (x1:Sem zg):=ap [Sh.expr,zg] t0 100000000 (YO x0 x1)
noncomputable def Nd (x0:Sem zo.sl) (x1:Sem zg):=(yG x0 x1).isSome
noncomputable def nq (x0:Sem zo.sl) (x1:Sem zg):=o2 (yG x0 x1)
noncomputable def Ok:=FT [zo.sl,zg] [Sh.expr,zg] fun x=>yG x.1 x.2.1
theorem LN:FK 273 Ok:=wM.T1 (f:=Tryz.f273) (keep:=k0) (e:=e0)

noncomputable def Em:=O7.add 273 Ok
theorem wN:zm Em:=wM.add LN
noncomputable section

def sF (g:Sem zo.sl→Sem zg→Sem zg→Sem Sh.expr×Sem zg) (c:Sem zo.sl→Sem zg→Sem zg→Bool):bb:=Em.add 238 (zA [zo.sl,zg,zg] [Sh.expr,zg] (fun x=>c x.1 x.2.1 x.2.2.1) fun x=>((g x.1 x.2.1 x.2.2.1).1,(g x.1 x.2.1 x.2.2.1).2,()))
theorem CB {g:Sem zo.sl→Sem zg→Sem zg→Sem Sh.expr×Sem zg} {c:Sem zo.sl→Sem zg→Sem zg→Bool} (hg:FK 238 (zA [zo.sl,zg,zg] [Sh.expr,zg] (fun x=>c x.1 x.2.1 x.2.2.1) fun x=>((g x.1 x.2.1 x.2.2.1).1,(g x.1 x.2.1 x.2.2.1).2,()))):zm (sF g c):=wN.add hg
abbrev C8:=kP [(22,[0,2,6,15,16])]
inductive jd where
 | h22 (l0:List (Sem zo)) (i2:Sem zg) (i16:Sem zg) (z1:zr [CP.d Sh.expr]) (ja0:List UInt8) (ja1:Int) (ja2:Int) (ja3:List UInt8) (ja4:List UInt8)
abbrev AQ:jd→Nat×St
 | .h22 l0 i2 i16 z1 ja0 ja1 ja2 ja3 ja4=>(22,⟨tm 157 [(0,AV.sl zo l0),(2,AV.int .i64 i2),(6,AV.ptr 0 0),(15,AV.ptr 1 0),(16,AV.int .i64 i16)],[AO.box [AV.str ja0,AV.int .i64 ja1,AV.int .i64 ja2,AV.str ja3,AV.str ja4,AV.nils],AO.box (bu [] [CP.d Sh.expr] z1)]⟩)
theorem Tk (g:Sem zo.sl→Sem zg→Sem zg→Sem Sh.expr×Sem zg) (c:Sem zo.sl→Sem zg→Sem zg→Bool):zz (sF g c).P 238 Tryz.f238 3:=aG (by kernel_rfl)
def IJ (g:Sem zo.sl→Sem zg→Sem zg→Sem Sh.expr×Sem zg) (c:Sem zo.sl→Sem zg→Sem zg→Bool) (x0:Sem zo.sl) (x1:Sem zg) (x2:Sem zg):Tr (jd ⊕ ag):=
 let a0:=IntKind.i64.wrap (x1+1)
 let a1:=g x0 a0 2
 let a2:=g x0 x1 3
 let a3:=ov x0 a2.2 [61]
 let a4:=IntKind.i64.wrap (a2.2+1)
 let a5:=getD x0 (toNat a2.2) (zj zo)
 let a6:=zC a2.1
 let a7:=g x0 a4 3
 let a8:=IntKind.i64.wrap (x2+1)
 let a9:=g x0 x1 a8
 Tr.br (decide (x1 < 0))
 (Tr.re (AV.tup [AV.agg [AV.str [],AV.int .i64 0,AV.int .i64 0,AV.str [],AV.str [],AV.nils],AV.int .i64 (-1)]) [])
 (Tr.br (x2==4)
  (Tr.chk (Nd x0 x1) (Tr.re (AV.tup [AV.agg [AV.str (ze.op (nq x0 x1).1),AV.int .i64 (ze.v (nq x0 x1).1).1,AV.int .i64 (ze.v (nq x0 x1).1).2.1,AV.str (ze.v (nq x0 x1).1).2.2,AV.str (ze.s (nq x0 x1).1),AV.sl Sh.expr (ze.l (nq x0 x1).1)],AV.int .i64 (nq x0 x1).2]) []))
  (Tr.br (x2==2) (Tr.chk (iI x0 x1 [78,79,84]) (Tr.br (ov x0 x1 [78,79,84]) (Tr.chk (c x0 a0 2) (Tr.re (AV.tup [AV.agg [AV.str [110,111,116],AV.int .i64 0,AV.int .i64 0,AV.str [],AV.str [],AV.sl Sh.expr [zC a1.1]],AV.int .i64 a1.2]) [])) (Tr.chk (c x0 x1 3) (Tr.br (decide (a2.2 < 0))
  (Tr.re (AV.tup [AV.agg [AV.str [],AV.int .i64 0,AV.int .i64 0,AV.str [],AV.str [],AV.nils],AV.int .i64 (-1)]) []) (Tr.chk (iI x0 a2.2 [61]&&bif a3 then true else iI x0 a2.2 [60]) (Tr.br (bif a3 then true else ov x0 a2.2 [60]) (Tr.chk (zJ a2.2 (length x0)) (Tr.chk (c x0 a4 3) (Tr.re (AV.tup
  [AV.agg [AV.str a5.2,AV.int .i64 0,AV.int .i64 0,AV.str [],AV.str [],AV.sl Sh.expr [a6,zC a7.1]],AV.int .i64 a7.2]) []))) (Tr.chk (iI x0 a2.2 [73,83]) (Tr.br (ov x0 a2.2 [73,83]) (Tr.chk (iI x0 a4 [78,85,76,76]) (Tr.br (!ov x0 a4 [78,85,76,76]) (Tr.re (AV.tup [AV.agg [AV.str [],AV.int .i64 0,AV.int .i64 0,AV.str [],AV.str [],AV.nils],AV.int .i64 (-1)]) [])
  (Tr.re (AV.tup [AV.agg [AV.str [110,117,108,108],AV.int .i64 0,AV.int .i64 0,AV.str [],AV.str [],AV.sl Sh.expr [a6]],AV.int .i64 (IntKind.i64.wrap (a2.2+2))]) []))) (Tr.re (AV.tup [AV.agg [AV.str (ze.op a2.1),AV.int .i64 (ze.v a2.1).1,AV.int .i64 (ze.v a2.1).2.1,AV.str (ze.v a2.1).2.2,AV.str (ze.s a2.1),AV.sl Sh.expr (ze.l a2.1)],AV.int .i64 a2.2])
  []))))))))) (Tr.chk (c x0 x1 a8) (Tr.to (jd.h22 x0 x2 a9.2 (a9.1,()) [] 0 0 [] [])))))
theorem Si (g:Sem zo.sl→Sem zg→Sem zg→Sem Sh.expr×Sem zg) (c:Sem zo.sl→Sem zg→Sem zg→Bool) (x0:Sem zo.sl) (x1:Sem zg) (x2:Sem zg):rn (sF g c) 0 C8 Tryz.f238 [zy zo.sl x0,zy zg x1,zy zg x2] []=(IJ g c x0 x1 x2).map (lf Tryz.f238 AQ):=by kernel_rfl
def KK (g:Sem zo.sl→Sem zg→Sem zg→Sem Sh.expr×Sem zg) (c:Sem zo.sl→Sem zg→Sem zg→Bool):jd→Tr (jd ⊕ ag)
 | .h22 l0 i2 i16 z1 ja0 ja1 ja2 ja3 ja4=>
  let a0:=bif i2==1 then iI l0 i16 [65,78,68] else true
  let a1:=bif i2==1 then ov l0 i16 [65,78,68] else false
  let a2:=ov l0 i16 [43]
  let a3:=bif i2==3 then iI l0 i16 [43]&&bif a2 then true else iI l0 i16 [45] else true
  let a4:=bif i2==3 then bif a2 then true else ov l0 i16 [45] else false
  let a5:=l0.getD (toNat i16) (zj zo)
  let a6:=IntKind.i64.wrap (i16+1)
  let a7:=IntKind.i64.wrap (i2+1)
  let a8:=c l0 a6 a7
  let a9:=g l0 a6 a7
  let a10:=[zC z1.1,zC a9.1]
  Tr.br (decide (i16 ≥ 0))
  (Tr.chk (bif i2==0 then iI l0 i16 [79,82] else true) (Tr.br (bif i2==0 then ov l0 i16 [79,82] else false) (Tr.chk a0 (Tr.br a1 (Tr.chk a3 (Tr.br a4 (Tr.chk (zJ i16 l0.length) (Tr.br (a5.2==[]) (Tr.re (AV.tup [AV.agg [AV.str (ze.op z1.1),AV.int .i64 (ze.v z1.1).1,AV.int .i64 (ze.v z1.1).2.1,
  AV.str (ze.v z1.1).2.2,AV.str (ze.s z1.1),AV.sl Sh.expr (ze.l z1.1)],AV.int .i64 i16]) []) (Tr.chk a8 (Tr.to (jd.h22 l0 i2 a9.2 (ze.mk a5.2 (0,0,[]) [] a10,()) ja0 ja1 ja2 ja3 ja4))))) (Tr.br false (Tr.re (AV.tup [AV.agg [AV.str (ze.op z1.1),AV.int .i64 (ze.v z1.1).1,AV.int .i64 (ze.v z1.1).2.1,
  AV.str (ze.v z1.1).2.2,AV.str (ze.s z1.1),AV.sl Sh.expr (ze.l z1.1)],AV.int .i64 i16]) []) (Tr.chk a8 (Tr.to (jd.h22 l0 i2 a9.2 (ze.mk [97,110,100] (0,0,[]) [] a10,()) ja0 ja1 ja2 ja3 ja4)))))) (Tr.chk a3 (Tr.br a4 (Tr.chk (zJ i16 l0.length) (Tr.br (a5.2==[]) (Tr.re (AV.tup [AV.agg
  [AV.str (ze.op z1.1),AV.int .i64 (ze.v z1.1).1,AV.int .i64 (ze.v z1.1).2.1,AV.str (ze.v z1.1).2.2,AV.str (ze.s z1.1),AV.sl Sh.expr (ze.l z1.1)],AV.int .i64 i16]) []) (Tr.chk a8 (Tr.to (jd.h22 l0 i2 a9.2 (ze.mk a5.2 (0,0,[]) [] a10,()) ja0 ja1 ja2 ja3 ja4))))) (Tr.br false (Tr.re (AV.tup [AV.agg
  [AV.str (ze.op z1.1),AV.int .i64 (ze.v z1.1).1,AV.int .i64 (ze.v z1.1).2.1,AV.str (ze.v z1.1).2.2,AV.str (ze.s z1.1),AV.sl Sh.expr (ze.l z1.1)],AV.int .i64 i16]) []) (Tr.chk a8 (Tr.to (jd.h22 l0 i2 a9.2 (ze.mk [111,114] (0,0,[]) [] a10,()) ja0 ja1 ja2 ja3 ja4)))))))) (Tr.chk a0 (Tr.br a1 (Tr.chk a3 (Tr.br a4 (Tr.chk (zJ i16 l0.length)
  (Tr.br (a5.2==[]) (Tr.re (AV.tup [AV.agg [AV.str (ze.op z1.1),AV.int .i64 (ze.v z1.1).1,AV.int .i64 (ze.v z1.1).2.1,AV.str (ze.v z1.1).2.2,AV.str (ze.s z1.1),AV.sl Sh.expr (ze.l z1.1)],AV.int .i64 i16]) []) (Tr.chk a8 (Tr.to (jd.h22 l0 i2 a9.2 (ze.mk a5.2 (0,0,[]) [] a10,()) ja0 ja1 ja2 ja3 ja4))))) (Tr.br false (Tr.re (AV.tup [AV.agg
  [AV.str (ze.op z1.1),AV.int .i64 (ze.v z1.1).1,AV.int .i64 (ze.v z1.1).2.1,AV.str (ze.v z1.1).2.2,AV.str (ze.s z1.1),AV.sl Sh.expr (ze.l z1.1)],AV.int .i64 i16]) []) (Tr.chk a8 (Tr.to (jd.h22 l0 i2 a9.2 (ze.mk [97,110,100] (0,0,[]) [] a10,()) ja0 ja1 ja2 ja3 ja4)))))) (Tr.chk a3 (Tr.br a4 (Tr.chk (zJ i16 l0.length) (Tr.br (a5.2==[]) (Tr.re
  (AV.tup [AV.agg [AV.str (ze.op z1.1),AV.int .i64 (ze.v z1.1).1,AV.int .i64 (ze.v z1.1).2.1,AV.str (ze.v z1.1).2.2,AV.str (ze.s z1.1),AV.sl Sh.expr (ze.l z1.1)],AV.int .i64 i16]) []) (Tr.chk a8 (Tr.to (jd.h22 l0 i2 a9.2 (ze.mk a5.2 (0,0,[]) [] a10,()) ja0 ja1 ja2 ja3 ja4))))) (Tr.br true (Tr.re (AV.tup [AV.agg
  [AV.str (ze.op z1.1),AV.int .i64 (ze.v z1.1).1,AV.int .i64 (ze.v z1.1).2.1,AV.str (ze.v z1.1).2.2,AV.str (ze.s z1.1),AV.sl Sh.expr (ze.l z1.1)],AV.int .i64 i16]) []) (Tr.chk a8 (Tr.to (jd.h22 l0 i2 a9.2 (ze.mk [] (0,0,[]) [] a10,()) ja0 ja1 ja2 ja3 ja4))))))))))
  (Tr.re (AV.tup [AV.agg [AV.str (ze.op z1.1),AV.int .i64 (ze.v z1.1).1,AV.int .i64 (ze.v z1.1).2.1,AV.str (ze.v z1.1).2.2,AV.str (ze.s z1.1),AV.sl Sh.expr (ze.l z1.1)],AV.int .i64 i16]) [])
theorem Tv (g:Sem zo.sl→Sem zg→Sem zg→Sem Sh.expr×Sem zg) (c:Sem zo.sl→Sem zg→Sem zg→Bool):∀ s,run (sF g c) 0 C8 (Func.results Tryz.f238).toList 400 (zw Tryz.f238 (AQ s).1) (AQ s).2=(KK g c s).map (lf Tryz.f238 AQ):=by intro s; cases s <;> kernel_rfl
def ig (o:Option (zu (List.map some [Sh.expr,zg]))):Sem Sh.expr×Sem zg:=(fun r:zu (List.map some [Sh.expr,zg])=>(r.1,r.2.1)) (o.getD (bK [Sh.expr,zg]))
def Kf (g:Sem zo.sl→Sem zg→Sem zg→Sem Sh.expr×Sem zg) (c:Sem zo.sl→Sem zg→Sem zg→Bool) (x0:Sem zo.sl) (x1:Sem zg) (x2:Sem zg):Option (zu (List.map some [Sh.expr,zg])):=ap [Sh.expr,zg] (KK g c) 100000000 (IJ g c x0 x1 x2)
def di:Nat→Sem zo.sl→Sem zg→Sem zg→Option (zu (List.map some [Sh.expr,zg]))
 | 0=>fun _ _ _=>none
 | n+1=>Kf (fun x0 x1 x2=>ig (di n x0 x1 x2)) fun x0 x1 x2=>(di n x0 x1 x2).isSome
theorem IW:zz Em.P 238 Tryz.f238 3:=aG (by kernel_rfl)
theorem An:∀ n,FK 238 (zA [zo.sl,zg,zg] [Sh.expr,zg] (fun x=>(di n x.1 x.2.1 x.2.2.1).isSome) fun x=>((ig (di n x.1 x.2.1 x.2.2.1)).1,(ig (di n x.1 x.2.1 x.2.2.1)).2,()))
 | 0=>cQ ⟨Tryz.f238,IW.1,IW.2.1,IW.2.2.1⟩ (fun _=>rfl)
 | n+1=>hJ (E:=sF (fun x0 x1 x2=>ig (di n x0 x1 x2)) (fun x0 x1 x2=>(di n x0 x1 x2).isSome)) (ks:=[zo.sl,zg,zg]) (outs:=[Sh.expr,zg]) (keep:=C8) (gas:=400) (n:=100000000) (e:=AQ) (t:=KK (fun x0 x1 x2=>ig (di n x0 x1 x2)) (fun x0 x1 x2=>(di n x0 x1 x2).isSome)) (i:=fun x=>IJ (fun x0 x1 x2=>ig (di n x0 x1 x2)) (fun x0 x1 x2=>(di n x0 x1 x2).isSome) x.1 x.2.1 x.2.2.1) (CB (An n)) (Tk _ _) (fun x=>Si _ _ x.1 x.2.1 x.2.2.1) (Tv _ _) (fun _=>by kernel_rfl) (fun _=>by kernel_rfl)
def BM (x0:Sem zo.sl) (x1:Sem zg) (x2:Sem zg):Option (zu (List.map some [Sh.expr,zg])):=di 16 x0 x1 x2
def BL (x0:Sem zo.sl) (x1:Sem zg) (x2:Sem zg):Bool:=(BM x0 x1 x2).isSome
def yH (x0:Sem zo.sl) (x1:Sem zg) (x2:Sem zg):Sem Sh.expr×Sem zg:=ig (BM x0 x1 x2)
def Oh:zB:=zA [zo.sl,zg,zg] [Sh.expr,zg] (fun x=>BL x.1 x.2.1 x.2.2.1) fun x=>((yH x.1 x.2.1 x.2.2.1).1,(yH x.1 x.2.1 x.2.2.1).2,())
theorem LK:FK 238 Oh:=An 16

def O8:=Em.add 238 Oh
theorem wO:zm O8:=wN.add LK
end

noncomputable def YL (x0:Sem zo.sl):Tr (Empty ⊕ ag):=
 let a0:=yH x0 0 0
 let a1:=decide (a0.2 < 0)
 let a2:=zC a0.1
 Tr.chk (BL x0 0 0)
 (Tr.chk (bif a1 then true else Dl a2)
  (Tr.br (bif a1 then true else !J3 a2) (Tr.re (AV.tup [AV.agg [AV.str [],AV.int .i64 0,AV.int .i64 0,AV.str [],AV.str [],AV.nils],AV.int .i64 0,AV.kb false]) []) (Tr.re (AV.tup [AV.agg [AV.str (ze.op a0.1),AV.int .i64 (ze.v a0.1).1,AV.int .i64 (ze.v a0.1).2.1,AV.str (ze.v a0.1).2.2,AV.str (ze.s a0.1),AV.sl Sh.expr (ze.l a0.1)],AV.int .i64 a0.2,AV.kb true])
  [])))
noncomputable def up (x0:Sem zo.sl):=ap [Sh.expr,zg,Sh.bool] t0 100000000 (YL x0)
noncomputable def BK (x0:Sem zo.sl):=(up x0).isSome
noncomputable def Fc (x0:Sem zo.sl):=o3 (up x0)
noncomputable def Oa:=FT [zo.sl] [Sh.expr,zg,Sh.bool] fun x=>up x.1
theorem Lz:FK 182 Oa:=wO.T1 (f:=Tryz.f182) (keep:=k0) (e:=e0)

noncomputable def En:=O8.add 182 Oa
theorem wP:zm En:=wO.add Lz
open Go

theorem fQ.cells {C:cd} {w:World} {U:Nat→Prop} {ρ:Nat→Option Value} {hp:Nat→AO} {k:Nat} {cs cs':List AV} (hH:fQ C w U ρ hp) (hk:hp k=.box cs)
  (hr:∀ vals,ce w U ρ cs vals→ce w U ρ cs' vals):fQ C w U ρ (fun j=>if j=k then .box cs' else hp j):=by
 have hown:∀ id b,zN ρ id (if id=k then .box cs' else hp id) b→zN ρ id (hp id) b:=by
  intro id b ho
  by_cases hid:id=k
  ·subst hid
   rw [if_pos rfl] at ho
   rw [hk]
   obtain ⟨_,v,hv,hb⟩:=ho
   exact ⟨rfl,v,hv,hb⟩
  ·rw [if_neg hid] at ho; exact ho
 refine ⟨fun id=>?_,fun id1 id2 b o1 o2=>hH.inj id1 id2 b (hown _ _ o1) (hown _ _ o2),fun id b o=>hH.blk id b (hown _ _ o)⟩
 by_cases hid:id=k
 ·subst hid
  have h0:=hH.ob id
  rw [hk] at h0
  obtain ⟨b,T,vals,h1,h2,h3,h4,h5⟩:=h0
  simp only [if_true]
  exact ⟨b,T,vals,h1,h2,h3,hr _ h4,h5⟩
 ·simp only [if_neg hid]
  exact hH.ob id

def aK (ps qs:List CP) (y:zr ps) (z:zr qs):List AO:=.box (eR 2 ps y)::.box (eR (2+au ps) qs z)::(eS ps y++eS qs z)

theorem kX (ps qs:List CP) (y:zr ps) (z:zr qs):(aK ps qs y z).length=au ps+au qs+2:=by
 simp [aK,bf]

theorem fQ.box2 {C:cd} {w:World} {U:Nat→Prop} {ρ:Nat→Option Value} {cs ds:List AV} {os:List AO} {ps qs:List CP} {y:zr ps} {z:zr qs} (hH:fQ C w U ρ (fun j=>((AO.box cs::AO.box ds::os).getD j .dead))) (hl:os.length=au ps+au qs)
  (hm:bT (gG (.box cs::.box ds::os)) 2 ps cs=some y) (hm2:bT (gG (.box cs::.box ds::os)) (2+au ps) qs ds=some z):fQ C w U ρ (fun j=>(aK ps qs y z).getD j .dead):=by
 have h1:=hH.cells (k:=0) (cs:=cs) (cs':=eR 2 ps y) rfl (fun vals h=>(dE ps 2 cs y vals hm h).1)
 have h2:=h1.cells (k:=1) (cs:=ds) (cs':=eR (2+au ps) qs z) rfl (fun vals h=>(dE qs _ ds z vals hm2 h).1)
 obtain ⟨b0,T0,v0,_,_,_,r0,_⟩:=hH.ob 0
 obtain ⟨b1,T1,v1,_,_,_,r1,_⟩:=hH.ob 1
 have k1:=(dE ps 2 cs y v0.toList hm r0).2
 have k2:=(dE qs _ ds z v1.toList hm2 r1).2
 have e:(fun j=>(aK ps qs y z).getD j .dead)=fun j=>if j=1 then .box (eR (2+au ps) qs z) else if j=0 then .box (eR 2 ps y) else (AO.box cs::AO.box ds::os).getD j .dead:=by
  funext j
  match j with
  | 0=>rfl
  | 1=>rfl
  | j+2=>
   rw [if_neg (by omega),if_neg (by omega)]
   simp only [aK,vY]
   by_cases hj:j < au ps
   ·have hj':j < (eS ps y).length:=by rw [bf]; exact hj
    have:=k1 j _ (zI hj')
    simp only [gG,pZ 2 j,vY] at this
    rw [this,aB,iw hj',zI hj']
    rfl
   ·by_cases hj2:j < au ps+au qs
    ·have hj':j - au ps < (eS qs z).length:=by rw [bf]; omega
     have:=k2 (j - au ps) _ (zI hj')
     rw [show 2+au ps+(j - au ps)=j+2 by omega] at this
     simp only [gG,vY] at this
     rw [this,aB,jg (by rw [bf]; omega),bf,zI hj']
     rfl
    ·rw [aB,aB,cz (by simp [bf]; omega),cz (by omega)]
 rw [e]
 exact h2

def qT (ps qs:List CP) (outs:List Sh) (r:AV) (h:List AO):Option (zu (outs.map some)×zr ps×zr qs):=match h with
 | .box cs::.box ds::os=>if os.length=au ps+au qs then match zY [] outs r,bT (gG (.box cs::.box ds::os)) 2 ps cs,bT (gG (.box cs::.box ds::os)) (2+au ps) qs ds with
   | some a,some y,some z=>some (a,y,z)
   | _,_,_=>none
  else none
 | _=>none

def OM (ps qs:List CP) (ks outs:List Sh) (ps' qs':List CP) (c:zr ps→zr qs→zu (ks.map some)→Bool) (g:zr ps→zr qs→zu (ks.map some)→zu (outs.map some)×zr ps'×zr qs'):cg (none::none::ks.map some):=fun x h=>match x.1,x.2.1,h with
 | .ptr 0 0,.ptr 1 0,.box cs::.box ds::os=>if os.length=au ps+au qs then match bT (gG (.box cs::.box ds::os)) 2 ps cs,bT (gG (.box cs::.box ds::os)) (2+au ps) qs ds with
   | some y,some z=>.chk (c y z x.2.2) (.ok (qA outs (g y z x.2.2).1,aK ps' qs' (g y z x.2.2).2.1 (g y z x.2.2).2.2))
   | _,_=>.err
  else .err
 | _,_,_=>.err

def Ea (ps qs:List CP) (ks outs:List Sh) (ps' qs':List CP) (c:zr ps→zr qs→zu (ks.map some)→Bool) (g:zr ps→zr qs→zu (ks.map some)→zu (outs.map some)×zr ps'×zr qs'):zB:=zP (none::none::ks.map some) (OM ps qs ks outs ps' qs' c g)

theorem Hm {P:Program} {gl:Nat→AV} {E:bb} {k:FuncId} {f:Func} {ps qs:List CP} {ks outs:List Sh} {ps' qs':List CP} {c:zr ps→zr qs→zu (ks.map some)→Bool} {g:zr ps→zr qs→zu (ks.map some)→zu (outs.map some)×zr ps'×zr qs'} (hf:zz E.P k f (ks.length+2))
  (h:∀ y z x,c y z x=true→∀ C:cd,(∀ id,au ps+au qs+2≤id→C.ρ0 id=none)→Reach E C k (ao f) (zU f.ntmps (.ptr 0 0::.ptr 1 0::fv (ks.map some) x) (aK ps qs y z)) (fun r h=>qT ps' qs' outs r h=some (g y z x))) (qp:E.P=P:=by rfl) (qg:E.gl=gl:=by rfl):
  kJ P gl k (Ea ps qs ks outs ps' qs' c g):=by
 subst qp qg
 refine bc (by simpa using hf) fun x h0 res hx C hC=>?_
 obtain ⟨x0,x1,x⟩:=x
 unfold OM at hx
 simp only at hx
 split at hx
 ·rename_i cs ds os
  split at hx
  ·rename_i hos
   split at hx
   ·rename_i y z hy hz
    simp only [Tr.val] at hx
    split at hx
    ·rename_i hc
     simp only [ae] at hx
     subst hx
     have hR:=h y z x hc C (fun id hid=>hC id (by simpa [hos] using hid))
     intro b cs' a w U ρ h1 h2 hcn hW
     have hH:fQ C w U ρ (fun j=>((AO.box cs::AO.box ds::os).getD j .dead)):=hcn.hp
     have hcn':Cn C (zU f.ntmps (.ptr 0 0::.ptr 1 0::fv (ks.map some) x) (aK ps qs y z)) a w U ρ:=
      ⟨hcn.tm,hH.box2 hos hy hz,fun id hid=>hcn.new id (by have hid:(aK ps qs y z).length≤id:=hid; rw [kX] at hid; simpa [zU,hos] using hid),hcn.df,hcn.r0⟩
     obtain ⟨e,w',fr,⟨v,r,h',U',ρ',he,hq,hrv,hH',hnew,hr0,hWd⟩,hcm,hf',hl⟩:=hR b cs' a w U ρ h1 h2 hcn' hW
     unfold qT at hq
     split at hq
     ·rename_i cs2 ds2 os2
      split at hq
      ·rename_i hos2
       split at hq
       ·rename_i a' y' z' ha' hy' hz'
        simp only [ae] at hq
        refine ⟨e,w',fr,⟨v,_,_,U',ρ',he,by rw [← hq],xi ha' hrv,hH'.box2 hos2 hy' hz',fun id hid=>hnew id (by rw [kX] at hid; simpa [hos2] using hid),hr0,hWd⟩,hcm,hf',hl⟩
       ·cases hq
      ·cases hq
     ·cases hq
    ·simp at hx
   ·simp at hx
  ·simp at hx
 ·simp at hx

def BC {σ:Type} (outs:List Sh) (ps' qs':List CP) (t:σ→Tr (σ ⊕ ag)) (n:Nat) (i:Tr (σ ⊕ ag)):Option (zu (outs.map some)×zr ps'×zr qs'):=(cx t n i).bind fun r=>qT ps' qs' outs r.1 r.2

theorem Hl {P:Program} {gl:Nat→AV} {σ:Type} {E:bb} {k:FuncId} {f:Func} {ps qs:List CP} {ks outs:List Sh} {ps' qs':List CP} {keep:Nat→zT} {gas n:Nat} {e:σ→Nat×St} {t:σ→Tr (σ ⊕ ag)} {i:zr ps→zr qs→zu (ks.map some)→Tr (σ ⊕ ag)} {c:zr ps→zr qs→zu (ks.map some)→Bool} {g:zr ps→zr qs→zu (ks.map some)→zu (outs.map some)×zr ps'×zr qs'}
  (hE:zm E) (hf:zz E.P k f (ks.length+2)) (hgo:∀ y z x,run E (au ps+au qs+2) keep f.results.toList gas (ao f) (zU f.ntmps (.ptr 0 0::.ptr 1 0::fv (ks.map some) x) (aK ps qs y z))=(i y z x).map (lf f e))
  (hon:∀ s,run E (au ps+au qs+2) keep f.results.toList gas (zw f (e s).1) (e s).2=(t s).map (lf f e))
  (hc:∀ y z x,c y z x=(BC outs ps' qs' t n (i y z x)).isSome) (hg:∀ y z x,g y z x=(BC outs ps' qs' t n (i y z x)).getD (bK outs,eT ps',eT qs')) (qp:E.P=P:=by rfl) (qg:E.gl=gl:=by rfl):kJ P gl k (Ea ps qs ks outs ps' qs' c g):=by
 subst qp qg
 refine Hm hf fun y z x hcx C hC=>?_
 rw [hc,Option.isSome_iff_exists] at hcx
 obtain ⟨u,hu⟩:=hcx
 rw [hg,hu]
 unfold BC at hu
 rw [dT] at hu
 obtain ⟨r,h1,h2⟩:=hu
 exact js (Q:=fun r h=>qT ps' qs' outs r h=some u) hE hf hC (n+1) _ _ r (by rw [ie hon (hgo y z x)]; exact h1) h2


abbrev I1:=kP []
theorem S8:zz En.P 110 Tryz.f110 1:=aG (by kernel_rfl)
noncomputable def Iz (y:zr zH):Tr (Empty ⊕ ag):=
 let a0:=(y.1,y.2.1,y.2.2.1,())
 let a1:=lD a0 [45]
 let a2:=IntKind.i64.wrap (a1.2.2.1+2)
 let a3:=(↑(length a1.2.1):Int)
 let a4:=decide (0≤a1.2.2.1)
 let a5:=List.drop (toNat a1.2.2.1) a1.2.1
 let a6:=List.take (a2.toNat - toNat a1.2.2.1) a5
 let a7:=Fc a6
 let a8:=IntKind.i64.wrap (a1.2.2.1+1)
 let a9:=List.take (a8.toNat - toNat a1.2.2.1) a5
 let a10:=Fc a9
 Tr.chk (iU a0 [45])
 (Tr.br a1.1
  (Tr.br (decide (a2 > a3)) (Tr.re (AV.agg [AV.int .i64 0,AV.int .i64 0,AV.str []]) [AO.box [AV.sl zo a1.2.1,AV.int .i64 a1.2.2.1,AV.kb false]]) (Tr.chk (a4&&decide (a1.2.2.1≤a2)&&decide (a2≤a3)) (Tr.chk (BK a6) (Tr.br (bif !a7.2.2 then true else bif a7.2.1 != 2 then true else !ze.op a7.1==[108,105,116])
  (Tr.re (AV.agg [AV.int .i64 (ze.v a7.1).1,AV.int .i64 (ze.v a7.1).2.1,AV.str (ze.v a7.1).2.2]) [AO.box [AV.sl zo a1.2.1,AV.int .i64 a2,AV.kb false]]) (Tr.re (AV.agg [AV.int .i64 (ze.v a7.1).1,AV.int .i64 (ze.v a7.1).2.1,AV.str (ze.v a7.1).2.2]) (bE zH (a1.2.1,a2,a1.2.2.2)))))))
  (Tr.br (decide (a8 > a3)) (Tr.re (AV.agg [AV.int .i64 0,AV.int .i64 0,AV.str []]) [AO.box [AV.sl zo a1.2.1,AV.int .i64 a1.2.2.1,AV.kb false]]) (Tr.chk (a4&&decide (a1.2.2.1≤a8)&&decide (a8≤a3)) (Tr.chk (BK a9) (Tr.br (bif !a10.2.2 then true else bif a10.2.1 != 1 then true else !ze.op a10.1==[108,105,116])
  (Tr.re (AV.agg [AV.int .i64 (ze.v a10.1).1,AV.int .i64 (ze.v a10.1).2.1,AV.str (ze.v a10.1).2.2]) [AO.box [AV.sl zo a1.2.1,AV.int .i64 a8,AV.kb false]]) (Tr.re (AV.agg [AV.int .i64 (ze.v a10.1).1,AV.int .i64 (ze.v a10.1).2.1,AV.str (ze.v a10.1).2.2]) (bE zH (a1.2.1,a8,a1.2.2.2))))))))
theorem R2 (y:zr zH):rn En 1 I1 Tryz.f110 [AV.ptr 0 0] (bE zH y)=(Iz y).map (lf Tryz.f110 e0):=by kernel_rfl
noncomputable def Kq (y:zr zH):Option (zu (List.map some [zf])×zr zH):=vG [zf] zH t0 100000000 (Iz y)
noncomputable def DB (y:zr zH):Bool:=(Kq y).isSome
noncomputable def Fi (y:zr zH):(Sem zf)×zr zH:=(fun r:zu (List.map some [zf])×zr zH=>(r.1.1,r.2)) ((Kq y).getD (bK [zf],eT zH))
noncomputable def NE:zB:=vn zH [] [zf] zH (fun y _=>DB y) fun y _=>(((Fi y).1,()),(Fi y).2)
theorem K2:FK 110 NE:=oU (ps:=zH) (ks:=[]) (outs:=[zf]) (keep:=I1) (gas:=400) (n:=100000000) (e:=e0) (t:=t0) (i:=fun y x=>Iz y) wP S8 (fun y x=>R2 y) (G8 _ _ _ _ _) (fun _ _=>by kernel_rfl) (fun _ _=>by kernel_rfl)

noncomputable def Be:=En.add 110 NE
theorem wQ:zm Be:=wP.add K2
noncomputable section
abbrev Mp:List CP:=[.d .str,.d .str,.d .str,.nil,.vec zi,.d .str,.nil,.nil,.d .str,.d zg,.d zg,.d .str,.d .str,.nil,.nil,.nil,.d .str,.d zg,.d zg,.d .str,.d .str,.nil,.d .str]
abbrev mC:List CP:=[.d .str,.d .str,.d .str,.nil,.vec zi,.d .str,.vec .str,.vec bI,.d .str,.d zg,.d zg,.d .str,.d .str,.nil,.nil,.nil,.d .str,.d zg,.d zg,.d .str,.d .str,.nil,.d .str]
abbrev fm:List CP:=[.d .str,.d .str,.d .str,.nil,.vec zi,.d .str,.vec .str,.vec bI,.d .expr,.nil,.nil,.d .str,.d zg,.d zg,.d .str,.d .str,.nil,.d .str]

abbrev C5:Nat→zT:=fun j=>if j=4 then { slots:=[0,1],prom:=[(1,some 4,zi)] } else if j=23 then { slots:=[0,1,5],prom:=[(1,some 6,.str),(1,some 7,bI)] } else if j=500013 then { slots:=[0,1,4,47],cut:=true } else if j=500025 then { slots:=[0,1,5,85],cut:=true } else if j=500029 then { slots:=[0,1,5,107],cut:=true } else if j=500035 then { slots:=[0,1,5,133],cut:=true } else if j=1000000 then { prom:=[(1,some 4,zi),(1,some 6,.str),(1,some 7,bI),(1,some 13,.expr)],sett:=[(1,13)] } else { }
inductive bd where
 | h4 (z0:zr zH) (z1:zr Mp)
 | h500013 (b47:Sem Sh.bool) (z0:zr zH) (z1:zr Mp) (jc0:Sem Sh.str) (jc1:Int)
 | h23 (i5:Int) (z1:zr mC) (ja0:List (Sem zo)) (ja1:Sem zg) (bh_0_2:Sem Sh.bool)
 | h500025 (i5:Int) (b85:Sem Sh.bool) (z0:zr zH) (z1:zr mC)
 | h500025b (i5:Int) (z0:zr zH) (z1:zr mC)
 | h500029 (i5:Int) (b107:Sem Sh.bool) (z0:zr zH) (z1:zr mC)
 | h500029b (i5:Int) (z0:zr zH) (z1:zr mC)
 | h500035 (i5:Int) (b133:Sem Sh.bool) (z0:zr zH) (z1:zr mC)
 | h500035b (i5:Int) (z0:zr zH) (z1:zr mC)
 | h23b (i5:Int) (z1:zr fm) (ja0:List (Sem zo)) (ja1:Sem zg) (bh_0_2:Sem Sh.bool)
 | h23bb (i5:Int) (z1:zr mC) (ja0:List (Sem zo)) (ja1:Sem zg)
 | h500025bb (i5:Int) (b85:Sem Sh.bool) (z0:zr zH) (z1:zr fm)
 | h500025bbb (i5:Int) (z0:zr zH) (z1:zr fm)
 | h500029bb (i5:Int) (b107:Sem Sh.bool) (z0:zr zH) (z1:zr fm)
 | h500029bbb (i5:Int) (z0:zr zH) (z1:zr fm)
 | h500035bb (i5:Int) (b133:Sem Sh.bool) (z0:zr zH) (z1:zr fm)
 | h500035bbb (i5:Int) (z0:zr zH) (z1:zr fm)
 | h23bbb (i5:Int) (z1:zr fm) (ja0:List (Sem zo)) (ja1:Sem zg)
abbrev AL:bd→Nat×St
 | .h4 z0 z1=>(4,⟨tm 147 [(0,AV.ptr 0 0),(1,AV.ptr 1 0)],[AO.box (bu [] zH z0),AO.box (bu [2] Mp z1),AO.vec zi z1.2.2.2.1]⟩)
 | .h500013 b47 z0 z1 jc0 jc1=>(500013,⟨tm 147 [(0,AV.ptr 0 0),(1,AV.ptr 1 0),(4,AV.ptr 2 0),(47,AV.bool b47)],[AO.box (bu [] zH z0),AO.box (bu [3] Mp z1),AO.box [AV.str jc0,AV.int .i64 jc1,AV.kb false],AO.vec zi z1.2.2.2.1]⟩)
 | .h23 i5 z1 ja0 ja1 bh_0_2=>(23,⟨tm 147 [(0,AV.ptr 0 0),(1,AV.ptr 1 0),(5,AV.int .i64 i5)],[AO.box [AV.sl zo ja0,AV.int .i64 ja1,AV.bool bh_0_2],AO.box (bu [2,3,4] mC z1),AO.vec zi z1.2.2.2.1,AO.vec Sh.str z1.2.2.2.2.2.1,AO.vec (Sh.str.pr Sh.str) z1.2.2.2.2.2.2.1]⟩)
 | .h500025 i5 b85 z0 z1=>(500025,⟨tm 147 [(0,AV.ptr 0 0),(1,AV.ptr 1 0),(5,AV.int .i64 i5),(85,AV.bool b85)],[AO.box (bu [] zH z0),AO.box (bu [2,3,4] mC z1),AO.vec zi z1.2.2.2.1,AO.vec Sh.str z1.2.2.2.2.2.1,AO.vec (Sh.str.pr Sh.str) z1.2.2.2.2.2.2.1]⟩)
 | .h500025b i5 z0 z1=>(500025,⟨tm 147 [(0,AV.ptr 0 0),(1,AV.ptr 1 0),(5,AV.int .i64 i5),(85,AV.kb false)],[AO.box (bu [] zH z0),AO.box (bu [2,3,4] mC z1),AO.vec zi z1.2.2.2.1,AO.vec Sh.str z1.2.2.2.2.2.1,AO.vec (Sh.str.pr Sh.str) z1.2.2.2.2.2.2.1]⟩)
 | .h500029 i5 b107 z0 z1=>(500029,⟨tm 147 [(0,AV.ptr 0 0),(1,AV.ptr 1 0),(5,AV.int .i64 i5),(107,AV.bool b107)],[AO.box (bu [] zH z0),AO.box (bu [2,3,4] mC z1),AO.vec zi z1.2.2.2.1,AO.vec Sh.str z1.2.2.2.2.2.1,AO.vec (Sh.str.pr Sh.str) z1.2.2.2.2.2.2.1]⟩)
 | .h500029b i5 z0 z1=>(500029,⟨tm 147 [(0,AV.ptr 0 0),(1,AV.ptr 1 0),(5,AV.int .i64 i5),(107,AV.kb false)],[AO.box (bu [] zH z0),AO.box (bu [2,3,4] mC z1),AO.vec zi z1.2.2.2.1,AO.vec Sh.str z1.2.2.2.2.2.1,AO.vec (Sh.str.pr Sh.str) z1.2.2.2.2.2.2.1]⟩)
 | .h500035 i5 b133 z0 z1=>(500035,⟨tm 147 [(0,AV.ptr 0 0),(1,AV.ptr 1 0),(5,AV.int .i64 i5),(133,AV.bool b133)],[AO.box (bu [] zH z0),AO.box (bu [2,3,4] mC z1),AO.vec zi z1.2.2.2.1,AO.vec Sh.str z1.2.2.2.2.2.1,AO.vec (Sh.str.pr Sh.str) z1.2.2.2.2.2.2.1]⟩)
 | .h500035b i5 z0 z1=>(500035,⟨tm 147 [(0,AV.ptr 0 0),(1,AV.ptr 1 0),(5,AV.int .i64 i5),(133,AV.kb false)],[AO.box (bu [] zH z0),AO.box (bu [2,3,4] mC z1),AO.vec zi z1.2.2.2.1,AO.vec Sh.str z1.2.2.2.2.2.1,AO.vec (Sh.str.pr Sh.str) z1.2.2.2.2.2.2.1]⟩)
 | .h23b i5 z1 ja0 ja1 bh_0_2=>(23,⟨tm 147 [(0,AV.ptr 0 0),(1,AV.ptr 1 0),(5,AV.int .i64 i5)],[AO.box [AV.sl zo ja0,AV.int .i64 ja1,AV.bool bh_0_2],AO.box (bu [2,3,4] fm z1),AO.vec zi z1.2.2.2.1,AO.vec Sh.str z1.2.2.2.2.2.1,AO.vec (Sh.str.pr Sh.str) z1.2.2.2.2.2.2.1]⟩)
 | .h23bb i5 z1 ja0 ja1=>(23,⟨tm 147 [(0,AV.ptr 0 0),(1,AV.ptr 1 0),(5,AV.int .i64 i5)],[AO.box [AV.sl zo ja0,AV.int .i64 ja1,AV.kb false],AO.box (bu [2,3,4] mC z1),AO.vec zi z1.2.2.2.1,AO.vec Sh.str z1.2.2.2.2.2.1,AO.vec (Sh.str.pr Sh.str) z1.2.2.2.2.2.2.1]⟩)
 | .h500025bb i5 b85 z0 z1=>(500025,⟨tm 147 [(0,AV.ptr 0 0),(1,AV.ptr 1 0),(5,AV.int .i64 i5),(85,AV.bool b85)],[AO.box (bu [] zH z0),AO.box (bu [2,3,4] fm z1),AO.vec zi z1.2.2.2.1,AO.vec Sh.str z1.2.2.2.2.2.1,AO.vec (Sh.str.pr Sh.str) z1.2.2.2.2.2.2.1]⟩)
 | .h500025bbb i5 z0 z1=>(500025,⟨tm 147 [(0,AV.ptr 0 0),(1,AV.ptr 1 0),(5,AV.int .i64 i5),(85,AV.kb false)],[AO.box (bu [] zH z0),AO.box (bu [2,3,4] fm z1),AO.vec zi z1.2.2.2.1,AO.vec Sh.str z1.2.2.2.2.2.1,AO.vec (Sh.str.pr Sh.str) z1.2.2.2.2.2.2.1]⟩)
 | .h500029bb i5 b107 z0 z1=>(500029,⟨tm 147 [(0,AV.ptr 0 0),(1,AV.ptr 1 0),(5,AV.int .i64 i5),(107,AV.bool b107)],[AO.box (bu [] zH z0),AO.box (bu [2,3,4] fm z1),AO.vec zi z1.2.2.2.1,AO.vec Sh.str z1.2.2.2.2.2.1,AO.vec (Sh.str.pr Sh.str) z1.2.2.2.2.2.2.1]⟩)
 | .h500029bbb i5 z0 z1=>(500029,⟨tm 147 [(0,AV.ptr 0 0),(1,AV.ptr 1 0),(5,AV.int .i64 i5),(107,AV.kb false)],[AO.box (bu [] zH z0),AO.box (bu [2,3,4] fm z1),AO.vec zi z1.2.2.2.1,AO.vec Sh.str z1.2.2.2.2.2.1,AO.vec (Sh.str.pr Sh.str) z1.2.2.2.2.2.2.1]⟩)
 | .h500035bb i5 b133 z0 z1=>(500035,⟨tm 147 [(0,AV.ptr 0 0),(1,AV.ptr 1 0),(5,AV.int .i64 i5),(133,AV.bool b133)],[AO.box (bu [] zH z0),AO.box (bu [2,3,4] fm z1),AO.vec zi z1.2.2.2.1,AO.vec Sh.str z1.2.2.2.2.2.1,AO.vec (Sh.str.pr Sh.str) z1.2.2.2.2.2.2.1]⟩)
 | .h500035bbb i5 z0 z1=>(500035,⟨tm 147 [(0,AV.ptr 0 0),(1,AV.ptr 1 0),(5,AV.int .i64 i5),(133,AV.kb false)],[AO.box (bu [] zH z0),AO.box (bu [2,3,4] fm z1),AO.vec zi z1.2.2.2.1,AO.vec Sh.str z1.2.2.2.2.2.1,AO.vec (Sh.str.pr Sh.str) z1.2.2.2.2.2.2.1]⟩)
 | .h23bbb i5 z1 ja0 ja1=>(23,⟨tm 147 [(0,AV.ptr 0 0),(1,AV.ptr 1 0),(5,AV.int .i64 i5)],[AO.box [AV.sl zo ja0,AV.int .i64 ja1,AV.kb false],AO.box (bu [2,3,4] fm z1),AO.vec zi z1.2.2.2.1,AO.vec Sh.str z1.2.2.2.2.2.1,AO.vec (Sh.str.pr Sh.str) z1.2.2.2.2.2.2.1]⟩)
theorem S6:zz Be.P 107 Tryz.f107 2:=aG (by kernel_rfl)
def Ix (y:zr zH) (z:zr dN):Tr (bd ⊕ ag):=
 let a0:=(y.1,y.2.1,y.2.2.1,())
 let a1:=zS a0 [84,65,66,76,69]
 let a2:=(a1.1,a1.2.1,a1.2.2.1,())
 let a3:=aD a2
 let a4:=(a3.2.1,a3.2.2.1,a3.2.2.2.1,())
 Tr.chk (zK a0 [84,65,66,76,69])
 (Tr.chk (zW a2) (Tr.chk (zK a4 [40]) (Tr.to (bd.h4 (zS a4 [40]) ([99,114,101,97,116,101],a3.1,z.2.2.1,[],z.2.2.2)))))
theorem R0 (y:zr zH) (z:zr dN):rn Be 2 C5 Tryz.f107 [AV.ptr 0 0,AV.ptr 1 0] (aK zH dN y z)=(Ix y z).map (lf Tryz.f107 AL):=by kernel_rfl
def KG:bd→Tr (bd ⊕ ag)
 | .h4 z0 z1=>
  let a0:=(z0.1,z0.2.1,z0.2.2.1,())
  let a1:=lD a0 [75,69,89]
  let a2:=(a1.2.1,a1.2.2.1,a1.2.2.2.1,())
  let a3:=aD a2
  let a4:=(a3.2.1,a3.2.2.1,a3.2.2.2.1,())
  let a5:=aW a4 [73,78,84]
  let a6:=(a5.2.1,a5.2.2.1,a5.2.2.2.1,())
  let a7:=aW a6 [78,79,84]
  let a8:=aW a6 [84,69,88,84]
  let a9:=(a8.2.1,a8.2.2.1,a8.2.2.2.1,())
  let a10:=aW a9 [78,79,84]
  let a11:=aW a9 [66,79,79,76]
  let a12:=(a11.2.1,a11.2.2.1,a11.2.2.2.1,())
  let a13:=aW a12 [78,79,84]
  let a14:=(a11.2.1,a11.2.2.1,false,())
  let a15:=aW a14 [78,79,84]
  let a16:=zS a2 [75,69,89]
  let a17:=(a16.1,a16.2.1,a16.2.2.1,())
  let a18:=zS a17 [40]
  let a19:=(a18.1,a18.2.1,a18.2.2.1,())
  let a20:=aD a19
  let a21:=(a20.2.1,a20.2.2.1,a20.2.2.2.1,())
  let a22:=([],[],z1.2.2.2.2.2)
  let a23:=zS a21 [41]
  let a24:=zS a0 [75,69,89]
  let a25:=(a24.1,a24.2.1,a24.2.2.1,())
  let a26:=zS a25 [40]
  let a27:=(a26.1,a26.2.1,a26.2.2.1,())
  let a28:=aD a27
  let a29:=(a28.2.1,a28.2.2.1,a28.2.2.2.1,())
  let a30:=zS a29 [41]
  Tr.br z0.2.2.1
  (Tr.chk (iU a0 [75,69,89]) (Tr.br (!a1.1) (Tr.chk (zW a2) (Tr.chk (aF a4 [73,78,84]) (Tr.br a5.1 (Tr.chk (aF a6 [78,79,84]) (Tr.to (bd.h500013 a7.1 a7.2 z1 a3.1 1))) (Tr.chk (aF a6 [84,69,88,84]) (Tr.br a8.1 (Tr.chk (aF a9 [78,79,84]) (Tr.to (bd.h500013 a10.1 a10.2 z1 a3.1 2))) (Tr.chk (aF a9 [66,79,79,76])
  (Tr.br a11.1 (Tr.chk (aF a12 [78,79,84]) (Tr.to (bd.h500013 a13.1 a13.2 z1 a3.1 3))) (Tr.chk (aF a14 [78,79,84]) (Tr.to (bd.h500013 a15.1 a15.2 z1 a3.1 0)))))))))) (Tr.chk (zK a2 [75,69,89]) (Tr.chk (zK a17 [40]) (Tr.chk (zW a19) (Tr.chk (zK a21 [41]) (Tr.to (bd.h23 0 (z1.1,z1.2.1,z1.2.2.1,z1.2.2.2.1,a20.1,a22) a23.1 a23.2.1 a23.2.2.1))))))))
  (Tr.chk (zK a0 [75,69,89]) (Tr.chk (zK a25 [40]) (Tr.chk (zW a27) (Tr.chk (zK a29 [41]) (Tr.to (bd.h23 0 (z1.1,z1.2.1,z1.2.2.1,z1.2.2.2.1,a28.1,a22) a30.1 a30.2.1 a30.2.2.1))))))
 | .h500013 b47 z0 z1 jc0 jc1=>
  let a0:=(z0.1,z0.2.1,z0.2.2.1,())
  let a1:=[(jc0,jc1,true)]
  let a2:=zS a0 [78,85,76,76]
  let a3:=(a2.1,a2.2.1,a2.2.2.1,())
  let a4:=[(jc0,jc1,false)]
  Tr.br b47
  (Tr.chk (zK a0 [78,85,76,76]) (Tr.chk (decide (z1.2.2.2.1.length+a1.length≤1073741824)) (Tr.chk (zK a3 [44]) (Tr.to (bd.h4 (zS a3 [44]) (z1.1,z1.2.1,z1.2.2.1,z1.2.2.2.1++a1,z1.2.2.2.2))))))
  (Tr.chk (decide (z1.2.2.2.1.length+a4.length≤1073741824)) (Tr.chk (zK a0 [44]) (Tr.to (bd.h4 (zS a0 [44]) (z1.1,z1.2.1,z1.2.2.1,z1.2.2.2.1++a4,z1.2.2.2.2)))))
 | .h23 i5 z1 ja0 ja1 bh_0_2=>
  let a0:=(ja0,ja1,bh_0_2,())
  let a1:=aW a0 [44]
  let a2:=(a1.2.1,a1.2.2.1,a1.2.2.2.1,())
  let a3:=aW a2 [85,78,73,81,85,69]
  let a4:=(z1.1,z1.2.1,z1.2.2.1,z1.2.2.2.1,z1.2.2.2.2.1,z1.2.2.2.2.2.1,z1.2.2.2.2.2.2.1,ze.mk z1.2.2.2.2.2.2.2.1 (z1.2.2.2.2.2.2.2.2.1,z1.2.2.2.2.2.2.2.2.2.1,z1.2.2.2.2.2.2.2.2.2.2.1) z1.2.2.2.2.2.2.2.2.2.2.2.1 [],z1.2.2.2.2.2.2.2.2.2.2.2.2)
  Tr.br bh_0_2
  (Tr.chk (aF a0 [44]) (Tr.br a1.1 (Tr.br (i5==0) (Tr.chk (aF a2 [85,78,73,81,85,69]) (Tr.to (bd.h500025 i5 a3.1 a3.2 z1))) (Tr.to (bd.h500025b i5 a1.2 z1))) (Tr.chk (zK a2 [41]) (Tr.re (AV.tup []) (aK zH fm (zS a2 [41]) a4)))))
  (Tr.chk (zK a0 [41]) (Tr.re (AV.tup []) (aK zH fm (zS a0 [41]) a4)))
 | .h500025 i5 b85 z0 z1=>
  let a0:=(z0.1,z0.2.1,z0.2.2.1,())
  let a1:=zS a0 [40]
  let a2:=(a1.1,a1.2.1,a1.2.2.1,())
  let a3:=aD a2
  let a4:=[a3.1]
  let a5:=(a3.2.1,a3.2.2.1,a3.2.2.2.1,())
  let a6:=zS a5 [41]
  let a7:=aW a0 [82,69,70,69,82,69,78,67,69,83]
  Tr.br b85
  (Tr.chk (zK a0 [40]) (Tr.chk (zW a2) (Tr.chk (decide (z1.2.2.2.2.2.1.length+a4.length≤1073741824)) (Tr.chk (zK a5 [41]) (Tr.to (bd.h23 i5 (z1.1,z1.2.1,z1.2.2.1,z1.2.2.2.1,z1.2.2.2.2.1,z1.2.2.2.2.2.1++a4,z1.2.2.2.2.2.2) a6.1 a6.2.1 a6.2.2.1))))))
  (Tr.br (decide (i5≤1)) (Tr.chk (aF a0 [82,69,70,69,82,69,78,67,69,83]) (Tr.to (bd.h500029 i5 a7.1 a7.2 z1))) (Tr.to (bd.h500029b i5 z0 z1)))
 | .h500025b i5 z0 z1=>
  let a0:=(z0.1,z0.2.1,z0.2.2.1,())
  let a1:=aW a0 [82,69,70,69,82,69,78,67,69,83]
  Tr.br (decide (i5≤1)) (Tr.chk (aF a0 [82,69,70,69,82,69,78,67,69,83]) (Tr.to (bd.h500029 i5 a1.1 a1.2 z1)))
  (Tr.to (bd.h500029b i5 z0 z1))
 | .h500029 i5 b107 z0 z1=>
  let a0:=(z0.1,z0.2.1,z0.2.2.1,())
  let a1:=zS a0 [40]
  let a2:=(a1.1,a1.2.1,a1.2.2.1,())
  let a3:=aD a2
  let a4:=(a3.2.1,a3.2.2.1,a3.2.2.2.1,())
  let a5:=zS a4 [41]
  let a6:=(a5.1,a5.2.1,a5.2.2.1,())
  let a7:=aD a6
  let a8:=[(a3.1,a7.1)]
  let a9:=lD a0 [67,72,69,67,75]
  Tr.br b107
  (Tr.chk (zK a0 [40]) (Tr.chk (zW a2) (Tr.chk (zK a4 [41]) (Tr.chk (zW a6) (Tr.chk (decide (z1.2.2.2.2.2.2.1.length+a8.length≤1073741824)) (Tr.to (bd.h23 1 (z1.1,z1.2.1,z1.2.2.1,z1.2.2.2.1,z1.2.2.2.2.1,z1.2.2.2.2.2.1,z1.2.2.2.2.2.2.1++a8,z1.2.2.2.2.2.2.2) a7.2.1 a7.2.2.1 a7.2.2.2.1)))))))
  (Tr.br (decide (i5≤2)) (Tr.chk (iU a0 [67,72,69,67,75]) (Tr.to (bd.h500035 i5 a9.1 a9.2 z1))) (Tr.to (bd.h500035b i5 z0 z1)))
 | .h500029b i5 z0 z1=>
  let a0:=(z0.1,z0.2.1,z0.2.2.1,())
  let a1:=lD a0 [67,72,69,67,75]
  Tr.br (decide (i5≤2)) (Tr.chk (iU a0 [67,72,69,67,75]) (Tr.to (bd.h500035 i5 a1.1 a1.2 z1))) (Tr.to (bd.h500035b i5 z0 z1))
 | .h500035 i5 b133 z0 z1=>
  let a0:=(z0.1,z0.2.1,z0.2.2.1,())
  let a1:=cK a0 [67,72,69,67,75]
  Tr.br b133
  (Tr.chk (bX a0 [67,72,69,67,75]) (Tr.to (bd.h23b 3 (z1.1,z1.2.1,z1.2.2.1,z1.2.2.2.1,z1.2.2.2.2.1,z1.2.2.2.2.2.1,z1.2.2.2.2.2.2.1,a1.1,z1.2.2.2.2.2.2.2.2.2.2.2.2) a1.2.1 a1.2.2.1 a1.2.2.2.1)))
  (Tr.to (bd.h23bb i5 z1 z0.1 z0.2.1))
 | .h500035b i5 z0 z1=>
  Tr.to (bd.h23bb i5 z1 z0.1 z0.2.1)
 | .h23b i5 z1 ja0 ja1 bh_0_2=>
  let a0:=(ja0,ja1,bh_0_2,())
  let a1:=aW a0 [44]
  let a2:=(a1.2.1,a1.2.2.1,a1.2.2.2.1,())
  let a3:=aW a2 [85,78,73,81,85,69]
  Tr.br bh_0_2
  (Tr.chk (aF a0 [44]) (Tr.br a1.1 (Tr.br (i5==0) (Tr.chk (aF a2 [85,78,73,81,85,69]) (Tr.to (bd.h500025bb i5 a3.1 a3.2 z1))) (Tr.to (bd.h500025bbb i5 a1.2 z1))) (Tr.chk (zK a2 [41]) (Tr.re (AV.tup []) (aK zH fm (zS a2 [41]) z1)))))
  (Tr.chk (zK a0 [41]) (Tr.re (AV.tup []) (aK zH fm (zS a0 [41]) z1)))
 | .h23bb _ z1 ja0 ja1=>
  let a0:=(ja0,ja1,false,())
  Tr.chk (zK a0 [41])
  (Tr.re (AV.tup []) (aK zH fm (zS a0 [41]) (z1.1,z1.2.1,z1.2.2.1,z1.2.2.2.1,z1.2.2.2.2.1,z1.2.2.2.2.2.1,z1.2.2.2.2.2.2.1,ze.mk z1.2.2.2.2.2.2.2.1 (z1.2.2.2.2.2.2.2.2.1,z1.2.2.2.2.2.2.2.2.2.1,z1.2.2.2.2.2.2.2.2.2.2.1) z1.2.2.2.2.2.2.2.2.2.2.2.1 [],z1.2.2.2.2.2.2.2.2.2.2.2.2)))
 | .h500025bb i5 b85 z0 z1=>
  let a0:=(z0.1,z0.2.1,z0.2.2.1,())
  let a1:=zS a0 [40]
  let a2:=(a1.1,a1.2.1,a1.2.2.1,())
  let a3:=aD a2
  let a4:=[a3.1]
  let a5:=(a3.2.1,a3.2.2.1,a3.2.2.2.1,())
  let a6:=zS a5 [41]
  let a7:=aW a0 [82,69,70,69,82,69,78,67,69,83]
  Tr.br b85
  (Tr.chk (zK a0 [40]) (Tr.chk (zW a2) (Tr.chk (decide (z1.2.2.2.2.2.1.length+a4.length≤1073741824)) (Tr.chk (zK a5 [41]) (Tr.to (bd.h23b i5 (z1.1,z1.2.1,z1.2.2.1,z1.2.2.2.1,z1.2.2.2.2.1,z1.2.2.2.2.2.1++a4,z1.2.2.2.2.2.2) a6.1 a6.2.1 a6.2.2.1))))))
  (Tr.br (decide (i5≤1)) (Tr.chk (aF a0 [82,69,70,69,82,69,78,67,69,83]) (Tr.to (bd.h500029bb i5 a7.1 a7.2 z1))) (Tr.to (bd.h500029bbb i5 z0 z1)))
 | .h500025bbb i5 z0 z1=>
  let a0:=(z0.1,z0.2.1,z0.2.2.1,())
  let a1:=aW a0 [82,69,70,69,82,69,78,67,69,83]
  Tr.br (decide (i5≤1)) (Tr.chk (aF a0 [82,69,70,69,82,69,78,67,69,83]) (Tr.to (bd.h500029bb i5 a1.1 a1.2 z1)))
  (Tr.to (bd.h500029bbb i5 z0 z1))
 | .h500029bb i5 b107 z0 z1=>
  let a0:=(z0.1,z0.2.1,z0.2.2.1,())
  let a1:=zS a0 [40]
  let a2:=(a1.1,a1.2.1,a1.2.2.1,())
  let a3:=aD a2
  let a4:=(a3.2.1,a3.2.2.1,a3.2.2.2.1,())
  let a5:=zS a4 [41]
  let a6:=(a5.1,a5.2.1,a5.2.2.1,())
  let a7:=aD a6
  let a8:=[(a3.1,a7.1)]
  let a9:=lD a0 [67,72,69,67,75]
  Tr.br b107
  (Tr.chk (zK a0 [40]) (Tr.chk (zW a2) (Tr.chk (zK a4 [41]) (Tr.chk (zW a6) (Tr.chk (decide (z1.2.2.2.2.2.2.1.length+a8.length≤1073741824)) (Tr.to (bd.h23b 1 (z1.1,z1.2.1,z1.2.2.1,z1.2.2.2.1,z1.2.2.2.2.1,z1.2.2.2.2.2.1,z1.2.2.2.2.2.2.1++a8,z1.2.2.2.2.2.2.2) a7.2.1 a7.2.2.1 a7.2.2.2.1)))))))
  (Tr.br (decide (i5≤2)) (Tr.chk (iU a0 [67,72,69,67,75]) (Tr.to (bd.h500035bb i5 a9.1 a9.2 z1))) (Tr.to (bd.h500035bbb i5 z0 z1)))
 | .h500029bbb i5 z0 z1=>
  let a0:=(z0.1,z0.2.1,z0.2.2.1,())
  let a1:=lD a0 [67,72,69,67,75]
  Tr.br (decide (i5≤2)) (Tr.chk (iU a0 [67,72,69,67,75]) (Tr.to (bd.h500035bb i5 a1.1 a1.2 z1))) (Tr.to (bd.h500035bbb i5 z0 z1))
 | .h500035bb i5 b133 z0 z1=>
  let a0:=(z0.1,z0.2.1,z0.2.2.1,())
  let a1:=cK a0 [67,72,69,67,75]
  Tr.br b133
  (Tr.chk (bX a0 [67,72,69,67,75]) (Tr.to (bd.h23b 3 (z1.1,z1.2.1,z1.2.2.1,z1.2.2.2.1,z1.2.2.2.2.1,z1.2.2.2.2.2.1,z1.2.2.2.2.2.2.1,a1.1,z1.2.2.2.2.2.2.2.2) a1.2.1 a1.2.2.1 a1.2.2.2.1)))
  (Tr.to (bd.h23bbb i5 z1 z0.1 z0.2.1))
 | .h500035bbb i5 z0 z1=>
  Tr.to (bd.h23bbb i5 z1 z0.1 z0.2.1)
 | .h23bbb _ z1 ja0 ja1=>
  let a0:=(ja0,ja1,false,())
  Tr.chk (zK a0 [41]) (Tr.re (AV.tup []) (aK zH fm (zS a0 [41]) z1))
theorem Tq:∀ s,run Be 2 C5 (Func.results Tryz.f107).toList 400 (zw Tryz.f107 (AL s).1) (AL s).2=(KG s).map (lf Tryz.f107 AL):=by intro s; cases s <;> kernel_rfl
def xg (y:zr zH) (z:zr dN):Option (zu (List.map some [])×zr zH×zr fm):=BC [] zH fm KG 100000000 (Ix y z)
def xf (y:zr zH) (z:zr dN):Bool:=(xg y z).isSome
def BP (y:zr zH) (z:zr dN):zr zH×zr fm:=(fun r:zu (List.map some [])×zr zH×zr fm=>r.2) ((xg y z).getD (bK [],eT zH,eT fm))
def NC:zB:=Ea zH dN [] [] zH fm (fun y z _=>xf y z) fun y z _=>((),BP y z)
theorem K0:FK 107 NC:=Hl (ps:=zH) (qs:=dN) (ks:=[]) (outs:=[]) (keep:=C5) (gas:=400) (n:=100000000) (e:=AL) (t:=KG) (i:=fun y z x=>Ix y z) wQ S6 (fun y z x=>R0 y z) Tq (fun _ _ _=>by kernel_rfl) (fun _ _ _=>by kernel_rfl)

def O9:=Be.add 107 NC
theorem Gf:zm O9:=wQ.add K0
end
end Cad
