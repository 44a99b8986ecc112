/- The document's reader: cut; names. The document's writer: creates; columns, sources. The document's writer. The document's statements: texts. -/
import Derived.Test.YtkmcdhahdadkpaaGreatDoorF11
import Derived.Test.YtkmcdhahdadkpaaGreatDoorF08
import Derived.Shelf.GgClosure.StringsIndexFunc
import Derived.Lib.DecodeN
import Derived.Test.YtkmcdhahdadkpaaGreatDoorF10
namespace Cad
open Go Go.Proofs
open List renaming drop→Qh,take→Qg
open AV renaming tup→Qe,agg→Qd,nils→Qb
open Tr renaming chk→Qc,«to»→Q9
open AO renaming box→Qa
open Sh renaming bool→Q7,str→Q6,expr→Q5
open Bool renaming false→Q4,true→Q3
open Decidable renaming decide→Q0
open List (getD length)
open Tr (chk br re)
open AV (nils agg tup ptr kb str sl)
noncomputable section
set_option maxHeartbeats 4000000
abbrev zhc:=mV [(3,[0,4,5]),(11,[0,4,5,6,7,8]),(15,[0,4,5,6,7,8]),(20,[0,4,5,8])]
inductive dZ where
 |h3 (s0:TS) (i5:Int)
 |h11 (s0:TS) (i5:Int) (i6:Int) (i7:Int) (z0:zn [CP.d zr])
 |h15 (s0:TS) (i5:Int) (i6:Int) (i7:Int) (z0:zn [CP.d zr])
 |h20 (s0:TS) (i5:Int) (z0:zn [CP.d zr])
 |h3b (s0:TS) (i5:Int) (lh_0:LF)
 |h11b (s0:TS) (i5:Int) (i6:Int) (i7:Int) (z1:zn [CP.d zr]) (lh_0:LF)
 |h15b (s0:TS) (i5:Int) (i6:Int) (i7:Int) (z1:zn [CP.d zr]) (lh_0:LF)
 |h20b (s0:TS) (i5:Int) (z1:zn [CP.d zr]) (lh_0:LF)
abbrev zjF:dZ->Nat×St
 |.h3 s0 i5=>(3,⟨tm 131 [(0,str s0),(4,Qb),(5,ai i5)],[]⟩)
 |.h11 s0 i5 i6 i7 z0=>(11,⟨tm 131 [(0,str s0),(4,Qb),(5,ai i5),(6,AV.int IntKind.u8 i6),(7,ai i7),(8,ptr 0 0)],[Qa (bx [] [CP.d zr] z0)]⟩)
 |.h15 s0 i5 i6 i7 z0=>(15,⟨tm 131 [(0,str s0),(4,Qb),(5,ai i5),(6,AV.int IntKind.u8 i6),(7,ai i7),(8,ptr 0 0)],[Qa (bx [] [CP.d zr] z0)]⟩)
 |.h20 s0 i5 z0=>(20,⟨tm 131 [(0,str s0),(4,Qb),(5,ai i5),(8,ptr 0 0)],[Qa (bx [] [CP.d zr] z0)]⟩)
 |.h3b s0 i5 lh_0=>(3,⟨tm 131 [(0,str s0),(4,AV.vec 0),(5,ai i5)],[AO.vec zr lh_0]⟩)
 |.h11b s0 i5 i6 i7 z1 lh_0=>(11,⟨tm 131 [(0,str s0),(4,AV.vec 0),(5,ai i5),(6,AV.int IntKind.u8 i6),(7,ai i7),(8,ptr 1 0)],[AO.vec zr lh_0,Qa (bx [] [CP.d zr] z1)]⟩)
 |.h15b s0 i5 i6 i7 z1 lh_0=>(15,⟨tm 131 [(0,str s0),(4,AV.vec 0),(5,ai i5),(6,AV.int IntKind.u8 i6),(7,ai i7),(8,ptr 1 0)],[AO.vec zr lh_0,Qa (bx [] [CP.d zr] z1)]⟩)
 |.h20b s0 i5 z1 lh_0=>(20,⟨tm 131 [(0,str s0),(4,AV.vec 0),(5,ai i5),(8,ptr 1 0)],[AO.vec zr lh_0,Qa (bx [] [CP.d zr] z1)]⟩)
def zkN(x0:TS):Tr (dZ⊕aw):=
 Q9 (dZ.h3 x0 0)
def cH:dZ->Tr (dZ⊕aw)
 | .h3 s0 i5=>
  let a0:=(↑(getD s0 i5.toNat 0).toNat:Int)
  let a1:=IntKind.i64.wrap (i5+1)
  let a2:=Qg (a1.toNat-i5.toNat) (Qh i5.toNat s0)
  let a3:=((4,a2),())
  let a4:=(4,a2)
  let a5:=[a4]
  br (Q0 (i5<(↑(length s0):Int)))
  (Qc (zP i5 (length s0))
   (br (bif a0==32 then Q3 else a0==10) (Q9 (dZ.h3 s0 a1)) (Qc (Q0 (0<=i5)&&Q0 (i5<=a1)&&Q0 (a1<=(↑(length s0):Int))) (Qc (j5 a0) (br (mo a0) (Q9 (dZ.h11 s0 a1 a0 i5 a3)) (Qc (fu a0) (br (gy a0) (Q9 (dZ.h15 s0 a1 a0 i5 a3)) (br (a0==39) (Q9 (dZ.h20 s0 a1 ((3,[]),()))) (Qc (im a4)
   (br (!ls a4) (re (Qe [Qb,kb Q4]) []) (Qc (Q0 (a5.length<=1073741824)) (Q9 (dZ.h3b s0 a1 a5)))))))))))))
  (re (Qe [Qb,AV.bool Q3]) [])
 | .h11 s0 i5 i6 i7 z0=>
  let a0:=Q0 (i5<(↑(length s0):Int))
  let a1:=(↑(getD s0 i5.toNat 0).toNat:Int)
  let a2:=Qg (i5.toNat-i7.toNat) (Qh i7.toNat s0)
  let a3:=(1,a2)
  let a4:=[a3]
  Qc (bif a0 then zP i5 (length s0)&&qr a1 else Q3)
  (br (bif a0 then wo a1 else Q4) (Q9 (dZ.h11 s0 (IntKind.i64.wrap (i5+1)) i6 i7 z0))
   (Qc (Q0 (0<=i7)&&Q0 (i7<=i5)&&Q0 (i5<=(↑(length s0):Int))) (Qc (fu i6) (br (gy i6) (Q9 (dZ.h15 s0 i5 i6 i7 ((1,a2),()))) (br (i6==39) (Q9 (dZ.h20 s0 i5 ((3,[]),()))) (Qc (im a3) (br (!ls a3) (re (Qe [Qb,kb Q4]) []) (Qc (Q0 (a4.length<=1073741824)) (Q9 (dZ.h3b s0 i5 a4))))))))))
 | .h15 s0 i5 i6 i7 z0=>
  let a0:=Q0 (i5<(↑(length s0):Int))
  let a1:=(↑(getD s0 i5.toNat 0).toNat:Int)
  let a2:=(2,Qg (i5.toNat-i7.toNat) (Qh i7.toNat s0))
  let a3:=[a2]
  Qc (bif a0 then zP i5 (length s0)&&fu a1 else Q3)
  (br (bif a0 then gy a1 else Q4) (Q9 (dZ.h15 s0 (IntKind.i64.wrap (i5+1)) i6 i7 z0))
   (Qc (Q0 (0<=i7)&&Q0 (i7<=i5)&&Q0 (i5<=(↑(length s0):Int))) (br (i6==39) (Q9 (dZ.h20 s0 i5 ((3,[]),()))) (Qc (im a2) (br (!ls a2) (re (Qe [Qb,kb Q4]) []) (Qc (Q0 (a3.length<=1073741824)) (Q9 (dZ.h3b s0 i5 a3))))))))
 | .h20 s0 i5 z0=>
  let a0:=Q0 (i5<(↑(length s0):Int))
  let a1:=(↑(getD s0 i5.toNat 0).toNat:Int)
  let a2:=a1 !=39
  let a3:=IntKind.i64.wrap (i5+1)
  let a4:=Q0 (a3<(↑(length s0):Int))
  let a5:=Qg (a3.toNat-i5.toNat) (Qh i5.toNat s0)
  let a6:=((z0.1.1,z0.1.2++a5),())
  Qc (bif a0 then zP i5 (length s0)&&bif a2 then Q3 else bif a4 then zP a3 (length s0)else Q3 else Q3)
  (br (bif a0 then bif a2 then Q3 else bif a4 then(↑(getD s0 a3.toNat 0).toNat:Int)==39 else Q4 else Q4)
   (Qc (Q0 (0<=i5)&&Q0 (i5<=a3)&&Q0 (a3<=(↑(length s0):Int))) (Qc (Q0 (length z0.1.2+a5.length<=1099511627776)) (Qc (zP i5 (length s0)) (br (a1==39) (Q9 (dZ.h20 s0 (IntKind.i64.wrap (a3+1)) a6)) (Q9 (dZ.h20 s0 a3 a6))))))
   (br (Q0 (i5>=(↑(length s0):Int))) (re (Qe [Qb,kb Q4]) []) (Qc (im z0.1) (br (!ls z0.1) (re (Qe [Qb,kb Q4]) []) (Qc (Q0 ([z0.1].length<=1073741824)) (Q9 (dZ.h3b s0 a3 [z0.1])))))))
 | .h3b s0 i5 lh_0=>
  let a0:=(↑(getD s0 i5.toNat 0).toNat:Int)
  let a1:=IntKind.i64.wrap (i5+1)
  let a2:=Qg (a1.toNat-i5.toNat) (Qh i5.toNat s0)
  let a3:=((4,a2),())
  let a4:=(4,a2)
  let a5:=[a4]
  br (Q0 (i5<(↑(length s0):Int)))
  (Qc (zP i5 (length s0))
   (br (bif a0==32 then Q3 else a0==10) (Q9 (dZ.h3b s0 a1 lh_0)) (Qc (Q0 (0<=i5)&&Q0 (i5<=a1)&&Q0 (a1<=(↑(length s0):Int))) (Qc (j5 a0) (br (mo a0) (Q9 (dZ.h11b s0 a1 a0 i5 a3 lh_0)) (Qc (fu a0) (br (gy a0) (Q9 (dZ.h15b s0 a1 a0 i5 a3 lh_0)) (br (a0==39) (Q9 (dZ.h20b s0 a1 ((3,[]),()) lh_0))
   (Qc (im a4) (br (!ls a4) (re (Qe [Qb,kb Q4]) []) (Qc (Q0 (lh_0.length+a5.length<=1073741824)) (Q9 (dZ.h3b s0 a1 (lh_0++a5))))))))))))))
  (re (Qe [AV.vec 0,AV.bool (Q0 ((↑lh_0.length:Int)<=400))]) [AO.vec zr lh_0])
 | .h11b s0 i5 i6 i7 z1 lh_0=>
  let a0:=Q0 (i5<(↑(length s0):Int))
  let a1:=(↑(getD s0 i5.toNat 0).toNat:Int)
  let a2:=Qg (i5.toNat-i7.toNat) (Qh i7.toNat s0)
  let a3:=(1,a2)
  let a4:=[a3]
  Qc (bif a0 then zP i5 (length s0)&&qr a1 else Q3)
  (br (bif a0 then wo a1 else Q4) (Q9 (dZ.h11b s0 (IntKind.i64.wrap (i5+1)) i6 i7 z1 lh_0))
   (Qc (Q0 (0<=i7)&&Q0 (i7<=i5)&&Q0 (i5<=(↑(length s0):Int))) (Qc (fu i6) (br (gy i6) (Q9 (dZ.h15b s0 i5 i6 i7 ((1,a2),()) lh_0)) (br (i6==39) (Q9 (dZ.h20b s0 i5 ((3,[]),()) lh_0)) (Qc (im a3) (br (!ls a3) (re (Qe [Qb,kb Q4]) [])
   (Qc (Q0 (lh_0.length+a4.length<=1073741824)) (Q9 (dZ.h3b s0 i5 (lh_0++a4)))))))))))
 | .h15b s0 i5 i6 i7 z1 lh_0=>
  let a0:=Q0 (i5<(↑(length s0):Int))
  let a1:=(↑(getD s0 i5.toNat 0).toNat:Int)
  let a2:=(2,Qg (i5.toNat-i7.toNat) (Qh i7.toNat s0))
  let a3:=[a2]
  Qc (bif a0 then zP i5 (length s0)&&fu a1 else Q3)
  (br (bif a0 then gy a1 else Q4) (Q9 (dZ.h15b s0 (IntKind.i64.wrap (i5+1)) i6 i7 z1 lh_0))
   (Qc (Q0 (0<=i7)&&Q0 (i7<=i5)&&Q0 (i5<=(↑(length s0):Int))) (br (i6==39) (Q9 (dZ.h20b s0 i5 ((3,[]),()) lh_0)) (Qc (im a2) (br (!ls a2) (re (Qe [Qb,kb Q4]) []) (Qc (Q0 (lh_0.length+a3.length<=1073741824)) (Q9 (dZ.h3b s0 i5 (lh_0++a3)))))))))
 | .h20b s0 i5 z1 lh_0=>
  let a0:=Q0 (i5<(↑(length s0):Int))
  let a1:=(↑(getD s0 i5.toNat 0).toNat:Int)
  let a2:=a1 !=39
  let a3:=IntKind.i64.wrap (i5+1)
  let a4:=Q0 (a3<(↑(length s0):Int))
  let a5:=Qg (a3.toNat-i5.toNat) (Qh i5.toNat s0)
  let a6:=((z1.1.1,z1.1.2++a5),())
  Qc (bif a0 then zP i5 (length s0)&&bif a2 then Q3 else bif a4 then zP a3 (length s0)else Q3 else Q3)
  (br (bif a0 then bif a2 then Q3 else bif a4 then(↑(getD s0 a3.toNat 0).toNat:Int)==39 else Q4 else Q4)
   (Qc (Q0 (0<=i5)&&Q0 (i5<=a3)&&Q0 (a3<=(↑(length s0):Int))) (Qc (Q0 (length z1.1.2+a5.length<=1099511627776)) (Qc (zP i5 (length s0)) (br (a1==39) (Q9 (dZ.h20b s0 (IntKind.i64.wrap (a3+1)) a6 lh_0)) (Q9 (dZ.h20b s0 a3 a6 lh_0))))))
   (br (Q0 (i5>=(↑(length s0):Int))) (re (Qe [Qb,kb Q4]) []) (Qc (im z1.1) (br (!ls z1.1) (re (Qe [Qb,kb Q4]) []) (Qc (Q0 (lh_0.length+[z1.1].length<=1073741824)) (Q9 (dZ.h3b s0 a3 (lh_0++[z1.1]))))))))
def Gw(x0:TS):=al [zr.sl,Q7] cH 100000000 (zkN x0)
def Gv(x0:TS):=(Gw x0).isSome
def xr(x0:TS):=o2 (Gw x0)
def zd2:=FT [Q6] [zr.sl,Q7] λx=>Gw x.1
theorem zan:FK 75 zd2:=pH.T1 (f:=Tryz.f75) (keep:=zhc) (e:=zjF)
def Im(x0:Sem Q5)(x1:TS):Tr (Empty⊕aw):=
 let a0:=x1++[32,67,72,69,67,75,32,40,32]
 let a1:=a0++o9 (zm x0)
 br (ze.op x0==[])
 (Qc (gv (zm x0) (ze.mk [] (0,0,[]) [] [])) (re (Qe [str [],AV.bool (eT (zm x0) (ze.mk [] (0,0,[]) [] []))]) []))
 (Qc (wk (zm x0))
  (br (!EJ (zm x0)) (re (Qe [str [],kb Q4]) []) (br (x1==[87,72,69,82,69]) (Qc (qj (zm x0)) (Qc (Q0 ([32,87,72,69,82,69,32].length+length (o9 (zm x0))<=1099511627776)) (re (Qe [str ([32,87,72,69,82,69,32]++o9 (zm x0)),kb Q3]) [])))
  (Qc (Q0 (length x1+[32,67,72,69,67,75,32,40,32].length<=1099511627776)) (Qc (qj (zm x0)) (Qc (Q0 (length a0+length (o9 (zm x0))<=1099511627776)) (Qc (Q0 (length a1+[32,41].length<=1099511627776)) (re (Qe [str (a1++[32,41]),kb Q3]) []))))))))
def yC(x0:Sem Q5)(x1:TS):=al [Q6,Q7] t0 100000000 (Im x0 x1)
def ui(x0:Sem Q5)(x1:TS):=(yC x0 x1).isSome
def B1(x0:Sem Q5)(x1:TS):=o2 (yC x0 x1)
def W0:=FT [Q5,Q6] [Q6,Q7] λx=>yC x.1 x.2.1
theorem Uh:FK 115 W0:=pH.T1 (f:=Tryz.f115) (keep:=k0) (e:=e0)
abbrev zbK:=mV [(3,[0,4,5])]
inductive yX where
 |h3 (l0:LS) (s4:List UInt8) (i5:Int)
abbrev zfE:yX->Nat×St
 |.h3 l0 s4 i5=>(3,⟨tm 37 [(0,sl Q6 l0),(4,str s4),(5,ai i5)],[]⟩)
def zgh(x0:Sem Sh.str.sl):Tr (yX⊕aw):=
 Q9 (yX.h3 x0 [] 0)
def Cr:yX->Tr (yX⊕aw)
 | .h3 l0 s4 i5=>
  let a0:=l0.getD i5.toNat (zi Q6)
  let a1:=s4++[32,44,32]
  let a2:=IntKind.i64.wrap (i5+1)
  let a3:=Q0 (1<=(↑l0.length:Int))
  br (Q0 (i5<(↑l0.length:Int)))
  (Qc (zP i5 l0.length)
   (Qc (dB a0) (br (!bl a0) (re (Qe [str [],kb Q4]) []) (br (Q0 (i5>0)) (Qc (Q0 (s4.length+[32,44,32].length<=1099511627776)) (Qc (zP i5 l0.length) (Qc (Q0 (length a1+length a0<=1099511627776)) (Q9 (yX.h3 l0 (a1++a0) a2)))))
   (Qc (zP i5 l0.length) (Qc (Q0 (s4.length+length a0<=1099511627776)) (Q9 (yX.h3 l0 (s4++a0) a2))))))))
  (re (Qe [str (bif a3 then s4 else s4),AV.bool (bif a3 then Q0 ((↑l0.length:Int)<=8)else Q4)]) [])
def uj(x0:Sem Sh.str.sl):=al [Q6,Q7] Cr 100000000 (zgh x0)
def B2(x0:Sem Sh.str.sl):=(uj x0).isSome
def GA(x0:Sem Sh.str.sl):=o2 (uj x0)
def W7:=FT [Sh.str.sl] [Q6,Q7] λx=>uj x.1
theorem Ul:FK 119 W7:=pH.T1 (f:=Tryz.f119) (keep:=zbK) (e:=zfE)
def XZ:=XY.addL [(75,zd2),(115,W0),(119,W7)]
theorem lY:zw XZ:=pH.addL<|fc zan<|fc Uh<|fc Ul jj
abbrev zbI:=mV [(4,[1,4,5,6]),(15,[1,4,5,8]),(20,[1,4,5,9])]
inductive oe where
 |h4 (b4:Bool) (s5:zA) (i6:Int) (z0:zn [CP.d zk])
 |h15 (b4:Bool) (s5:zA) (i8:Int) (z0:zn [CP.d zk])
 |h20 (b4:Bool) (s5:zA) (i9:Int) (z0:zn [CP.d zk])
abbrev zfC:oe->Nat×St
 |.h4 b4 s5 i6 z0=>(4,⟨tm 174 [(1,ptr 0 0),(4,AV.bool b4),(5,str s5),(6,ai i6)],[Qa (bx [] [CP.d zk] z0)]⟩)
 |.h15 b4 s5 i8 z0=>(15,⟨tm 174 [(1,ptr 0 0),(4,AV.bool b4),(5,str s5),(8,ai i8)],[Qa (bx [] [CP.d zk] z0)]⟩)
 |.h20 b4 s5 i9 z0=>(20,⟨tm 174 [(1,ptr 0 0),(4,AV.bool b4),(5,str s5),(9,ai i9)],[Qa (bx [] [CP.d zk] z0)]⟩)
def Rg(x0:Sem zk):Tr (oe⊕aw):=
 let a0:=[67,82,69,65,84,69,32,84,65,66,76,69,32]++x0.2.1
 let a1:=(↑(length x0.t.1):Int)
 let a2:=(↑(length x0.t.q.1):Int)
 let a3:=(↑(length x0.t.q.2.1):Int)
 Qc (dB x0.t.2.1)
 (Qc (Q0 ([67,82,69,65,84,69,32,84,65,66,76,69,32].length+length x0.2.1<=1099511627776))
  (Qc (Q0 (length a0+[32,40,32].length<=1099511627776)) (Q9 (oe.h4 (bif bl x0.t.2.1 then bif Q0 (1<=a1)then bif Q0 (a1<=8)then bif Q0 (a2<=8)then Q0 (a3<=8)else Q4 else Q4 else Q4 else Q4) (a0++[32,40,32]) 0 (x0,())))))
def fg:oe->Tr (oe⊕aw)
 | .h4 b4 s5 i6 z0=>
  let a0:=(↑(length z0.1.t.1):Int)
  let a1:=getD z0.1.t.1 i6.toNat (zi zj)
  let a2:=a1.1++[32]
  let a3:=[[],[73,78,84],[84,69,88,84],[66,79,79,76]].getD (Int.toNat a1.2.1) (zi Q6)
  let a4:=a2++a3
  let a5:=s5++a4
  let a6:=a5++[32,78,79,84,32,78,85,76,76]
  let a7:=IntKind.i64.wrap (i6+1)
  let a8:=[75,69,89,32,40,32]++z0.1.t.2.1
  let a9:=a8++[32,41]
  br (Q0 (i6<a0))
  (Qc (zP i6 (length z0.1.t.1))
   (Qc (dB a1.1) (br (bif !bl a1.1 then Q3 else bif Q0 (a1.2.1<1)then Q3 else Q0 (a1.2.1>3)) (re (Qe [str [],kb Q4]) []) (Qc (Q0 (length a1.1+[32].length<=1099511627776)) (Qc (zP a1.2.1 [[],[73,78,84],[84,69,88,84],[66,79,79,76]].length) (Qc (Q0 (length a2+length a3<=1099511627776))
   (Qc (Q0 (length s5+length a4<=1099511627776)) (br a1.2.2 (Qc (Q0 (length a5+[32,78,79,84,32,78,85,76,76].length<=1099511627776)) (Qc (Q0 (length a6+[32,44,32].length<=1099511627776)) (Q9 (oe.h4 b4 (a6++[32,44,32]) a7 z0))))
   (Qc (Q0 (length a5+[32,44,32].length<=1099511627776)) (Q9 (oe.h4 b4 (a5++[32,44,32]) a7 z0)))))))))))
  (Qc (Q0 ([75,69,89,32,40,32].length+length z0.1.t.2.1<=1099511627776))
   (Qc (Q0 (length a8+[32,41].length<=1099511627776)) (Qc (Q0 (length s5+length a9<=1099511627776)) (Q9 (oe.h15 b4 (s5++a9) 0 z0)))))
 | .h15 b4 s5 i8 z0=>
  let a0:=(↑(length z0.1.t.q.1):Int)
  let a1:=zP i8 (length z0.1.t.q.1)
  let a2:=getD z0.1.t.q.1 i8.toNat (zi Q6)
  let a3:=[32,44,32,85,78,73,81,85,69,32,40,32]++a2
  let a4:=a3++[32,41]
  br (Q0 (i8<a0))
  (Qc (bif b4 then a1&&dB a2 else Q3)
   (Qc a1 (Qc (Q0 ([32,44,32,85,78,73,81,85,69,32,40,32].length+length a2<=1099511627776)) (Qc (Q0 (length a3+[32,41].length<=1099511627776)) (Qc (Q0 (length s5+length a4<=1099511627776)) (Q9 (oe.h15 (bif b4 then bl a2 else Q4) (s5++a4) (IntKind.i64.wrap (i8+1)) z0)))))))
  (Q9 (oe.h20 b4 s5 0 z0))
 | .h20 b4 s5 i9 z0=>
  let a0:=(↑(length z0.1.t.q.2.1):Int)
  let a1:=zP i9 (length z0.1.t.q.2.1)
  let a2:=getD z0.1.t.q.2.1 i9.toNat (zi iD)
  let a3:=bl a2.1
  let a4:=[32,44,32,82,69,70,69,82,69,78,67,69,83,32,40,32]++a2.1
  let a5:=a4++[32,41,32]
  let a6:=a5++a2.2
  let a7:=zm z0.1.t.t.1
  let a8:=B1 a7 [32,44]
  let a9:=s5++a8.1
  let a10:=a9++[32,41]
  br (Q0 (i9<a0))
  (Qc (bif b4 then a1&&(dB a2.1&&bif a3 then a1&&dB a2.2 else Q3)else Q3)
   (Qc a1 (Qc (Q0 ([32,44,32,82,69,70,69,82,69,78,67,69,83,32,40,32].length+length a2.1<=1099511627776)) (Qc (Q0 (length a4+[32,41,32].length<=1099511627776)) (Qc a1 (Qc (Q0 (length a5+length a2.2<=1099511627776)) (Qc (Q0 (length s5+length a6<=1099511627776))
   (Q9 (oe.h20 (bif b4 then bif a3 then bl a2.2 else Q4 else Q4) (s5++a6) (IntKind.i64.wrap (i9+1)) z0)))))))))
  (Qc (ui a7 [32,44])
   (Qc (Q0 (length s5+length a8.1<=1099511627776)&&Q0 (length a9+[32,41].length<=1099511627776)) (re (Qe [str (bif b4 then a10 else a10),AV.bool (bif b4 then a8.2 else Q4)]) [])))
def mi(x0:Sem zk):=al [Q6,Q7] fg 100000000 (Rg x0)
def qm(x0:Sem zk):=(mi x0).isSome
def pb(x0:Sem zk):=o2 (mi x0)
def W1:=FT [zk] [Q6,Q7] λx=>mi x.1
theorem Ui:FK 116 W1:=lY.T1 (f:=Tryz.f116) (keep:=zbI) (e:=zfC)
abbrev zgP:=mV [(2,[0,1,5]),(5,[0,1,5,6])]
inductive Hn where
 |h2 (l0:List (Sem zh)) (l1:List (Sem Q6)) (i5:Int)
 |h5 (l0:List (Sem zh)) (l1:List (Sem Q6)) (i5:Int) (i6:Int)
abbrev zjp:Hn->Nat×St
 |.h2 l0 l1 i5=>(2,⟨tm 47 [(0,sl zh l0),(1,sl Q6 l1),(5,ai i5)],[]⟩)
 |.h5 l0 l1 i5 i6=>(5,⟨tm 47 [(0,sl zh l0),(1,sl Q6 l1),(5,ai i5),(6,ai i6)],[]⟩)
def zkJ(x0:Sem zh.sl)(x1:Sem Sh.str.sl):Tr (Hn⊕aw):=
 Q9 (Hn.h2 x0 x1 0)
def pk:Hn->Tr (Hn⊕aw)
 | .h2 l0 l1 i5=>
  br (Q0 (i5<(↑l0.length:Int))) (Q9 (Hn.h5 l0 l1 i5 0)) (re (kb Q4) [])
 | .h5 l0 l1 i5 i6=>
  let a0:=l0.getD i5.toNat (zi zh)
  let a1:=(↑(length a0.1.t.1):Int)
  let a2:=!Ji l1 a0.1.1
  let a3:=getD a0.1.t.1 i6.toNat (zi zr)
  Qc (zP i5 l0.length)
  (br (Q0 (i6<a1))
   (Qc (zP i5 l0.length&&(xu l1 a0.1.1&&bif a2 then zP i5 l0.length&&(zP i6 (length a0.1.t.1)&&xu l1 a3.2)else Q3)) (br (bif a2 then Ji l1 a3.2 else Q4) (re (kb Q3) []) (Q9 (Hn.h5 l0 l1 i5 (IntKind.i64.wrap (i6+1))))))
   (Q9 (Hn.h2 l0 l1 (IntKind.i64.wrap (i5+1)))))
def m4(x0:Sem zh.sl)(x1:Sem Sh.str.sl):=al [Q7] pk 100000000 (zkJ x0 x1)
def su(x0:Sem zh.sl)(x1:Sem Sh.str.sl):=(m4 x0 x1).isSome
def wh(x0:Sem zh.sl)(x1:Sem Sh.str.sl):=o1 (m4 x0 x1)
def zdw:=FT [zh.sl,Sh.str.sl] [Q7] λx=>m4 x.1 x.2.1
theorem ZP:FK 46 zdw:=lY.T1 (f:=Tryz.f46) (keep:=zgP) (e:=zjp)
abbrev zgR:=mV [(3,[0,1,6,7]),(10,[6,9]),(13,[6,9,10])]
inductive og where
 |h3 (l0:List (Sem zj)) (l1:List (Sem Q6)) (i7:Int)
 |h3b (l0:List (Sem zj)) (l1:List (Sem Q6)) (i7:Int) (lh_0:List (Sem zg))
 |h10 (i9:Int)
 |h10b (i9:Int) (lh_0:List (Sem zg))
 |h13 (i9:Int) (i10:Int)
 |h13b (i9:Int) (i10:Int) (lh_0:List (Sem zg))
abbrev zjr:og->Nat×St
 |.h3 l0 l1 i7=>(3,⟨tm 50 [(0,sl zj l0),(1,sl Q6 l1),(6,Qb),(7,ai i7)],[]⟩)
 |.h3b l0 l1 i7 lh_0=>(3,⟨tm 50 [(0,sl zj l0),(1,sl Q6 l1),(6,AV.vec 0),(7,ai i7)],[AO.vec zg lh_0]⟩)
 |.h10 i9=>(10,⟨tm 50 [(6,Qb),(9,ai i9)],[]⟩)
 |.h10b i9 lh_0=>(10,⟨tm 50 [(6,AV.vec 0),(9,ai i9)],[AO.vec zg lh_0]⟩)
 |.h13 i9 i10=>(13,⟨tm 50 [(6,Qb),(9,ai i9),(10,ai i10)],[]⟩)
 |.h13b i9 i10 lh_0=>(13,⟨tm 50 [(6,AV.vec 0),(9,ai i9),(10,ai i10)],[AO.vec zg lh_0]⟩)
def zgo(x0:Sem zj.sl)(x1:Sem Sh.str.sl):Tr (og⊕aw):=
 Q9 (og.h3 x0 x1 0)
def jr:og->Tr (og⊕aw)
 | .h3 l0 l1 i7=>
  let a0:=l1.getD i7.toNat (zi Q6)
  let a1:=eC l0 a0
  let a2:=[a1]
  br (Q0 (i7<(↑l1.length:Int)))
  (Qc (zP i7 l1.length)
   (Qc (dt l0 a0) (br (Q0 (a1<0)) (re (Qe [Qb,ai 4]) []) (Qc (Q0 (a2.length<=1073741824)) (Q9 (og.h3b l0 l1 (IntKind.i64.wrap (i7+1)) a2))))))
  (Q9 (og.h10 0))
 | .h3b l0 l1 i7 lh_0=>
  let a0:=l1.getD i7.toNat (zi Q6)
  let a1:=eC l0 a0
  let a2:=[a1]
  br (Q0 (i7<(↑l1.length:Int)))
  (Qc (zP i7 l1.length)
   (Qc (dt l0 a0) (br (Q0 (a1<0)) (re (Qe [Qb,ai 4]) []) (Qc (Q0 (lh_0.length+a2.length<=1073741824)) (Q9 (og.h3b l0 l1 (IntKind.i64.wrap (i7+1)) (lh_0++a2)))))))
  (Q9 (og.h10b 0 lh_0))
 | .h10 i9=>
  br (Q0 (i9<0)) (Q9 (og.h13 i9 0)) (re (Qe [Qb,ai 0]) [])
 | .h10b i9 lh_0=>
  br (Q0 (i9<(↑lh_0.length:Int))) (Q9 (og.h13b i9 0 lh_0)) (re (Qe [AV.vec 0,ai 0]) [AO.vec zg lh_0])
 | .h13 i9 i10=>
  br (Q0 (i10<i9)) Tr.err (Q9 (og.h10 (IntKind.i64.wrap (i9+1))))
 | .h13b i9 i10 lh_0=>
  br (Q0 (i10<i9))
  (Qc (zP i9 lh_0.length)
   (Qc (Q0 (i9.toNat<lh_0.length)) (Qc (zP i10 lh_0.length) (Qc (Q0 (i10.toNat<lh_0.length)) (br (lh_0.getD i9.toNat (zi zg)==lh_0.getD i10.toNat (zi zg)) (re (Qe [Qb,ai 7]) []) (Q9 (og.h13b i9 (IntKind.i64.wrap (i10+1)) lh_0)))))))
  (Q9 (og.h10b (IntKind.i64.wrap (i9+1)) lh_0))
def mZ(x0:Sem zj.sl)(x1:Sem Sh.str.sl):=al [zg.sl,zg] jr 100000000 (zgo x0 x1)
def mY(x0:Sem zj.sl)(x1:Sem Sh.str.sl):=(mZ x0 x1).isSome
def pX(x0:Sem zj.sl)(x1:Sem Sh.str.sl):=o2 (mZ x0 x1)
def zdy:=FT [zj.sl,Sh.str.sl] [zg.sl,zg] λx=>mZ x.1 x.2.1
theorem ZQ:FK 47 zdy:=lY.T1 (f:=Tryz.f47) (keep:=zgR) (e:=zjr)
def VC(x0:Sem Q5)(x1:Sem zj.sl):Tr (Empty⊕aw):=
 br (ze.op x0==[]) (re (ai 0) [])
 (Qc (wk (zm x0))
  (br (!EJ (zm x0)) (re (ai 1) []) (Qc (nc (zm x0) x1) (br (bif (ij (zm x0) x1).2==0 then bif (ij (zm x0) x1).1!=0 then(ij (zm x0) x1).1!=3 else Q4 else Q4) (re (ai 5) []) (re (ai (ij (zm x0) x1).2) [])))))
def yw(x0:Sem Q5)(x1:Sem zj.sl):=al [zg] t0 100000000 (VC x0 x1)
def qo(x0:Sem Q5)(x1:Sem zj.sl):=(yw x0 x1).isSome
def wm(x0:Sem Q5)(x1:Sem zj.sl):=o1 (yw x0 x1)
def zdA:=FT [Q5,zj.sl] [zg] λx=>yw x.1 x.2.1
theorem ZS:FK 49 zdA:=lY.T1 (f:=Tryz.f49) (keep:=k0) (e:=e0)
def Qu:=XZ.addL [(116,W1),(46,zdw),(47,zdy),(49,zdA)]
theorem AH:zw Qu:=lY.addL<|fc Ui<|fc ZP<|fc ZQ<|fc ZS jj
abbrev zfw:List CP:=[.d .str,.d .str,.d .str,.nil,.nil,.d .str,.nil,.nil,.d .str,.d zg,.d zg,.d .str,.d .str,.nil,.d (.sl zf),.nil,.d .str,.d zg,.d zg,.d .str,.d .str,.nil,.d .str]
abbrev zaU:List CP:=[.d .str,.d .str,.d .str,.nil,.nil,.d .str,.nil,.nil,.d .str,.d zg,.d zg,.d .str,.d .str,.nil,.nil,.d (.sl gS),.d .expr,.d .str]
abbrev zha:=mV [(15,[1,3,5,12,13]),(27,[1,3,5,8,9,14,15])]
inductive yY where
 |h15 (s12:List UInt8) (i13:Int) (z0:zn nZ) (z1:zn iH) (z2:zn zfw)
 |h27 (s8:TS) (b9:Sem Q7) (s14:List UInt8) (i15:Int) (z0:zn nZ) (z1:zn iH) (z2:zn zaU)
abbrev zjD:yY->Nat×St
 |.h15 s12 i13 z0 z1 z2=>(15,⟨tm 430 [(1,ptr 0 0),(3,ptr 1 0),(5,ptr 2 0),(12,str s12),(13,ai i13)],[Qa (bx [] nZ z0),Qa (bx [] iH z1),Qa (bx [] zfw z2)]⟩)
 |.h27 s8 b9 s14 i15 z0 z1 z2=>(27,⟨tm 430 [(1,ptr 0 0),(3,ptr 1 0),(5,ptr 2 0),(8,str s8),(9,AV.bool b9),(14,str s14),(15,ai i15)],[Qa (bx [] nZ z0),Qa (bx [] iH z1),Qa (bx [] zaU z2)]⟩)
def gF(x0:Sem zk):Tr (yY⊕aw):=
 let a0:=zm x0.t.t.1
 let a1:=zm x0.t.t.q.2.1
 let a2:=(x0.1,x0.2.1,x0.2.2.1,x0.2.2.2.1,x0.t.1,x0.t.2.1,x0.t.q.1,x0.t.q.2.1,a0,x0.t.t.2.1,x0.t.t.q.1,a1,x0.t.t.t)
 let a3:=pb a2
 let a4:=B1 a1 [87,72,69,82,69]
 let a5:=[68,69,76,69,84,69,32,70,82,79,77,32]++x0.2.1
 let a6:=[83,69,76,69,67,84,32,42,32,70,82,79,77,32]++x0.2.1
 let a7:=[77,73,71,82,65,84,69,32,67,79,80,89,32]++x0.2.1
 let a8:=a7++[32,70,82,79,77,32]
 let a9:=a8++x0.2.2.1
 let a10:=a9++[32,40,32]
 let a11:=GA x0.2.2.2.1
 let a12:=a10++a11.1
 let a13:=a12++[32,41]
 let a14:=B1 a0 []
 let a15:=dB x0.2.2.1
 let a16:=bl x0.2.2.1
 let a17:=[77,73,71,82,65,84,69,32,74,79,73,78,32]++x0.2.1
 let a18:=a17++[32,70,82,79,77,32]
 let a19:=a18++x0.2.2.1
 let a20:=a19++[32,44,32]
 let a21:=a20++x0.t.t.t
 let a22:=a21++[32,79,78,32]
 let a23:=a22++x0.t.2.1
 let a24:=dB x0.t.t.t
 let a25:=bl x0.t.t.t
 let a26:=[77,73,71,82,65,84,69,32,71,82,79,85,80,32]++x0.2.1
 let a27:=a26++[32,70,82,79,77,32]
 let a28:=a27++x0.2.2.1
 let a29:=zP 0 (length x0.2.2.2.1)
 let a30:=a28++[32,66,89,32]
 let a31:=getD x0.2.2.2.1 (Int.toNat 0) (zi Q6)
 let a32:=a30++a31
 let a33:=zP 1 (length x0.2.2.2.1)
 let a34:=a32++[32,83,85,77,32]
 let a35:=getD x0.2.2.2.1 (Int.toNat 1) (zi Q6)
 let a36:=a34++a35
 let a37:=[71,82,65,78,84,32,82,69,65,68,32,79,78,32]++x0.2.1
 let a38:=a37++[32,84,79,32]
 let a39:=[71,82,65,78,84,32,87,82,73,84,69,32,79,78,32]++x0.2.1
 let a40:=a39++[32,84,79,32]
 let a41:=[82,69,86,79,75,69,32,82,69,65,68,32,79,78,32]++x0.2.1
 let a42:=a41++[32,70,82,79,77,32]
 let a43:=[82,69,86,79,75,69,32,87,82,73,84,69,32,79,78,32]++x0.2.1
 let a44:=a43++[32,70,82,79,77,32]
 Qc (ui a0 [])
 (Qc (ui a1 [87,72,69,82,69])
  (br (x0.1==[99,114,101,97,116,101]) (Qc (qm a2) (re (Qe [str a3.1,Qd [str x0.1,str x0.2.1,str [],Qb,sl zj x0.t.1,str x0.t.2.1,sl Q6 x0.t.q.1,sl (Sh.str.pr Q6) x0.t.q.2.1,str (ze.op x0.t.t.1),ai (ze.v x0.t.t.1).1,
  ai (ze.v x0.t.t.1).2.1,str (ze.v x0.t.t.1).2.2,str (ze.s x0.t.t.1),sl Q5 (ze.l x0.t.t.1),Qb,Qb,str [],ai 0,ai 0,str [],str [],Qb,str []],AV.bool a3.2]) [])) (br (x0.1==[100,114,111,112])
  (Qc (Q0 ([68,82,79,80,32,84,65,66,76,69,32].length+length x0.2.1<=1099511627776)) (re (Qe [str ([68,82,79,80,32,84,65,66,76,69,32]++x0.2.1),Qd [str x0.1,str x0.2.1,str [],Qb,Qb,str [],Qb,Qb,str [],ai 0,
  ai 0,str [],str [],Qb,Qb,Qb,str [],ai 0,ai 0,str [],str [],Qb,str []],kb Q3]) [])) (br (x0.1==[105,110,115,101,114,116]) (Q9 (yY.h15 [] 0 (x0,()) ([],[],[],[],[],0,0,[],[],[],0,0,[],[],[],())
  (x0.1,x0.2.1,[],[],[],0,0,[],[],x0.t.t.2.1,[],0,0,[],[],[],()))) (br (x0.1==[117,112,100,97,116,101]) (Q9 (yY.h27 a4.1 a4.2 [] 0 (x0,()) ([],[],[],[],[],0,0,[],[],[],0,0,[],[],[],()) (x0.1,x0.2.1,[],[],[],0,0,[],[],x0.t.t.q.1,x0.t.t.q.2.1,[],()))) (br (x0.1==[100,101,108,101,116,101])
  (Qc (Q0 ([68,69,76,69,84,69,32,70,82,79,77,32].length+length x0.2.1<=1099511627776)) (Qc (Q0 (length a5+length a4.1<=1099511627776)) (re (Qe [str (a5++a4.1),Qd [str x0.1,str x0.2.1,str [],Qb,Qb,str [],Qb,Qb,str [],ai 0,
  ai 0,str [],str [],Qb,Qb,Qb,str (ze.op x0.t.t.q.2.1),ai (ze.v x0.t.t.q.2.1).1,ai (ze.v x0.t.t.q.2.1).2.1,str (ze.v x0.t.t.q.2.1).2.2,str (ze.s x0.t.t.q.2.1),sl Q5 (ze.l x0.t.t.q.2.1),str []],AV.bool a4.2]) [])))
  (br (x0.1==[115,101,108,101,99,116]) (Qc (Q0 ([83,69,76,69,67,84,32,42,32,70,82,79,77,32].length+length x0.2.1<=1099511627776)) (Qc (Q0 (length a6+length a4.1<=1099511627776)) (re (Qe [str (a6++a4.1),Qd [str x0.1,str x0.2.1,str [],Qb,Qb,str [],Qb,Qb,str [],ai 0,
  ai 0,str [],str [],Qb,Qb,Qb,str (ze.op x0.t.t.q.2.1),ai (ze.v x0.t.t.q.2.1).1,ai (ze.v x0.t.t.q.2.1).2.1,str (ze.v x0.t.t.q.2.1).2.2,str (ze.s x0.t.t.q.2.1),sl Q5 (ze.l x0.t.t.q.2.1),str []],AV.bool a4.2]) [])))
  (br (x0.1==[99,111,112,121]) (Qc (B2 x0.2.2.2.1) (Qc (Q0 ([77,73,71,82,65,84,69,32,67,79,80,89,32].length+length x0.2.1<=1099511627776)) (Qc (Q0 (length a7+[32,70,82,79,77,32].length<=1099511627776)) (Qc (Q0 (length a8+length x0.2.2.1<=1099511627776))
  (Qc (Q0 (length a9+[32,40,32].length<=1099511627776)) (Qc (Q0 (length a10+length a11.1<=1099511627776)) (Qc (Q0 (length a12+[32,41].length<=1099511627776)) (Qc (Q0 (length a13+length a14.1<=1099511627776)) (br a11.2 (br a14.2 (Qc a15 (re (Qe [str (a13++a14.1),Qd
  [str x0.1,str x0.2.1,str x0.2.2.1,sl Q6 x0.2.2.2.1,Qb,str [],Qb,Qb,str (ze.op x0.t.t.1),ai (ze.v x0.t.t.1).1,ai (ze.v x0.t.t.1).2.1,str (ze.v x0.t.t.1).2.2,str (ze.s x0.t.t.1),
  sl Q5 (ze.l x0.t.t.1),Qb,Qb,str [],ai 0,ai 0,str [],str [],Qb,str []],AV.bool a16]) [])) (re (Qe [str (a13++a14.1),Qd [str x0.1,str x0.2.1,str x0.2.2.1,sl Q6 x0.2.2.2.1,Qb,str [],Qb,Qb,str (ze.op x0.t.t.1),
  ai (ze.v x0.t.t.1).1,ai (ze.v x0.t.t.1).2.1,str (ze.v x0.t.t.1).2.2,str (ze.s x0.t.t.1),sl Q5 (ze.l x0.t.t.1),Qb,Qb,str [],ai 0,ai 0,str [],str [],Qb,str []],kb Q4]) [])) (re (Qe [str (a13++a14.1),Qd
  [str x0.1,str x0.2.1,str x0.2.2.1,sl Q6 x0.2.2.2.1,Qb,str [],Qb,Qb,str (ze.op x0.t.t.1),ai (ze.v x0.t.t.1).1,ai (ze.v x0.t.t.1).2.1,str (ze.v x0.t.t.1).2.2,str (ze.s x0.t.t.1),
  sl Q5 (ze.l x0.t.t.1),Qb,Qb,str [],ai 0,ai 0,str [],str [],Qb,str []],kb Q4]) [])))))))))) (br (x0.1==[106,111,105,110]) (Qc (Q0 ([77,73,71,82,65,84,69,32,74,79,73,78,32].length+length x0.2.1<=1099511627776))
  (Qc (Q0 (length a17+[32,70,82,79,77,32].length<=1099511627776)) (Qc (Q0 (length a18+length x0.2.2.1<=1099511627776)) (Qc (Q0 (length a19+[32,44,32].length<=1099511627776)) (Qc (Q0 (length a20+length x0.t.t.t<=1099511627776))
  (Qc (Q0 (length a21+[32,79,78,32].length<=1099511627776)) (Qc (Q0 (length a22+length x0.t.2.1<=1099511627776)) (Qc (Q0 (length a23+length a14.1<=1099511627776)) (br a14.2 (Qc a15 (br a16 (Qc a24 (br a25 (Qc (dB x0.t.2.1) (re (Qe [str (a23++a14.1),Qd
  [str x0.1,str x0.2.1,str x0.2.2.1,Qb,Qb,str x0.t.2.1,Qb,Qb,str (ze.op x0.t.t.1),ai (ze.v x0.t.t.1).1,ai (ze.v x0.t.t.1).2.1,str (ze.v x0.t.t.1).2.2,str (ze.s x0.t.t.1),sl Q5 (ze.l x0.t.t.1),Qb,Qb,str [],
  ai 0,ai 0,str [],str [],Qb,str x0.t.t.t],AV.bool (bl x0.t.2.1)]) [])) (re (Qe [str (a23++a14.1),Qd [str x0.1,str x0.2.1,str x0.2.2.1,Qb,Qb,str x0.t.2.1,Qb,Qb,str (ze.op x0.t.t.1),ai (ze.v x0.t.t.1).1,
  ai (ze.v x0.t.t.1).2.1,str (ze.v x0.t.t.1).2.2,str (ze.s x0.t.t.1),sl Q5 (ze.l x0.t.t.1),Qb,Qb,str [],ai 0,ai 0,str [],str [],Qb,str x0.t.t.t],kb Q4]) []))) (re (Qe [str (a23++a14.1),Qd
  [str x0.1,str x0.2.1,str x0.2.2.1,Qb,Qb,str x0.t.2.1,Qb,Qb,str (ze.op x0.t.t.1),ai (ze.v x0.t.t.1).1,ai (ze.v x0.t.t.1).2.1,str (ze.v x0.t.t.1).2.2,str (ze.s x0.t.t.1),sl Q5 (ze.l x0.t.t.1),Qb,Qb,str [],
  ai 0,ai 0,str [],str [],Qb,str x0.t.t.t],kb Q4]) []))) (re (Qe [str (a23++a14.1),Qd [str x0.1,str x0.2.1,str x0.2.2.1,Qb,Qb,str x0.t.2.1,Qb,Qb,str (ze.op x0.t.t.1),ai (ze.v x0.t.t.1).1,
  ai (ze.v x0.t.t.1).2.1,str (ze.v x0.t.t.1).2.2,str (ze.s x0.t.t.1),sl Q5 (ze.l x0.t.t.1),Qb,Qb,str [],ai 0,ai 0,str [],str [],Qb,str x0.t.t.t],kb Q4]) [])))))))))) (br (x0.1==[103,114,111,117,112])
  (br ((↑(length x0.2.2.2.1):Int)!=2) (re (Qe [str [],Qd [str x0.1,str x0.2.1,str x0.2.2.1,sl Q6 x0.2.2.2.1,Qb,str [],Qb,Qb,str (ze.op x0.t.t.1),ai (ze.v x0.t.t.1).1,ai (ze.v x0.t.t.1).2.1,
  str (ze.v x0.t.t.1).2.2,str (ze.s x0.t.t.1),sl Q5 (ze.l x0.t.t.1),Qb,Qb,str [],ai 0,ai 0,str [],str [],Qb,str []],kb Q4]) []) (Qc (Q0 ([77,73,71,82,65,84,69,32,71,82,79,85,80,32].length+length x0.2.1<=1099511627776))
  (Qc (Q0 (length a26+[32,70,82,79,77,32].length<=1099511627776)) (Qc (Q0 (length a27+length x0.2.2.1<=1099511627776)) (Qc (Q0 (length a28+[32,66,89,32].length<=1099511627776)) (Qc a29 (Qc (Q0 (length a30+length a31<=1099511627776))
  (Qc (Q0 (length a32+[32,83,85,77,32].length<=1099511627776)) (Qc a33 (Qc (Q0 (length a34+length a35<=1099511627776)) (Qc (Q0 (length a36+length a14.1<=1099511627776)) (br a14.2 (Qc a15 (br a16 (Qc a29 (Qc (dB a31) (br (bl a31) (Qc a33 (Qc (dB a35) (re (Qe [str (a36++a14.1),
  Qd [str x0.1,str x0.2.1,str x0.2.2.1,sl Q6 x0.2.2.2.1,Qb,str [],Qb,Qb,str (ze.op x0.t.t.1),ai (ze.v x0.t.t.1).1,ai (ze.v x0.t.t.1).2.1,str (ze.v x0.t.t.1).2.2,str (ze.s x0.t.t.1),sl Q5 (ze.l x0.t.t.1),Qb,Qb,
  str [],ai 0,ai 0,str [],str [],Qb,str []],AV.bool (bl a35)]) []))) (re (Qe [str (a36++a14.1),Qd [str x0.1,str x0.2.1,str x0.2.2.1,sl Q6 x0.2.2.2.1,Qb,str [],Qb,Qb,str (ze.op x0.t.t.1),ai (ze.v x0.t.t.1).1,
  ai (ze.v x0.t.t.1).2.1,str (ze.v x0.t.t.1).2.2,str (ze.s x0.t.t.1),sl Q5 (ze.l x0.t.t.1),Qb,Qb,str [],ai 0,ai 0,str [],str [],Qb,str []],kb Q4]) [])))) (re (Qe [str (a36++a14.1),Qd
  [str x0.1,str x0.2.1,str x0.2.2.1,sl Q6 x0.2.2.2.1,Qb,str [],Qb,Qb,str (ze.op x0.t.t.1),ai (ze.v x0.t.t.1).1,ai (ze.v x0.t.t.1).2.1,str (ze.v x0.t.t.1).2.2,str (ze.s x0.t.t.1),
  sl Q5 (ze.l x0.t.t.1),Qb,Qb,str [],ai 0,ai 0,str [],str [],Qb,str []],kb Q4]) []))) (re (Qe [str (a36++a14.1),Qd [str x0.1,str x0.2.1,str x0.2.2.1,sl Q6 x0.2.2.2.1,Qb,str [],Qb,Qb,str (ze.op x0.t.t.1),
  ai (ze.v x0.t.t.1).1,ai (ze.v x0.t.t.1).2.1,str (ze.v x0.t.t.1).2.2,str (ze.s x0.t.t.1),sl Q5 (ze.l x0.t.t.1),Qb,Qb,str [],ai 0,ai 0,str [],str [],Qb,str []],kb Q4]) []))))))))))))) (br (x0.1==[114,101,97,100])
  (Qc (Q0 ([71,82,65,78,84,32,82,69,65,68,32,79,78,32].length+length x0.2.1<=1099511627776)) (Qc (Q0 (length a37+[32,84,79,32].length<=1099511627776)) (Qc (Q0 (length a38+length x0.t.t.t<=1099511627776)) (Qc a24 (re (Qe [str (a38++x0.t.t.t),Qd
  [str x0.1,str x0.2.1,str [],Qb,Qb,str [],Qb,Qb,str [],ai 0,ai 0,str [],str [],Qb,Qb,Qb,str [],ai 0,ai 0,str [],str [],Qb,str x0.t.t.t],AV.bool a25]) []))))) (br (x0.1==[119,114,105,116,101])
  (Qc (Q0 ([71,82,65,78,84,32,87,82,73,84,69,32,79,78,32].length+length x0.2.1<=1099511627776)) (Qc (Q0 (length a39+[32,84,79,32].length<=1099511627776)) (Qc (Q0 (length a40+length x0.t.t.t<=1099511627776)) (Qc a24 (re (Qe [str (a40++x0.t.t.t),Qd
  [str x0.1,str x0.2.1,str [],Qb,Qb,str [],Qb,Qb,str [],ai 0,ai 0,str [],str [],Qb,Qb,Qb,str [],ai 0,ai 0,str [],str [],Qb,str x0.t.t.t],AV.bool a25]) []))))) (br (x0.1==[117,110,114,101,97,100])
  (Qc (Q0 ([82,69,86,79,75,69,32,82,69,65,68,32,79,78,32].length+length x0.2.1<=1099511627776)) (Qc (Q0 (length a41+[32,70,82,79,77,32].length<=1099511627776)) (Qc (Q0 (length a42+length x0.t.t.t<=1099511627776)) (Qc a24 (re (Qe [str (a42++x0.t.t.t),Qd
  [str x0.1,str x0.2.1,str [],Qb,Qb,str [],Qb,Qb,str [],ai 0,ai 0,str [],str [],Qb,Qb,Qb,str [],ai 0,ai 0,str [],str [],Qb,str x0.t.t.t],AV.bool a25]) []))))) (br (x0.1==[117,110,119,114,105,116,101]) (Qc
  (Q0 ([82,69,86,79,75,69,32,87,82,73,84,69,32,79,78,32].length+length x0.2.1<=1099511627776)) (Qc (Q0 (length a43+[32,70,82,79,77,32].length<=1099511627776)) (Qc (Q0 (length a44+length x0.t.t.t<=1099511627776)) (Qc a24 (re (Qe [str (a44++x0.t.t.t),Qd
  [str x0.1,str x0.2.1,str [],Qb,Qb,str [],Qb,Qb,str [],ai 0,ai 0,str [],str [],Qb,Qb,Qb,str [],ai 0,ai 0,str [],str [],Qb,str x0.t.t.t],AV.bool a25]) []))))) (re (Qe [str [],Qd
  [str x0.1,str x0.2.1,str [],Qb,Qb,str [],Qb,Qb,str [],ai 0,ai 0,str [],str [],Qb,Qb,Qb,str [],ai 0,ai 0,str [],str [],Qb,str []],kb Q4]) [])))))))))))))))
def lK:yY->Tr (yY⊕aw)
 | .h15 s12 i13 z0 z1 z2=>
  let a0:=(↑(length z0.1.t.t.2.1):Int)
  let a1:=zP i13 (length z0.1.t.t.2.1)
  let a2:=getD z0.1.t.t.2.1 i13.toNat (zi zf)
  let a3:=tU a2
  let a4:=s12++[32,44,32]
  let a5:=BG a2
  let a6:=IntKind.i64.wrap (i13+1)
  let a7:=[73,78,83,69,82,84,32,73,78,84,79,32]++z0.1.2.1
  let a8:=a7++[32,86,65,76,85,69,83,32,40,32]
  let a9:=a8++s12
  br (Q0 (i13<a0))
  (Qc a1
   (Qc (lH a2) (br (!rr a2) (re (Qe [str [],Qd [str z2.1,str z2.2.1,str z2.2.2.1,Qb,Qb,str z2.2.2.2.1,Qb,Qb,str z2.t.1,ai z2.t.2.1,ai z2.t.q.1,str z2.t.q.2.1,str z2.t.t.1,Qb,sl zf z2.t.t.2.1,Qb,
   str z2.t.t.q.1,ai z2.t.t.q.2.1,ai z2.t.t.t.1,str z2.t.t.t.2.1,str z2.t.t.t.q.1,Qb,str z2.t.t.t.q.2.1],kb Q4]) []) (br (Q0 (i13>0)) (Qc (Q0 (s12.length+[32,44,32].length<=1099511627776))
   (Qc a1 (Qc a3 (Qc (Q0 (length a4+length a5<=1099511627776)) (Q9 (yY.h15 (a4++a5) a6 z0 z1 z2)))))) (Qc a1 (Qc a3 (Qc (Q0 (s12.length+length a5<=1099511627776)) (Q9 (yY.h15 (s12++a5) a6 z0 z1 z2)))))))))
  (Qc (Q0 ([73,78,83,69,82,84,32,73,78,84,79,32].length+length z0.1.2.1<=1099511627776))
   (Qc (Q0 (length a7+[32,86,65,76,85,69,83,32,40,32].length<=1099511627776)) (Qc (Q0 (length a8+s12.length<=1099511627776)) (Qc (Q0 (length a9+[32,41].length<=1099511627776)) (br (Q0 (1<=a0)) (re (Qe [str (a9++[32,41]),Qd
   [str z2.1,str z2.2.1,str z2.2.2.1,Qb,Qb,str z2.2.2.2.1,Qb,Qb,str z2.t.1,ai z2.t.2.1,ai z2.t.q.1,str z2.t.q.2.1,str z2.t.t.1,Qb,sl zf z2.t.t.2.1,Qb,str z2.t.t.q.1,ai z2.t.t.q.2.1,
   ai z2.t.t.t.1,str z2.t.t.t.2.1,str z2.t.t.t.q.1,Qb,str z2.t.t.t.q.2.1],AV.bool (Q0 (a0<=12))]) []) (re (Qe [str (a9++[32,41]),Qd [str z2.1,str z2.2.1,str z2.2.2.1,Qb,Qb,str z2.2.2.2.1,Qb,Qb,
   str z2.t.1,ai z2.t.2.1,ai z2.t.q.1,str z2.t.q.2.1,str z2.t.t.1,Qb,sl zf z2.t.t.2.1,Qb,str z2.t.t.q.1,ai z2.t.t.q.2.1,ai z2.t.t.t.1,str z2.t.t.t.2.1,str z2.t.t.t.q.1,
   Qb,str z2.t.t.t.q.2.1],kb Q4]) []))))))
 | .h27 s8 b9 s14 i15 z0 z1 z2=>
  let a0:=(↑(length z0.1.t.t.q.1):Int)
  let a1:=zP i15 (length z0.1.t.t.q.1)
  let a2:=getD z0.1.t.t.q.1 i15.toNat (zi gS)
  let a3:=!bl a2.1
  let a4:=zm a2.2
  let a5:=Q0 (length a2.1+[32,61,32].length<=1099511627776)
  let a6:=qj a4
  let a7:=a2.1++[32,61,32]
  let a8:=o9 a4
  let a9:=Q0 (length a7+length a8<=1099511627776)
  let a10:=s14++[32,44,32]
  let a11:=a7++a8
  let a12:=IntKind.i64.wrap (i15+1)
  let a13:=[85,80,68,65,84,69,32]++z0.1.2.1
  let a14:=a13++[32,83,69,84,32]
  let a15:=a14++s14
  br (Q0 (i15<a0))
  (Qc (a1&&(dB a2.1&&bif a3 then Q3 else a1&&wk a4))
   (br (bif a3 then Q3 else !EJ a4) (re (Qe [str [],Qd [str z2.1,str z2.2.1,str z2.2.2.1,Qb,Qb,str z2.2.2.2.1,Qb,Qb,str z2.t.1,ai z2.t.2.1,ai z2.t.q.1,str z2.t.q.2.1,str z2.t.t.1,Qb,Qb,
   sl (Sh.str.pr Q5) z2.t.t.2.1,str (ze.op z2.t.t.q.1),ai (ze.v z2.t.t.q.1).1,ai (ze.v z2.t.t.q.1).2.1,str (ze.v z2.t.t.q.1).2.2,str (ze.s z2.t.t.q.1),sl Q5 (ze.l z2.t.t.q.1),str z2.t.t.q.2.1],kb Q4]) [])
   (br (Q0 (i15>0)) (Qc (Q0 (s14.length+[32,44,32].length<=1099511627776)) (Qc a1 (Qc a5 (Qc a1 (Qc a6 (Qc a9 (Qc (Q0 (length a10+length a11<=1099511627776)) (Q9 (yY.h27 s8 b9 (a10++a11) a12 z0 z1 z2))))))))) (Qc a1 (Qc a5 (Qc a1
   (Qc a6 (Qc a9 (Qc (Q0 (s14.length+length a11<=1099511627776)) (Q9 (yY.h27 s8 b9 (s14++a11) a12 z0 z1 z2)))))))))))
  (Qc (Q0 ([85,80,68,65,84,69,32].length+length z0.1.2.1<=1099511627776))
   (Qc (Q0 (length a13+[32,83,69,84,32].length<=1099511627776)) (Qc (Q0 (length a14+s14.length<=1099511627776)) (Qc (Q0 (length a15+length s8<=1099511627776)) (br b9 (br (Q0 (1<=a0)) (re (Qe [str (a15++s8),Qd [str z2.1,str z2.2.1,str z2.2.2.1,Qb,Qb,str z2.2.2.2.1,Qb,Qb,
   str z2.t.1,ai z2.t.2.1,ai z2.t.q.1,str z2.t.q.2.1,str z2.t.t.1,Qb,Qb,sl (Sh.str.pr Q5) z2.t.t.2.1,str (ze.op z2.t.t.q.1),ai (ze.v z2.t.t.q.1).1,ai (ze.v z2.t.t.q.1).2.1,str (ze.v z2.t.t.q.1).2.2,
   str (ze.s z2.t.t.q.1),sl Q5 (ze.l z2.t.t.q.1),str z2.t.t.q.2.1],AV.bool (Q0 (a0<=8))]) []) (re (Qe [str (a15++s8),Qd [str z2.1,str z2.2.1,str z2.2.2.1,Qb,Qb,str z2.2.2.2.1,Qb,Qb,str z2.t.1,ai z2.t.2.1,ai z2.t.q.1,
   str z2.t.q.2.1,str z2.t.t.1,Qb,Qb,sl (Sh.str.pr Q5) z2.t.t.2.1,str (ze.op z2.t.t.q.1),ai (ze.v z2.t.t.q.1).1,ai (ze.v z2.t.t.q.1).2.1,str (ze.v z2.t.t.q.1).2.2,
   str (ze.s z2.t.t.q.1),sl Q5 (ze.l z2.t.t.q.1),str z2.t.t.q.2.1],kb Q4]) [])) (re (Qe [str (a15++s8),Qd [str z2.1,str z2.2.1,str z2.2.2.1,Qb,Qb,str z2.2.2.2.1,Qb,Qb,str z2.t.1,ai z2.t.2.1,ai z2.t.q.1,
   str z2.t.q.2.1,str z2.t.t.1,Qb,Qb,sl (Sh.str.pr Q5) z2.t.t.2.1,str (ze.op z2.t.t.q.1),ai (ze.v z2.t.t.q.1).1,ai (ze.v z2.t.t.q.1).2.1,str (ze.v z2.t.t.q.1).2.2,str (ze.s z2.t.t.q.1),
   sl Q5 (ze.l z2.t.t.q.1),str z2.t.t.q.2.1],kb Q4]) []))))))
def du(x0:Sem zk):=al [Q6,zk,Q7] lK 100000000 (gF x0)
def uk(x0:Sem zk):=(du x0).isSome
def yD(x0:Sem zk):=o3 (du x0)
def zdZ:=FT [zk] [Q6,zk,Q7] λx=>du x.1
theorem zak:FK 72 zdZ:=AH.T1 (f:=Tryz.f72) (keep:=zha) (e:=zjD)
def X0:=Qu.add 72 zdZ
theorem D4:zw X0:=AH.add zak
def zbt(x0:Sem zk):Tr (Empty⊕aw):=
 let a0:=(x0.1,x0.2.1,x0.2.2.1,x0.2.2.2.1,x0.t.1,x0.t.2.1,x0.t.q.1,x0.t.q.2.1,zm x0.t.t.1,x0.t.t.2.1,x0.t.t.q.1,zm x0.t.t.q.2.1,x0.t.t.t)
 let a1:=yD a0
 let a2:=!a1.2.2
 let a3:=!bl x0.2.1
 let a4:=(a1.2.1.1,a1.2.1.2.1,a1.2.1.2.2.1,a1.2.1.2.2.2.1,a1.2.1.t.1,a1.2.1.t.2.1,a1.2.1.t.q.1,a1.2.1.t.q.2.1,zm a1.2.1.t.t.1,a1.2.1.t.t.2.1,a1.2.1.t.t.q.1,zm a1.2.1.t.t.q.2.1,a1.2.1.t.t.t)
 let a5:=xr a1.1
 Qc (uk a0)
 (Qc (bif a2 then Q3 else dB x0.2.1&&bif a3 then Q3 else yB a4 a0)
  (br (bif a2 then Q3 else bif a3 then Q3 else !eU a4 a0) (re (Qe [str [],kb Q4]) []) (Qc (Gv a1.1) (br (!a5.2) (re (Qe [str [],kb Q4]) []) (re (Qe [str a1.1,kb Q3]) [])))))
def nj(x0:Sem zk):=al [Q6,Q7] t0 100000000 (zbt x0)
def io(x0:Sem zk):=(nj x0).isSome
def kG(x0:Sem zk):=o2 (nj x0)
def zdv:=FT [zk] [Q6,Q7] λx=>nj x.1
theorem ZO:FK 42 zdv:=D4.T1 (f:=Tryz.f42) (keep:=k0) (e:=e0)
def H6:=X0.add 42 zdv
theorem D5:zw H6:=D4.add ZO
abbrev lT:List CP:=[.d .str,.d .str,.d .str,.vec .str,.nil,.d .str,.nil,.nil,.d .expr,.nil,.nil,.d .str,.d zg,.d zg,.d .str,.d .str,.nil,.d .str]
abbrev Ve:List CP:=[.d .str,.d .str,.d .str,.vec .str,.nil,.d .str,.nil,.nil,.d .str,.d zg,.d zg,.d .str,.d .str,.nil,.nil,.nil,.d .str,.d zg,.d zg,.d .str,.d .str,.nil,.d .str]
abbrev KF:Nat->aM:=λj=>if j=14 then{slots:=[0,1,4],prom:=[(1,some 3,.str)]}else if j=1000000 then{prom:=[(1,some 3,.str)]}else{ }
inductive qT where
 |h14 (z0:zn aG) (z1:zn Ve)
 |h14b (b4:Sem Q7) (z0:zn aG) (z1:zn Ve)
abbrev HN:qT->Nat×St
 |.h14 z0 z1=>(14,⟨tm 117 [(0,ptr 0 0),(1,ptr 1 0),(4,kb Q3)],[Qa (bx [] aG z0),Qa (bx [2] Ve z1),AO.vec Q6 z1.2.2.2.1]⟩)
 |.h14b b4 z0 z1=>(14,⟨tm 117 [(0,ptr 0 0),(1,ptr 1 0),(4,AV.bool b4)],[Qa (bx [] aG z0),Qa (bx [2] Ve z1),AO.vec Q6 z1.2.2.2.1]⟩)
theorem zb4:zI H6.P 90 Tryz.f90 2:=bQ kw
def Rf(y:zn aG)(z:zn iH):Tr (qT⊕aw):=
 let a0:=(y.1,y.2.1,y.2.2.1,())
 let a1:=eV a0 [67,79,80,89]
 let a2:=(a1.2.1,a1.2.2.1,a1.2.2.2.1,())
 let a3:=bJ a2
 let a4:=(a3.2.1,a3.2.2.1,a3.2.2.2.1,())
 let a5:=bB a4 [70,82,79,77]
 let a6:=(a5.1,a5.2.1,a5.2.2.1,())
 let a7:=bJ a6
 let a8:=(a7.2.1,a7.2.2.1,a7.2.2.2.1,())
 let a9:=([],z.2.2.2)
 let a10:=bB a8 [44]
 let a11:=(a10.1,a10.2.1,a10.2.2.1,())
 let a12:=bJ a11
 let a13:=(a12.2.1,a12.2.2.1,a12.2.2.2.1,())
 let a14:=bB a13 [79,78]
 let a15:=(a14.1,a14.2.1,a14.2.2.1,())
 let a16:=bJ a15
 let a17:=(a16.2.1,a16.2.2.1,a16.2.2.2.1,())
 let a18:=eE a17 [67,72,69,67,75]
 let a19:=bB a8 [66,89]
 let a20:=(a19.1,a19.2.1,a19.2.2.1,())
 let a21:=bJ a20
 let a22:=[a21.1]
 let a23:=(a21.2.1,a21.2.2.1,a21.2.2.2.1,())
 let a24:=bB a23 [83,85,77]
 let a25:=(a24.1,a24.2.1,a24.2.2.1,())
 let a26:=bJ a25
 let a27:=[a26.1]
 let a28:=(a26.2.1,a26.2.2.1,a26.2.2.2.1,())
 let a29:=eE a28 [67,72,69,67,75]
 let a30:=eE a8 [67,72,69,67,75]
 let a31:=eV a2 [74,79,73,78]
 let a32:=(a31.2.1,a31.2.2.1,a31.2.2.2.1,())
 let a33:=bJ a32
 let a34:=(a33.2.1,a33.2.2.1,a33.2.2.2.1,())
 let a35:=bB a34 [70,82,79,77]
 let a36:=(a35.1,a35.2.1,a35.2.2.1,())
 let a37:=bJ a36
 let a38:=(a37.2.1,a37.2.2.1,a37.2.2.2.1,())
 let a39:=bB a38 [44]
 let a40:=(a39.1,a39.2.1,a39.2.2.1,())
 let a41:=bJ a40
 let a42:=(a41.2.1,a41.2.2.1,a41.2.2.2.1,())
 let a43:=bB a42 [79,78]
 let a44:=(a43.1,a43.2.1,a43.2.2.1,())
 let a45:=bJ a44
 let a46:=(a45.2.1,a45.2.2.1,a45.2.2.2.1,())
 let a47:=eE a46 [67,72,69,67,75]
 let a48:=bB a38 [66,89]
 let a49:=(a48.1,a48.2.1,a48.2.2.1,())
 let a50:=bJ a49
 let a51:=[a50.1]
 let a52:=(a50.2.1,a50.2.2.1,a50.2.2.2.1,())
 let a53:=bB a52 [83,85,77]
 let a54:=(a53.1,a53.2.1,a53.2.2.1,())
 let a55:=bJ a54
 let a56:=[a55.1]
 let a57:=(a55.2.1,a55.2.2.1,a55.2.2.2.1,())
 let a58:=eE a57 [67,72,69,67,75]
 let a59:=eE a38 [67,72,69,67,75]
 let a60:=eV a32 [71,82,79,85,80]
 let a61:=(a60.2.1,a60.2.2.1,a60.2.2.2.1,())
 let a62:=bJ a61
 let a63:=(a62.2.1,a62.2.2.1,a62.2.2.2.1,())
 let a64:=bB a63 [70,82,79,77]
 let a65:=(a64.1,a64.2.1,a64.2.2.1,())
 let a66:=bJ a65
 let a67:=(a66.2.1,a66.2.2.1,a66.2.2.2.1,())
 let a68:=bB a67 [44]
 let a69:=(a68.1,a68.2.1,a68.2.2.1,())
 let a70:=bJ a69
 let a71:=(a70.2.1,a70.2.2.1,a70.2.2.2.1,())
 let a72:=bB a71 [79,78]
 let a73:=(a72.1,a72.2.1,a72.2.2.1,())
 let a74:=bJ a73
 let a75:=(a74.2.1,a74.2.2.1,a74.2.2.2.1,())
 let a76:=eE a75 [67,72,69,67,75]
 let a77:=bB a67 [66,89]
 let a78:=(a77.1,a77.2.1,a77.2.2.1,())
 let a79:=bJ a78
 let a80:=[a79.1]
 let a81:=(a79.2.1,a79.2.2.1,a79.2.2.2.1,())
 let a82:=bB a81 [83,85,77]
 let a83:=(a82.1,a82.2.1,a82.2.2.1,())
 let a84:=bJ a83
 let a85:=[a84.1]
 let a86:=(a84.2.1,a84.2.2.1,a84.2.2.2.1,())
 let a87:=eE a86 [67,72,69,67,75]
 let a88:=eE a67 [67,72,69,67,75]
 let a89:=(a60.2.1,a60.2.2.1,Q4,())
 let a90:=bJ a89
 let a91:=(a90.2.1,a90.2.2.1,a90.2.2.2.1,())
 let a92:=bB a91 [70,82,79,77]
 let a93:=(a92.1,a92.2.1,a92.2.2.1,())
 let a94:=bJ a93
 let a95:=(a94.2.1,a94.2.2.1,a94.2.2.2.1,())
 let a96:=bB a95 [44]
 let a97:=(a96.1,a96.2.1,a96.2.2.1,())
 let a98:=bJ a97
 let a99:=(a98.2.1,a98.2.2.1,a98.2.2.2.1,())
 let a100:=bB a99 [79,78]
 let a101:=(a100.1,a100.2.1,a100.2.2.1,())
 let a102:=bJ a101
 let a103:=(a102.2.1,a102.2.2.1,a102.2.2.2.1,())
 let a104:=eE a103 [67,72,69,67,75]
 let a105:=bB a95 [66,89]
 let a106:=(a105.1,a105.2.1,a105.2.2.1,())
 let a107:=bJ a106
 let a108:=[a107.1]
 let a109:=(a107.2.1,a107.2.2.1,a107.2.2.2.1,())
 let a110:=bB a109 [83,85,77]
 let a111:=(a110.1,a110.2.1,a110.2.2.1,())
 let a112:=bJ a111
 let a113:=[a112.1]
 let a114:=(a112.2.1,a112.2.2.1,a112.2.2.2.1,())
 let a115:=eE a114 [67,72,69,67,75]
 let a116:=eE a95 [67,72,69,67,75]
 Qc (dK a0 [67,79,80,89])
 (br a1.1
  (Qc (bj a2) (Qc (aU a4 [70,82,79,77]) (Qc (bj a6) (br Q3 (Qc (aU a8 [40]) (Q9 (qT.h14 (bB a8 [40]) ([99,111,112,121],a3.1,a7.1,a9)))) (br Q4 (Qc (aU a8 [44]) (Qc (bj a11) (Qc (aU a13 [79,78]) (Qc (bj a15) (Qc (dC a17 [67,72,69,67,75]) (re (Qe []) (bW aG lT a18.2
  ([99,111,112,121],a3.1,a7.1,[],a16.1,a18.1,z.t.t.2.1,z.t.t.q.1,z.t.t.q.2.1,z.t.t.t.1,z.t.t.t.2.1,a12.1,())))))))) (br Q4 (Qc (aU a8 [66,89]) (Qc (bj a20) (Qc (Q0 (a22.length<=1073741824)) (Qc (aU a23 [83,85,77]) (Qc (bj a25)
  (Qc (Q0 (a22.length+a27.length<=1073741824)) (Qc (dC a28 [67,72,69,67,75]) (re (Qe []) (bW aG lT a29.2 ([99,111,112,121],a3.1,a7.1,a22++a27,z.2.2.2.1,a29.1,z.t.t.2)))))))))) (Qc (dC a8 [67,72,69,67,75]) (re (Qe []) (bW aG lT a30.2
  ([99,111,112,121],a3.1,a7.1,[],z.2.2.2.1,a30.1,z.t.t.2))))))))))
  (Qc (dK a2 [74,79,73,78]) (br a31.1 (Qc (bj a32) (Qc (aU a34 [70,82,79,77]) (Qc (bj a36) (br Q4 (Qc (aU a38 [40]) (Q9 (qT.h14 (bB a38 [40]) ([106,111,105,110],a33.1,a37.1,a9)))) (br Q3 (Qc (aU a38 [44]) (Qc (bj a40) (Qc (aU a42 [79,78]) (Qc (bj a44)
  (Qc (dC a46 [67,72,69,67,75]) (re (Qe []) (bW aG lT a47.2 ([106,111,105,110],a33.1,a37.1,[],a45.1,a47.1,z.t.t.2.1,z.t.t.q.1,z.t.t.q.2.1,z.t.t.t.1,z.t.t.t.2.1,a41.1,())))))))) (br Q4 (Qc (aU a38 [66,89]) (Qc (bj a49)
  (Qc (Q0 (a51.length<=1073741824)) (Qc (aU a52 [83,85,77]) (Qc (bj a54) (Qc (Q0 (a51.length+a56.length<=1073741824)) (Qc (dC a57 [67,72,69,67,75]) (re (Qe []) (bW aG lT a58.2 ([106,111,105,110],a33.1,a37.1,a51++a56,z.2.2.2.1,a58.1,z.t.t.2)))))))))) (Qc (dC a38 [67,72,69,67,75])
  (re (Qe []) (bW aG lT a59.2 ([106,111,105,110],a33.1,a37.1,[],z.2.2.2.1,a59.1,z.t.t.2)))))))))) (Qc (dK a32 [71,82,79,85,80]) (br a60.1 (Qc (bj a61) (Qc (aU a63 [70,82,79,77]) (Qc (bj a65) (br Q4 (Qc (aU a67 [40]) (Q9 (qT.h14 (bB a67 [40]) ([103,114,111,117,112],a62.1,a66.1,a9))))
  (br Q4 (Qc (aU a67 [44]) (Qc (bj a69) (Qc (aU a71 [79,78]) (Qc (bj a73) (Qc (dC a75 [67,72,69,67,75]) (re (Qe []) (bW aG lT a76.2 ([103,114,111,117,112],a62.1,a66.1,[],a74.1,a76.1,z.t.t.2.1,z.t.t.q.1,z.t.t.q.2.1,
  z.t.t.t.1,z.t.t.t.2.1,a70.1,())))))))) (br Q3 (Qc (aU a67 [66,89]) (Qc (bj a78) (Qc (Q0 (a80.length<=1073741824)) (Qc (aU a81 [83,85,77]) (Qc (bj a83) (Qc (Q0 (a80.length+a85.length<=1073741824)) (Qc (dC a86 [67,72,69,67,75]) (re (Qe []) (bW aG lT a87.2
  ([103,114,111,117,112],a62.1,a66.1,a80++a85,z.2.2.2.1,a87.1,z.t.t.2)))))))))) (Qc (dC a67 [67,72,69,67,75]) (re (Qe []) (bW aG lT a88.2 ([103,114,111,117,112],a62.1,a66.1,[],z.2.2.2.1,a88.1,z.t.t.2)))))))))) (Qc (bj a89) (Qc (aU a91 [70,82,79,77]) (Qc (bj a93)
  (br (z.1==[99,111,112,121]) (Qc (aU a95 [40]) (Q9 (qT.h14 (bB a95 [40]) (z.1,a90.1,a94.1,a9)))) (br (z.1==[106,111,105,110]) (Qc (aU a95 [44]) (Qc (bj a97) (Qc (aU a99 [79,78]) (Qc (bj a101) (Qc (dC a103 [67,72,69,67,75]) (re (Qe []) (bW aG lT a104.2
  (z.1,a90.1,a94.1,[],a102.1,a104.1,z.t.t.2.1,z.t.t.q.1,z.t.t.q.2.1,z.t.t.t.1,z.t.t.t.2.1,a98.1,())))))))) (br (z.1==[103,114,111,117,112]) (Qc (aU a95 [66,89]) (Qc (bj a106) (Qc (Q0 (a108.length<=1073741824)) (Qc (aU a109 [83,85,77]) (Qc (bj a111)
  (Qc (Q0 (a108.length+a113.length<=1073741824)) (Qc (dC a114 [67,72,69,67,75]) (re (Qe []) (bW aG lT a115.2 (z.1,a90.1,a94.1,a108++a113,z.2.2.2.1,a115.1,z.t.t.2)))))))))) (Qc (dC a95 [67,72,69,67,75]) (re (Qe []) (bW aG lT a116.2 (z.1,a90.1,a94.1,[],z.2.2.2.1,a116.1,z.t.t.2)))))))))))))))
theorem za5(y:zn aG)(z:zn iH):rn H6 2 KF Tryz.f90 [ptr 0 0,ptr 1 0] (bW aG iH y z)=(Rf y z).map (lf Tryz.f90 HN):=kw
def Tq:qT->Tr (qT⊕aw)
 | .h14 z0 z1=>
  let a0:=(z0.1,z0.2.1,z0.2.2.1,())
  let a1:=bJ a0
  let a2:=[a1.1]
  let a3:=(a1.2.1,a1.2.2.1,a1.2.2.2.1,())
  let a4:=eV a3 [44]
  let a5:=bB a0 [41]
  let a6:=(a5.1,a5.2.1,a5.2.2.1,())
  let a7:=eE a6 [67,72,69,67,75]
  br z0.2.2.1
  (Qc (bj a0)
   (Qc (Q0 (z1.2.2.2.1.length+a2.length<=1073741824)) (Qc (dK a3 [44]) (Q9 (qT.h14b a4.1 a4.2 (z1.1,z1.2.1,z1.2.2.1,z1.2.2.2.1++a2,z1.t))))))
  (Qc (aU a0 [41])
   (Qc (dC a6 [67,72,69,67,75]) (re (Qe []) (bW aG lT a7.2 (z1.1,z1.2.1,z1.2.2.1,z1.2.2.2.1,z1.t.1,a7.1,z1.t.t.q)))))
 | .h14b b4 z0 z1=>
  let a0:=(z0.1,z0.2.1,z0.2.2.1,())
  let a1:=bJ a0
  let a2:=[a1.1]
  let a3:=(a1.2.1,a1.2.2.1,a1.2.2.2.1,())
  let a4:=eV a3 [44]
  let a5:=bB a0 [41]
  let a6:=(a5.1,a5.2.1,a5.2.2.1,())
  let a7:=eE a6 [67,72,69,67,75]
  br (bif b4 then z0.2.2.1 else Q4)
  (Qc (bj a0)
   (Qc (Q0 (z1.2.2.2.1.length+a2.length<=1073741824)) (Qc (dK a3 [44]) (Q9 (qT.h14b a4.1 a4.2 (z1.1,z1.2.1,z1.2.2.1,z1.2.2.2.1++a2,z1.t))))))
  (Qc (aU a0 [41])
   (Qc (dC a6 [67,72,69,67,75]) (re (Qe []) (bW aG lT a7.2 (z1.1,z1.2.1,z1.2.2.1,z1.2.2.2.1,z1.t.1,a7.1,z1.t.t.q)))))
theorem zcc:∀s,run H6 2 KF (Func.results Tryz.f90).toList 400 (zZ Tryz.f90 (HN s).1) (HN s).2=(Tq s).map (lf Tryz.f90 HN)
 |.h14 z0 z1=>by kernel_rfl
 |.h14b b4 z0 z1=>by kernel_rfl
def Tc(y:zn aG)(z:zn iH):Option (zy (List.map some [])×zn aG×zn lT):=MN [] aG lT Tq 100000000 (Rf y z)
def Tb(y:zn aG)(z:zn iH):Bool:=(Tc y z).isSome
def YM(y:zn aG)(z:zn iH):zn aG×zn lT:=(λr:zy (List.map some [])×zn aG×zn lT=>r.2) ((Tc y z).getD (cn [],fM aG,fM lT))
def WS:zX:=PP aG iH [] [] aG lT (λy z _=>Tb y z) λy z _=>((),YM y z)
theorem T9:FK 90 WS:=zay (ps:=aG) (qs:=iH) (ks:=[]) (outs:=[]) (keep:=KF) (gas:=400) (n:=100000000) (e:=HN) (t:=Tq) (i:=λy z x=>Rf y z) D5 zb4 (λy z x=>za5 y z) zcc (λ_ _ _=>by kernel_rfl) (λ_ _ _=>by kernel_rfl)
def X1:=H6.add 90 WS
theorem D6:zw X1:=D5.add T9
abbrev zg3:=mV [(17,[2,4,6,7,8]),(25,[2,4,6,7,9])]
inductive NB where
 |h17 (l4:LF) (z0:zn iH) (z1:zn aG) (z2:zn iH)
 |h25 (l4:LF) (z0:zn iH) (z1:zn aG) (z2:zn iH)
abbrev zjz:NB->Nat×St
 |.h17 l4 z0 z1 z2=>(17,⟨tm 172 [(2,ptr 0 0),(4,sl zr l4),(6,ptr 1 0),(7,ptr 2 0),(8,kb Q3)],[Qa (bx [] iH z0),Qa (bx [] aG z1),Qa (bx [] iH z2)]⟩)
 |.h25 l4 z0 z1 z2=>(25,⟨tm 172 [(2,ptr 0 0),(4,sl zr l4),(6,ptr 1 0),(7,ptr 2 0),(9,kb Q3)],[Qa (bx [] iH z0),Qa (bx [] aG z1),Qa (bx [] iH z2)]⟩)
def zkM(x0:TS):Tr (NB⊕aw):=
 let a0:=((xr x0).1,0,Q3,())
 let a1:=eV a0 [67,82,69,65,84,69]
 let a2:=(a1.2.1,a1.2.2.1,a1.2.2.2.1,())
 let a3:=eV a2 [68,82,79,80]
 let a4:=(a3.2.1,a3.2.2.1,a3.2.2.2.1,())
 let a5:=bB a4 [84,65,66,76,69]
 let a6:=(a5.1,a5.2.1,a5.2.2.1,())
 let a7:=bJ a6
 let a8:=(↑(length (xr x0).1):Int)
 let a9:=([100,114,111,112],a7.1,[],[],[],[],[],[],ze.mk [] (0,0,[]) [] [],[],[],ze.mk [] (0,0,[]) [] [],[])
 let a10:=kG a9
 let a11:=eV a4 [73,78,83,69,82,84]
 let a12:=(a11.2.1,a11.2.2.1,a11.2.2.2.1,())
 let a13:=bB a12 [73,78,84,79]
 let a14:=(a13.1,a13.2.1,a13.2.2.1,())
 let a15:=bJ a14
 let a16:=(a15.2.1,a15.2.2.1,a15.2.2.2.1,())
 let a17:=bB a16 [86,65,76,85,69,83]
 let a18:=(a17.1,a17.2.1,a17.2.2.1,())
 let a19:=eV a12 [85,80,68,65,84,69]
 let a20:=(a19.2.1,a19.2.2.1,a19.2.2.2.1,())
 let a21:=bJ a20
 let a22:=(a21.2.1,a21.2.2.1,a21.2.2.2.1,())
 let a23:=eV a20 [68,69,76,69,84,69]
 let a24:=(a23.2.1,a23.2.2.1,a23.2.2.2.1,())
 let a25:=bB a24 [70,82,79,77]
 let a26:=(a25.1,a25.2.1,a25.2.2.1,())
 let a27:=bJ a26
 let a28:=(a27.2.1,a27.2.2.1,a27.2.2.2.1,())
 let a29:=eE a28 [87,72,69,82,69]
 let a30:=([100,101,108,101,116,101],a27.1,[],[],[],[],[],[],ze.mk [] (0,0,[]) [] [],[],[],zm a29.1,[])
 let a31:=kG a30
 let a32:=eV a24 [83,69,76,69,67,84]
 let a33:=(a32.2.1,a32.2.2.1,a32.2.2.2.1,())
 let a34:=bB a33 [42]
 let a35:=(a34.1,a34.2.1,a34.2.2.1,())
 let a36:=bB a35 [70,82,79,77]
 let a37:=(a36.1,a36.2.1,a36.2.2.1,())
 let a38:=bJ a37
 let a39:=(a38.2.1,a38.2.2.1,a38.2.2.2.1,())
 let a40:=eE a39 [87,72,69,82,69]
 let a41:=([115,101,108,101,99,116],a38.1,[],[],[],[],[],[],ze.mk [] (0,0,[]) [] [],[],[],zm a40.1,[])
 let a42:=kG a41
 let a43:=eV a33 [71,82,65,78,84]
 let a44:=(a43.2.1,a43.2.2.1,a43.2.2.2.1,())
 let a45:=Jl a44 [82,69,65,68]
 let a46:=eV a44 [82,69,86,79,75,69]
 let a47:=(a46.2.1,a46.2.2.1,a46.2.2.2.1,())
 let a48:=Jl a47 [82,69,65,68]
 let a49:=eV a47 [77,73,71,82,65,84,69]
 let a50:=(a49.2.1,a49.2.2.1,a49.2.2.2.1,())
 let a51:=YM a50 ([],[],[],[],[],0,0,[],[],[],0,0,[],[],[],())
 let a52:=(a51.2.1,a51.2.2.1,a51.2.2.2.1,a51.t.1,[],a51.t.2.1,[],[],zm a51.t.q.1,[],[],ze.mk a51.t.q.2.1 (a51.t.t.1,a51.t.t.2.1,a51.t.t.q.1) a51.t.t.q.2.1 [],a51.t.t.t.1)
 let a53:=kG a52
 Qc (Gv x0)
 (br (!(xr x0).2)
  (re (Qe [Qd [str [],str [],str [],Qb,Qb,str [],Qb,Qb,str [],ai 0,ai 0,str [],str [],Qb,Qb,Qb,str [],ai 0,ai 0,str [],str [],Qb,str []],kb Q4]) [])
  (Qc (dK a0 [67,82,69,65,84,69]) (br a1.1 Tr.err (Qc (dK a2 [68,82,79,80]) (br a3.1 (Qc (aU a4 [84,65,66,76,69]) (Qc (bj a6) (br (bif !a7.2.2.2.1 then Q3 else a7.2.2.1!=a8) (re (Qe [Qd [str [],str [],str [],Qb,Qb,str [],Qb,Qb,str [],ai 0,
  ai 0,str [],str [],Qb,Qb,Qb,str [],ai 0,ai 0,str [],str [],Qb,str []],kb Q4]) []) (Qc (io a9) (br (!a10.2) (re (Qe [Qd [str [],str [],str [],Qb,Qb,str [],Qb,Qb,str [],ai 0,
  ai 0,str [],str [],Qb,Qb,Qb,str [],ai 0,ai 0,str [],str [],Qb,str []],kb Q4]) []) (re (Qe [Qd [str [100,114,111,112],str a7.1,str [],Qb,Qb,str [],Qb,Qb,str [],
  ai 0,ai 0,str [],str [],Qb,Qb,Qb,str [],ai 0,ai 0,str [],str [],Qb,str []],kb Q3]) [])))))) (Qc (dK a4 [73,78,83,69,82,84]) (br a11.1 (Qc (aU a12 [73,78,84,79]) (Qc (bj a14) (Qc (aU a16 [86,65,76,85,69,83]) (Qc (aU a18 [40]) (Q9
  (NB.h17 (xr x0).1 ([],[],[],[],[],0,0,[],[],[],0,0,[],[],[],()) (bB a18 [40]) ([105,110,115,101,114,116],a15.1,[],[],[],0,0,[],[],[],0,0,[],[],[],()))))))) (Qc (dK a12 [85,80,68,65,84,69]) (br a19.1 (Qc (bj a20) (Qc (aU a22 [83,69,84]) (Q9
  (NB.h25 (xr x0).1 ([],[],[],[],[],0,0,[],[],[],0,0,[],[],[],()) (bB a22 [83,69,84]) ([117,112,100,97,116,101],a21.1,[],[],[],0,0,[],[],[],0,0,[],[],[],()))))) (Qc (dK a20 [68,69,76,69,84,69]) (br a23.1 (Qc (aU a24 [70,82,79,77]) (Qc (bj a26) (Qc (dC a28 [87,72,69,82,69])
  (br (bif !a29.2.2.2.1 then Q3 else a29.2.2.1!=a8) (re (Qe [Qd [str [],str [],str [],Qb,Qb,str [],Qb,Qb,str [],ai 0,ai 0,str [],str [],Qb,Qb,Qb,str [],ai 0,ai 0,str [],str [],Qb,str []],kb Q4]) []) (Qc (io a30) (br (!a31.2)
  (re (Qe [Qd [str [],str [],str [],Qb,Qb,str [],Qb,Qb,str [],ai 0,ai 0,str [],str [],Qb,Qb,Qb,str [],ai 0,ai 0,str [],str [],Qb,str []],kb Q4]) []) (re (Qe [Qd
  [str [100,101,108,101,116,101],str a27.1,str [],Qb,Qb,str [],Qb,Qb,str [],ai 0,ai 0,str [],str [],Qb,Qb,Qb,str (ze.op a29.1),ai (ze.v a29.1).1,ai (ze.v a29.1).2.1,str (ze.v a29.1).2.2,str (ze.s a29.1),sl Q5 (ze.l a29.1),str []],
  kb Q3]) []))))))) (Qc (dK a24 [83,69,76,69,67,84]) (br a32.1 (Qc (aU a33 [42]) (Qc (aU a35 [70,82,79,77]) (Qc (bj a37) (Qc (dC a39 [87,72,69,82,69]) (br (bif !a40.2.2.2.1 then Q3 else a40.2.2.1!=a8) (re (Qe [Qd
  [str [],str [],str [],Qb,Qb,str [],Qb,Qb,str [],ai 0,ai 0,str [],str [],Qb,Qb,Qb,str [],ai 0,ai 0,str [],str [],Qb,str []],kb Q4]) []) (Qc (io a41) (br (!a42.2) (re (Qe [Qd
  [str [],str [],str [],Qb,Qb,str [],Qb,Qb,str [],ai 0,ai 0,str [],str [],Qb,Qb,Qb,str [],ai 0,ai 0,str [],str [],Qb,str []],kb Q4]) []) (re (Qe [Qd
  [str [115,101,108,101,99,116],str a38.1,str [],Qb,Qb,str [],Qb,Qb,str [],ai 0,ai 0,str [],str [],Qb,Qb,Qb,str (ze.op a40.1),ai (ze.v a40.1).1,ai (ze.v a40.1).2.1,str (ze.v a40.1).2.2,str (ze.s a40.1),sl Q5 (ze.l a40.1),str []],
  kb Q3]) [])))))))) (Qc (dK a33 [71,82,65,78,84]) (br a43.1 (Qc (GD a44 [82,69,65,68]) (br a45.1 Tr.err Tr.err)) (Qc (dK a44 [82,69,86,79,75,69]) (br a46.1 (Qc (GD a47 [82,69,65,68]) (br a48.1 Tr.err Tr.err)) (Qc (dK a47 [77,73,71,82,65,84,69]) (br a49.1
  (Qc (Tb a50 ([],[],[],[],[],0,0,[],[],[],0,0,[],[],[],())) (br (bif !a51.1.2.2.1 then Q3 else a51.1.2.1!=a8) (re (Qe [Qd [str [],str [],str [],Qb,Qb,str [],Qb,Qb,str [],ai 0,ai 0,str [],str [],Qb,Qb,Qb,str [],
  ai 0,ai 0,str [],str [],Qb,str []],kb Q4]) []) (Qc (io a52) (br (!a53.2) (re (Qe [Qd [str [],str [],str [],Qb,Qb,str [],Qb,Qb,str [],ai 0,ai 0,str [],str [],Qb,Qb,Qb,
  str [],ai 0,ai 0,str [],str [],Qb,str []],kb Q4]) []) (re (Qe [Qd [str a51.2.1,str a51.2.2.1,str a51.2.2.2.1,AV.vec 0,Qb,str a51.t.2.1,Qb,Qb,str (ze.op a51.t.q.1),ai (ze.v a51.t.q.1).1,ai (ze.v a51.t.q.1).2.1,
  str (ze.v a51.t.q.1).2.2,str (ze.s a51.t.q.1),sl Q5 (ze.l a51.t.q.1),Qb,Qb,str a51.t.q.2.1,ai a51.t.t.1,ai a51.t.t.2.1,str a51.t.t.q.1,str a51.t.t.q.2.1,Qb,str a51.t.t.t.1],kb Q3])
  [AO.vec Q6 a51.t.1]))))) (br (bif !a49.2.2.2.1 then Q3 else a49.2.2.1!=a8) (re (Qe [Qd [str [],str [],str [],Qb,Qb,str [],Qb,Qb,str [],ai 0,ai 0,str [],str [],Qb,Qb,Qb,str [],ai 0,ai 0,str [],str [],Qb,str []],kb Q4]) [])
  (Qc Q3 (br Q3 (re (Qe [Qd [str [],str [],str [],Qb,Qb,str [],Qb,Qb,str [],ai 0,ai 0,str [],str [],Qb,Qb,Qb,str [],ai 0,ai 0,str [],str [],Qb,str []],kb Q4]) []) (re (Qe [Qd
  [str [],str [],str [],Qb,Qb,str [],Qb,Qb,str [],ai 0,ai 0,str [],str [],Qb,Qb,Qb,str [],ai 0,ai 0,str [],str [],Qb,str []],kb Q3]) [])))))))))))))))))))))))
def zlk:NB->Tr (NB⊕aw)
 | .h17 l4 _ z1 z2=>
  let a0:=(z1.1,z1.2.1,z1.2.2.1,())
  let a1:=bB a0 [41]
  let a2:=(z2.1,z2.2.1,z2.2.2.1,[],[],z2.2.2.2.1,[],[],ze.mk z2.t.1 (z2.t.2.1,z2.t.q.1,z2.t.q.2.1) z2.t.t.1 [],[],[],ze.mk z2.t.t.2.1 (z2.t.t.q.1,z2.t.t.q.2.1,z2.t.t.t.1) z2.t.t.t.2.1 [],z2.t.t.t.q.1)
  let a3:=kG a2
  br z1.2.2.1 Tr.err
  (Qc (aU a0 [41])
   (br (bif !a1.2.2.1 then Q3 else a1.2.1!=(↑l4.length:Int)) (re (Qe [Qd [str [],str [],str [],Qb,Qb,str [],Qb,Qb,str [],ai 0,ai 0,str [],str [],Qb,Qb,Qb,str [],ai 0,ai 0,str [],str [],Qb,str []],kb Q4]) []) (Qc (io a2)
   (br (!a3.2) (re (Qe [Qd [str [],str [],str [],Qb,Qb,str [],Qb,Qb,str [],ai 0,ai 0,str [],str [],Qb,Qb,Qb,str [],ai 0,ai 0,str [],str [],Qb,str []],kb Q4]) []) (re (Qe [Qd
   [str z2.1,str z2.2.1,str z2.2.2.1,Qb,Qb,str z2.2.2.2.1,Qb,Qb,str z2.t.1,ai z2.t.2.1,ai z2.t.q.1,str z2.t.q.2.1,str z2.t.t.1,Qb,Qb,Qb,str z2.t.t.2.1,ai z2.t.t.q.1,
   ai z2.t.t.q.2.1,str z2.t.t.t.1,str z2.t.t.t.2.1,Qb,str z2.t.t.t.q.1],kb Q3]) [])))))
 | .h25 l4 _ z1 z2=>
  let a0:=(z1.1,z1.2.1,z1.2.2.1,())
  let a1:=bJ a0
  let a2:=eE a0 [87,72,69,82,69]
  let a3:=(z2.1,z2.2.1,z2.2.2.1,[],[],z2.2.2.2.1,[],[],ze.mk z2.t.1 (z2.t.2.1,z2.t.q.1,z2.t.q.2.1) z2.t.t.1 [],[],[],zm a2.1,z2.t.t.t.q.1)
  let a4:=kG a3
  br z1.2.2.1 (Qc (bj a0) (Qc (aU (a1.2.1,a1.2.2.1,a1.2.2.2.1,()) [61]) Tr.err))
  (Qc (dC a0 [87,72,69,82,69])
   (br (bif !a2.2.2.2.1 then Q3 else a2.2.2.1!=(↑l4.length:Int)) (re (Qe [Qd [str [],str [],str [],Qb,Qb,str [],Qb,Qb,str [],ai 0,ai 0,str [],str [],Qb,Qb,Qb,str [],ai 0,ai 0,str [],str [],Qb,str []],kb Q4]) []) (Qc (io a3)
   (br (!a4.2) (re (Qe [Qd [str [],str [],str [],Qb,Qb,str [],Qb,Qb,str [],ai 0,ai 0,str [],str [],Qb,Qb,Qb,str [],ai 0,ai 0,str [],str [],Qb,str []],kb Q4]) []) (re (Qe [Qd
   [str z2.1,str z2.2.1,str z2.2.2.1,Qb,Qb,str z2.2.2.2.1,Qb,Qb,str z2.t.1,ai z2.t.2.1,ai z2.t.q.1,str z2.t.q.2.1,str z2.t.t.1,Qb,Qb,Qb,str (ze.op a2.1),ai (ze.v a2.1).1,ai (ze.v a2.1).2.1,
   str (ze.v a2.1).2.2,str (ze.s a2.1),sl Q5 (ze.l a2.1),str z2.t.t.t.q.1],kb Q3]) [])))))
def BZ(x0:TS):=al [zk,Q7] zlk 100000000 (zkM x0)
def S9(x0:TS):=(BZ x0).isSome
def cz(x0:TS):=o2 (BZ x0)
def zdP:=FT [Q6] [zk,Q7] λx=>BZ x.1
theorem zab:FK 51 zdP:=D6.T1 (f:=Tryz.f51) (keep:=zg3) (e:=zjz)
def X2:=X1.add 51 zdP
theorem D7:zw X2:=D6.add zab
def zkI(x0:TS):Tr (Empty⊕aw):=
 Qc (S9 x0)
 (re
  (Qd [str (cz x0).1.1,str (cz x0).1.2.1,str (cz x0).1.2.2.1,sl Q6 (cz x0).1.2.2.2.1,sl zj (cz x0).1.t.1,str (cz x0).1.t.2.1,sl Q6 (cz x0).1.t.q.1,sl (Sh.str.pr Q6) (cz x0).1.t.q.2.1,str (ze.op (cz x0).1.t.t.1),
  ai (ze.v (cz x0).1.t.t.1).1,ai (ze.v (cz x0).1.t.t.1).2.1,str (ze.v (cz x0).1.t.t.1).2.2,str (ze.s (cz x0).1.t.t.1),sl Q5 (ze.l (cz x0).1.t.t.1),sl zf (cz x0).1.t.t.2.1,sl (Sh.str.pr Q5) (cz x0).1.t.t.q.1,
  str (ze.op (cz x0).1.t.t.q.2.1),ai (ze.v (cz x0).1.t.t.q.2.1).1,ai (ze.v (cz x0).1.t.t.q.2.1).2.1,str (ze.v (cz x0).1.t.t.q.2.1).2.2,str (ze.s (cz x0).1.t.t.q.2.1),sl Q5 (ze.l (cz x0).1.t.t.q.2.1),
  str (cz x0).1.t.t.t])
  [])
def zhh(x0:TS):=al [zk] t0 100000000 (zkI x0)
def zdj:=FT [Q6] [zk] λx=>zhh x.1
theorem ZA:FK 28 zdj:=D7.T1 (f:=Tryz.f28) (keep:=k0) (e:=e0)
def X3:=X2.add 28 zdj
theorem jY:zw X3:=D7.add ZA
def Yl(x0:Sem zf)(x1:Sem zf):Tr (Empty⊕aw):=
 let a0:=x0.1==x1.1&&(x0.2.1==x1.2.1&&(x0.2.2==x1.2.2&&Q3))
 let a1:=aT a0
 Qc (mg x0 x1)
 (br (qa x0 x1) (re (Qd [ai 0,ai 0,str []]) [])
  (Qc (kE a0) (re (Qd [ai a1.1,ai a1.2.1,str a1.2.2]) [])))
def oZ(x0:Sem zf)(x1:Sem zf):=al [zf] t0 100000000 (Yl x0 x1)
def tQ(x0:Sem zf)(x1:Sem zf):=(oZ x0 x1).isSome
def pY(x0:Sem zf)(x1:Sem zf):=o1 (oZ x0 x1)
def Xk:=FT [zf,zf] [zf] λx=>oZ x.1 x.2.1
theorem Uy:FK 214 Xk:=jY.T1 (f:=Tryz.f214) (keep:=k0) (e:=e0)
def Ym(x0:Sem zf)(x1:Sem zf):Tr (Empty⊕aw):=
 let a0:=Op.bytesLess x0.2.2 x1.2.2
 let a1:=aT a0
 Qc (mg x0 x1)
 (br (qa x0 x1) (re (Qd [ai 0,ai 0,str []]) [])
  (br (Q0 (x0.2.1<x1.2.1)) (Qc Q3 (re (Qd [ai (aT Q3).1,ai (aT Q3).2.1,str (aT Q3).2.2]) [])) (Qc (kE a0) (re (Qd [ai a1.1,ai a1.2.1,str a1.2.2]) []))))
def tR(x0:Sem zf)(x1:Sem zf):=al [zf] t0 100000000 (Ym x0 x1)
def yk(x0:Sem zf)(x1:Sem zf):=(tR x0 x1).isSome
def wi(x0:Sem zf)(x1:Sem zf):=o1 (tR x0 x1)
def Xl:=FT [zf,zf] [zf] λx=>tR x.1 x.2.1
theorem Uz:FK 215 Xl:=jY.T1 (f:=Tryz.f215) (keep:=k0) (e:=e0)
def Yn(x0:Sem zf)(x1:Sem zf):Tr (Empty⊕aw):=
 let a0:=IntKind.i64.wrap (9223372036854775807-x1.2.1)
 let a1:=IntKind.i64.wrap (-9223372036854775808-x1.2.1)
 let a2:=bif Q0 (x1.2.1<0)then Q0 (x0.2.1<a1)else Q4
 Qc (mg x0 x1)
 (br (bif qa x0 x1 then Q3 else x0.1!=1) (re (Qd [ai 0,ai 0,str []]) [])
  (br (bif Q0 (x1.2.1>0)then bif Q0 (x0.2.1>a0)then Q3 else a2 else a2) (re (Qd [ai 0,ai 0,str []]) []) (re (Qd [ai 1,ai (IntKind.i64.wrap (x0.2.1+x1.2.1)),str []]) [])))
def tT(x0:Sem zf)(x1:Sem zf):=al [zf] t0 100000000 (Yn x0 x1)
def yl(x0:Sem zf)(x1:Sem zf):=(tT x0 x1).isSome
def wj(x0:Sem zf)(x1:Sem zf):=o1 (tT x0 x1)
def Xm:=FT [zf,zf] [zf] λx=>tT x.1 x.2.1
theorem UA:FK 216 Xm:=jY.T1 (f:=Tryz.f216) (keep:=k0) (e:=e0)
def Yo(x0:Sem zf)(x1:Sem zf):Tr (Empty⊕aw):=
 let a0:=IntKind.i64.wrap (-9223372036854775808+x1.2.1)
 let a1:=IntKind.i64.wrap (9223372036854775807+x1.2.1)
 let a2:=bif Q0 (x1.2.1<0)then Q0 (x0.2.1>a1)else Q4
 Qc (mg x0 x1)
 (br (bif qa x0 x1 then Q3 else x0.1!=1) (re (Qd [ai 0,ai 0,str []]) [])
  (br (bif Q0 (x1.2.1>0)then bif Q0 (x0.2.1<a0)then Q3 else a2 else a2) (re (Qd [ai 0,ai 0,str []]) []) (re (Qd [ai 1,ai (IntKind.i64.wrap (x0.2.1-x1.2.1)),str []]) [])))
def o6(x0:Sem zf)(x1:Sem zf):=al [zf] t0 100000000 (Yo x0 x1)
def tS(x0:Sem zf)(x1:Sem zf):=(o6 x0 x1).isSome
def pZ(x0:Sem zf)(x1:Sem zf):=o1 (o6 x0 x1)
def Xn:=FT [zf,zf] [zf] λx=>o6 x.1 x.2.1
theorem UB:FK 217 Xn:=jY.T1 (f:=Tryz.f217) (keep:=k0) (e:=e0)
def Ya(x0:Sem Q5)(x1:Sem zj.sl):Tr (Empty⊕aw):=
 br (ze.op x0==[])
 (Qc (gv (zm x0) (ze.mk [] (0,0,[]) [] []))
  (br (!eT (zm x0) (ze.mk [] (0,0,[]) [] [])) (re (ai 1) []) (re (ai 0) [])))
 (Qc (wk (zm x0))
  (br (!EJ (zm x0)) (re (ai 1) []) (Qc (nc (zm x0) x1) (br ((ij (zm x0) x1).2!=0) (re (ai (ij (zm x0) x1).2) []) (br (bif (ij (zm x0) x1).1!=0 then(ij (zm x0) x1).1!=3 else Q4) (re (ai 5) []) (re (ai 0) []))))))
def pd(x0:Sem Q5)(x1:Sem zj.sl):=al [zg] t0 100000000 (Ya x0 x1)
def BO(x0:Sem Q5)(x1:Sem zj.sl):=(pd x0 x1).isSome
def Gk(x0:Sem Q5)(x1:Sem zj.sl):=o1 (pd x0 x1)
def WH:=FT [Q5,zj.sl] [zg] λx=>pd x.1 x.2.1
theorem TV:FK 172 WH:=jY.T1 (f:=Tryz.f172) (keep:=k0) (e:=e0)
def Fs:=X3.addL [(214,Xk),(215,Xl),(216,Xm),(217,Xn),(172,WH)]
theorem rR:zw Fs:=jY.addL<|fc Uy<|fc Uz<|fc UA<|fc UB<|fc TV jj
open Go
theorem HK{n b0 b1 b2 b3:Nat}(h:b0<128):Lib.decodeN n b0 b1 b2 b3=(b0,1):=by
 unfold Lib.decodeN;rw[if_pos h]
theorem Fh{n b0 b1 b2 b3:Nat}(h:¬b0<128):128<=(Lib.decodeN n b0 b1 b2 b3).1:=by
 unfold Lib.decodeN;rw[if_neg h];repeat' split
 all_goals(simp only;omega)
theorem IM{p:Nat->Bool}(hp:∀c:Nat,p c=Q3↔(c<32\/c>126))(s:List UInt8):∀(f pos:Nat),s.length<=pos+f->(Lib.idxFuncFrom p Q3 ⟨s.toArray⟩ f pos<0↔∀(i:Nat)(h:i<s.length),pos<=i->32<=s[i].toNat/\s[i].toNat<=126)
 | 0,pos,h=>by
  simp only[Lib.idxFuncFrom];exact⟨λ_ i hi hpi=>absurd hi (by omega),λ_=>by decide⟩
 | f + 1,pos,h=>by
  have hsz:(⟨s.toArray⟩:ByteArray).size=s.length:=by simp[ByteArray.size]
  rw[Lib.idxFuncFrom,hsz];by_cases hlt:pos<s.length
  ·have hb:((⟨s.toArray⟩:ByteArray).get! pos)=s[pos]:=by
    simp[ByteArray.get!,hlt]
   rw[if_pos hlt,Lib.decode_at,hb];by_cases h8:s[pos].toNat<128
   ·rw[HK h8];simp only;by_cases ho:p s[pos].toNat=Q3
    ·rw[if_pos ho];have:=(hp _).1 ho;exact⟨λh=>absurd h (by omega),λh=>by have:=h pos hlt (aB _);omega⟩
    ·rw[if_neg ho,IM hp s f (pos+1) (by omega)];have hn:¬(s[pos].toNat<32\/s[pos].toNat>126):=λh=>ho ((hp _).2 h)
     refine⟨λh i hi hpi=>?_,λh i hi hpi=>h i hi (by omega)⟩;by_cases e:i=pos
     ·subst e;omega
     ·exact h i hi (by omega)
   ·have hh:=Fh (n:=(⟨s.toArray⟩:ByteArray).size-pos) (b1:=((⟨s.toArray⟩:ByteArray).get! (pos+1)).toNat) (b2:=((⟨s.toArray⟩:ByteArray).get! (pos+2)).toNat) (b3:=((⟨s.toArray⟩:ByteArray).get! (pos+3)).toNat) h8;rw[if_pos ((hp _).2 (by omega))];exact⟨λh=>absurd h (by omega),λh=>by have:=h pos hlt (aB _);omega⟩
  ·rw[if_neg hlt];exact⟨λ_ i hi hpi=>absurd hi (by omega),λ_=>by decide⟩
theorem Sj{p:Nat->Bool}(hp:∀c:Nat,p c=Q3↔(c<32\/c>126))(s:List UInt8):Lib.idxFunc p Q3 ⟨s.toArray⟩<0↔∀b∈s,32<=b.toNat/\b.toNat<=126:=by
 have hsz:(⟨s.toArray⟩:ByteArray).size=s.length:=by simp[ByteArray.size]
 unfold Lib.idxFunc;rw[IM hp s _ 0 (by omega)];constructor
 ·intro h b hb;obtain⟨i,hi,rfl⟩:=gY hb;exact h i hi (ba _)
 ·intro h i hi _;exact h _ (bC hi)
theorem gi{c g:Bool}(h1:c=Q3)(h2:g=Q3):(if c=Q3 then g else Q4)=Q3:=by rw[if_pos h1];exact h2
theorem ee{a b:Nat}(h:a<=b):Q0 (a<=b)=Q3:=zt h
theorem E2{v:Sem zf}(h:bd v=Q3)(h2:(v.1==2)=Q3):v.2.2.length<=40:=by
 have e:v.1=2:=by simpa using h2
 unfold bd at h;rw[e]at h;simp only[show((2:Int)==0)=Q4 from rfl,show((2:Int)==1)=Q4 from rfl,show((2:Int)==2)=Q3 from rfl,zG,if_false,if_true]at h;cases h1:v.2.1==0
 ·rw[h1]at h;simp at h
 ·rw[h1]at h;cases h3:Q0 ((v.2.2.length:Int)<=40)
  ·rw[h3]at h;simp at h
  ·have:=kW h3;omega
theorem JK(v:Sem zf):wD v=Q3:=by
 unfold wD;split
 ·rfl
 ·rename_i hm;have hm:bd v=Q3:=by simpa using hm
  split
  ·rfl
  ·split
   ·rename_i h2;have hl:=E2 hm h2;have hr:=kI v.2.2 [39] [39,39];have hr2:(Lib.replaceAll v.2.2 [39] [39,39]).length<=200:=by
     simp only[fi,nC]at hr;omega
    refine gi ?_ (gi (ee ?_) (gi (ee ?_) rfl))
    ·unfold ul;simp;omega
    ·simp;omega
    ·simp;omega
   ·rfl
theorem wE(v:Sem zf):(gU v).length<=300:=by
 unfold gU;split
 ·simp
 ·rename_i hm;have hm:bd v=Q3:=by simpa using hm
  split
  ·have:=Em v.2.1;omega
  ·split
   ·rename_i h2;have hl:=E2 hm h2;have hr:=kI v.2.2 [39] [39,39];simp only[fi,nC]at hr;simp;omega
   ·split
    ·split<;>simp
    ·simp
theorem E6{s:zA}(h:dQ s=Q3):s.length<=16:=by
 have h:pu s=Q3:=h;unfold pu at h;by_cases h2:(s.length:Int)<=16
 ·omega
 ·exfalso;rw[ah h2]at h;cases h1:Q0 ((s.length:Int)>=1)<;>rw[h1]at h<;>simp at h
theorem R7{g:ze->Int->Int->Bool×Int}{e:ze}{d n:Int}(h:(xI g e d n).1=Q3)(hc:e.op=[99,111,108]):e.s.length<=16:=by
 unfold xI at h;split at h
 ·cases h
 ·split at h
  ·rename_i h1;rw[hc]at h1;simp at h1
  ·split at h
   ·cases h1:aW e.v
    ·rw[h1]at h;simp at h
    ·rw[h1]at h;cases h2:dQ e.s
     ·rw[h2]at h;simp at h
     ·exact E6 h2
   ·rename_i h1;rw[hc]at h1;simp at h1
theorem G9(s:zA):(Lib.toUpperA s).length=s.length:=by simp[Lib.toUpperA]
theorem Av:∀(N:Nat)(e:ze)(d n:Int),N<=16->(gV N e d n).1=Q3->gq N e=Q3/\(aO N e).length<=400*2^N-100
 |0,_,_,_,_,h=>by cases h
 | N + 1,e,d,n,hN,h=>by
  rw[gV]at h;obtain⟨hl,h2⟩:=vY h;have hp:2^N<=2^15:=Dr ow ow;have hp1:1<=2^N:=Nat.one_le_two_pow;have hpp:2^(N+1)=2*2^N:=by rw[Ag];omega
  have hparts:∀x∈e.l,gq N x=Q3/\(aO N x).length<=400*2^N-100:=by
   intro x hx;rcases h2 with h2|h2
   ·exfalso;have:cG e.op=0:=by
     rcases h2 with h2|h2<;>rw[h2]<;>decide
    rw[this]at hl;have:e.l=[]:=xE ow;rw[this]at hx;simp at hx
   ·obtain⟨m,hm⟩:=tH e.l _ h2 x hx;exact Av N x _ _ ow hm
  have hget:∀i,i<e.l.length->e.l.getD i (zi Q5)∈e.l:=by
   intro i hi;rw[aY,zQ hi];exact bC hi
  rw[gq,aO];unfold xV rQ;rcases lq e.op with⟨hp0,hop|hop⟩|⟨hp0,hop|hop⟩|⟨hp0,hop⟩|hp0
  ·rw[hop];simp only[beq_self_eq_true,if_true];refine⟨gi (JK _) rfl,?_⟩;have:=wE e.v;omega
  ·have hs:=R7 h hop;rw[hop];refine⟨rfl,?_⟩;show e.s.length<=_;omega
  ·rw[hp0]at hl;have hlen:e.l.length=1:=by omega
   obtain⟨k1,k2⟩:=hparts _ (hget 0 ow);rw[hop];refine⟨gi ?_ (gi k1 (gi (ee ?_) (gi (ee ?_) rfl))),?_⟩
   ·simp[zP,hlen]
   ·simp at k2⊢;omega
   ·simp at k2⊢;omega
   ·show([40,78,79,84,32]++aO N (e.l.getD 0 (zi Q5))++[41]).length<=_;simp at k2⊢;omega
  ·rw[hp0]at hl;have hlen:e.l.length=1:=by omega
   obtain⟨k1,k2⟩:=hparts _ (hget 0 ow);rw[hop];refine⟨gi ?_ (gi k1 (gi (ee ?_) (gi (ee ?_) rfl))),?_⟩
   ·simp[zP,hlen]
   ·simp at k2⊢;omega
   ·simp at k2⊢;omega
   ·show([40]++aO N (e.l.getD 0 (zi Q5))++[32,73,83,32,78,85,76,76,41]).length<=_;simp at k2⊢;omega
  ·rw[hp0]at hl;have hlen:e.l.length=2:=by omega
   obtain⟨k1,k2⟩:=hparts _ (hget 0 ow);obtain⟨k3,k4⟩:=hparts _ (hget 1 ow);have hu:(Q0 (e.op.length<=140737488355328)&&e.op.all λb=>Q0 (b.toNat<128))=Q3:=by
    rcases hop with hop|hop|hop|hop|hop|hop<;>rw[hop]<;>decide
   have hol:e.op.length<=3:=by
    rcases hop with hop|hop|hop|hop|hop|hop<;>rw[hop]<;>simp
   have hul:=G9 e.op;have n1:(e.op==[108,105,116])=Q4:=by rcases hop with hop|hop|hop|hop|hop|hop<;>rw[hop]<;>rfl
   have n2:(e.op==[99,111,108])=Q4:=by rcases hop with hop|hop|hop|hop|hop|hop<;>rw[hop]<;>rfl
   have n3:(e.op==[110,111,116])=Q4:=by rcases hop with hop|hop|hop|hop|hop|hop<;>rw[hop]<;>rfl
   have n4:(e.op==[110,117,108,108])=Q4:=by rcases hop with hop|hop|hop|hop|hop|hop<;>rw[hop]<;>rfl
   simp only[n1,n2,n3,n4,zG,if_false];refine⟨gi ?_ (gi k1 (gi (ee ?_) (gi (ee ?_) (gi hu (gi (ee ?_) (gi (ee ?_) (gi ?_ (gi k3 (gi (ee ?_) (gi (ee ?_) rfl)))))))))),?_⟩
   ·simp[zP,hlen]
   all_goals first
    |(simp[zP,hlen];done)
    |(simp at k2 k4⊢;omega)
  ·rw[hp0]at hl;omega
theorem FD(e:ze):pJ e=Q3:=by
 unfold pJ;split
 ·rfl
 ·rename_i h;exact gi (Av 16 e 1 0 ow (by simpa[cW]using h)).1 rfl
theorem Kq(e:ze):(mQ e).1.length<=30000000:=by
 unfold mQ;split
 ·simp
 ·rename_i h;have:=(Av 16 e 1 0 ow (by simpa[cW]using h)).2;show(aO 16 e).length<=_;omega
theorem ye(p:Int->Bool):∀s:zA,cC p s<=s.length
 |[]=>by simp[cC]
 | c::r=>by
  have:=ye p r;rw[cC];split<;>simp<;>omega
theorem qy(f m:Int->Bool)(s:zA):aK f m s<=s.length:=by
 cases s with
 |nil=>simp[aK]
 | cons c r=>
  have:=ye m r;rw[aK];split<;>simp<;>omega
theorem TI(i:Nat)(h:i<=4000000000):IntKind.i64.wrap (i:Int)=(i:Int):=by
 have:=zq (i-1) um;cases i with
 |zero=>rfl
 |succ i=>simpa using this
theorem py(i:Nat)(h:i<=4000000000):IntKind.i64.wrap ((i:Int)+1)=((i+1:Nat):Int):=zq i um
theorem nh:∀(n:Nat)(s:zA)(i:Nat)(a:Int)(b:zA),1<=i->i<=s.length->s.length+2<=n+i->s.length<=1000000000->iQ n s (i:Int) a b=Q3
 |0,s,i,a,b,h1,h2,h3,h4=>by omega
 | n + 1,s,i,a,b,h1,h2,h3,h4=>by
  rw[iQ];split
  ·rename_i hlt;have hlt:i<s.length:=by have:=kW hlt;omega
   refine gi (zu hlt) ?_;rw[py i ow];split
   ·exact nh n s (i+1) a b ow ow ow h4
   ·refine gi ?_ ?_
    ·cases hd:Q0 (((i+1:Nat):Int)<(s.length:Int))
     ·rfl
     ·exact zu (by have:=kW hd;omega)
    ·split
     ·rename_i hh;have h5:i+1<s.length:=by
       cases hd:Q0 (((i+1:Nat):Int)<(s.length:Int))
       ·rw[hd]at hh;simp at hh
       ·have:=kW hd;omega
      rw[py (i+1) ow];exact nh n s (i+1+1) a b ow ow ow h4
     ·refine gi ?_ (gi ?_ rfl)
      ·simp;omega
      ·unfold ul;simp;omega
  ·rfl
theorem sx:∀(n:Nat)(s:zA)(i:Nat)(a:Int)(b:zA),1<=i->i<=s.length->s.length+2<=n+i->s.length<=1000000000->
  (eL n s (i:Int) a b=((0,[]),0))\/∃k:Nat,(eL n s (i:Int) a b).2=(k:Int)/\1<=k/\k<=s.length
 |0,s,i,a,b,h1,h2,h3,h4=>by omega
 | n + 1,s,i,a,b,h1,h2,h3,h4=>by
  rw[eL];split
  ·rename_i hlt;have hlt:i<s.length:=by have:=kW hlt;omega
   rw[py i ow];split
   ·exact sx n s (i+1) a b ow ow ow h4
   ·split
    ·rename_i hh;have h5:i+1<s.length:=by
      cases hd:Q0 (((i+1:Nat):Int)<(s.length:Int))
      ·rw[hd]at hh;simp at hh
      ·have:=kW hd;omega
     rw[py (i+1) ow];exact sx n s (i+1+1) a b ow ow ow h4
    ·exact .inr ⟨i+1,rfl,ow,ow⟩
  ·exact .inl rfl
theorem Ha(t:Sem bS):qF t=Q3:=by
 unfold qF;split
 ·rfl
 ·split
  ·refine gi ?_ rfl;cases h:((t.2.length:Int)==1)
   ·rfl
   ·have:(t.2.length:Int)=1:=by simpa using h
    simp only[ag,aX];omega
  ·simp
theorem CG(s:zA)(h0:s≠[])(h1:s.length<=1000000000):j6 s=Q3:=by
 have hl:1<=s.length:=by cases s with|nil=>exact absurd rfl h0|cons _ _=>simp
 have r1:=qy aH bn s;have r2:=qy zT zT s;have hq:jO s=Q3:=nh (s.length+1) s 1 _ _ ow hl ow h1;have hb:zP 0 s.length=Q3:=zu hl;have d1:(Q0 ((0:Int)<=0)&&Q0 (0<=(↑(aK aH bn s):Int))&&Q0 ((↑(aK aH bn s):Int)<=(↑(length s):Int)))=Q3:=by simp;omega
 have d2:(Q0 ((0:Int)<=0)&&Q0 (0<=(↑(aK zT zT s):Int))&&Q0 ((↑(aK zT zT s):Int)<=(↑(length s):Int)))=Q3:=by simp;omega
 have d3:(Q0 ((0:Int)<=0)&&Q0 ((0:Int)<=1)&&Q0 (1<=(↑(length s):Int)))=Q3:=by simp;omega
 unfold j6;simp only[hq,hb,if_true,zG,if_false];repeat' split
 all_goals first
  |rfl
  |(rename_i h;exfalso;apply h;simp;omega)
theorem uJ(s:zA)(h0:s≠[])(h1:s.length<=1000000000)(hm:bV (bv s).1=Q3):∃k:Nat,(bv s).2=(k:Int)/\1<=k/\k<=s.length:=by
 have hl:1<=s.length:=by cases s with|nil=>exact absurd rfl h0|cons _ _=>simp
 have r1:=qy aH bn s;have r2:=qy zT zT s;have hq:=sx (s.length+1) s 1 0 [] ow hl ow h1;unfold bv at hm⊢;simp only[if_true,zG,if_false]at hm⊢;split
 ·rename_i h;have:=kW h;exact⟨_,rfl,ow,ow⟩
 ·rename_i h;rw[if_neg h]at hm;split
  ·rename_i h2;have:=kW h2;exact⟨_,rfl,ow,ow⟩
  ·rename_i h2;rw[if_neg h2]at hm;split
   ·rename_i h3;rw[if_pos h3]at hm;rcases hq with hq|⟨k,hk,hk1,hk2⟩
    ·exfalso;have hqq:dT s=((0,[]),0):=hq;rw[hqq]at hm;revert hm;decide
    ·exact⟨k,hk,hk1,hk2⟩
   ·exact⟨1,rfl,ow,ow⟩
theorem uY:∀(n:Nat)(s:zA)(i:Nat)(l:List (Sem zr)),i<=s.length->s.length+1<=n+i->s.length<=1000000000->l.length<=400->rM n s (i:Int) l=true
 |0,s,i,l,h1,h2,h3,h4=>by omega
 | n + 1,s,i,l,h1,h2,h3,h4=>by
  rw[rM];split
  ·rename_i hlt;have hlt:i<s.length:=by have:=kW hlt;omega
   have e1:Qg ((s.length:Int).toNat-(i:Int).toNat) (Qh (i:Int).toNat s)=s.drop i:=by
    simp only[aJ];exact LY sw
   rw[e1];refine gi ?_ ?_
   ·rw[zu hlt];cases(((s.getD (i:Int).toNat 0).toNat:Int)==32)<;>rfl
   ·split
    ·rw[py i ow];exact uY n s (i+1) l ow ow h3 h4
    ·have hne:s.drop i≠[]:=by
      intro h;have:=congrArg length h;simp at this;omega
     have hdl:(s.drop i).length<=1000000000:=by simp;omega
     refine gi ?_ (gi (CG _ hne hdl) (gi (Ha _) ?_))
     ·simp;omega
     ·split
      ·rfl
      ·rename_i hh;have hm:bV (bv (s.drop i)).1=Q3:=by
        cases hq:bV (bv (s.drop i)).1
        ·rw[hq]at hh;simp at hh
        ·rfl
       have hl4:l.length≠400:=by
        intro h5;rw[hm,h5]at hh;simp at hh
       obtain⟨k,hk,hk1,hk2⟩:=uJ _ hne hdl hm;have hk3:k<=s.length-i:=by simpa using hk2
       refine gi (ee ?_) ?_
       ·simp;omega
       ·rw[hk,show((i:Int)+(k:Int))=((i+k:Nat):Int) by omega,TI (i+k) ow];exact uY n s (i+k) _ ow ow h3 sg
  ·rfl
theorem PY(s:zA)(h:s.length<=1000000000):PX s=Q3:=uY (s.length+1) s 0 [] ow ow h sw
structure lC (s:Sem zk):Prop where
 op:s.1.length<=1000
 table:s.2.1.length<=1000
 other:s.2.2.1.length<=1000
 names:s.2.2.2.1.length<=20/\∀x∈s.2.2.2.1,length x<=1000
 cols:s.t.1.length<=20/\∀x∈s.t.1,length x.1<=1000
 key:s.t.2.1.length<=1000
 uniques:s.t.q.1.length<=20/\∀x∈s.t.q.1,length x<=1000
 refs:s.t.q.2.1.length<=20/\∀x∈s.t.q.2.1,length x.1<=1000/\length x.2<=1000
 row:s.t.t.2.1.length<=20
 sets:s.t.t.q.1.length<=20/\∀x∈s.t.t.q.1,length x.1<=1000
 role:s.t.t.t.length<=1000
theorem tD(sep:zA)(B:Nat):∀l:List zA,(∀x∈l,x.length<=B)->(Lib.join l sep).length<=l.length*(B+sep.length)
 |[],_=>by simp[Lib.join,List.intercalate]
 | [x],h=>by
  rw[Lib.join_one];have:=h x sw;simp;omega
 | x::y::r,h=>by
  have ih:=tD sep B (y::r) (λz hz=>h z (sI _ hz));have hx:=h x sw;have e:Lib.join (x::y::r) sep=x++sep++Lib.join (y::r) sep:=by simp[Lib.join,List.intercalate,List.intersperse]
  rw[e];simp only[jD,fi]at ih⊢;rw[kc];omega
theorem oQ{α:Type}(p:α->Bool):∀(l:List α)(i:Nat),(!Q0 (ae p l i>=0))=Q3->∀x∈l,p x=Q4
 |[],_,_,x,hx=>by simp at hx
 | y::r,i,h,x,hx=>by
  rw[ae]at h;cases hy:p y
  ·rw[hy]at h;rcases ce.1 hx with rfl|hx
   ·exact hy
   ·exact oQ p r (i+1) (by simpa using h) x hx
  ·exfalso;rw[hy]at h;simp at h
   try omega
theorem Dg(e:ze):pA e=Q3:=gi (FD e) rfl
theorem xB(e:ze):(iu e).length<=30000000:=Kq e
theorem mK(s:zA)(h:s.length<=10)(e:ze):sU s e=Q3:=by
 unfold sU;have:=xB e;split
 ·rfl
 ·refine gi (ee ?_) (gi (Dg e) (gi (ee ?_) (gi (ee ?_) rfl)))
  all_goals(simp;omega)
theorem rK(s:zA)(h:s.length<=10)(e:ze):(kf s e).length<=30000030:=by
 unfold kf;have:=xB e;split
 ·simp
 ·simp;omega
theorem pi:∀(l:List (Sem Q6))(i:Int)(acc:List zA),dw l i acc=Lib.join (acc++l.map lv) [32,44,32]
 |[],i,acc=>by simp[dw]
 |x::r,i,acc=>by rw[dw,pi r];simp
theorem GR(B:Nat)(l:List (Sem Q6))(h:∀x∈l,(lv x).length<=B):(gm l).length<=l.length*(B+3):=by
 unfold gm;rw[pi];have:=tD [32,44,32] B ([]++l.map lv) (λy hy=>by
  simp only[Dw,bm]at hy;obtain⟨x,hx,rfl⟩:=hy;exact h x hx)
 simpa using this
theorem uA(B:Nat)(hB:B<=100000000):∀(l:List (Sem Q6))(i:Int)(acc:List zA),(∀x∈l,(lv x).length<=B)->(∀x∈acc,x.length<=B)->acc.length+l.length<=40->dO l i acc=Q3
 | [],i,acc,_,ha,hl=>by
  rw[dO];refine gi ?_ rfl;have h1:=tD [32,44,32] B acc ha;have h2:acc.length*(B+3)<=40*100000003:=DA (by simpa using hl) ow
  replace h1:(Lib.join acc [32,44,32]).length<=acc.length*(B+3):=h1
  simp only[aD,aN];simp at hl;exact⟨ow,ow⟩
 | x::r,i,acc,h,ha,hl=>by
  rw[dO];have hx:=h x sw;simp at hl;refine gi (ee ?_) ?_
  ·simp;omega
  ·refine uA B hB r (i+1) _ (λy hy=>h y (sI _ hy)) (λy hy=>?_) sg;rcases cK.1 hy with hy|hy
   ·exact ha y hy
   ·simp at hy;subst hy;exact hx
theorem eo{s:Sem zk}{g b:Bool}(hv:(tu s).val=if g=Q3 then some (.inr (.bool b,[]))else none):uv s=g/\eW s=(g&&b):=by
 unfold uv eW yJ al cT;rw[hv];cases g<;>cases b<;>exact⟨rfl,rfl⟩
theorem V4{x:zA}(o:x=[99,111,112,121]):(x==[99,114,101,97,116,101])=Q4/\(x==[100,114,111,112])=Q4/\(x==[105,110,115,101,114,116])=Q4/\(x==[117,112,100,97,116,101])=Q4/\(x==[100,101,108,101,116,101])=Q4/\(x==[115,101,108,101,99,116])=Q4/\(x==[114,101,97,100])=Q4/\(x==[119,114,105,116,101])=Q4/\(x==[117,110,114,101,97,100])=Q4/\(x==[117,110,119,114,105,116,101])=Q4/\(x==[99,111,112,121])=Q3:=by rw[o];exact⟨rfl,rfl,rfl,rfl,rfl,rfl,rfl,rfl,rfl,rfl,rfl⟩
theorem V5{x:zA}(o:x=[106,111,105,110]):(x==[99,114,101,97,116,101])=Q4/\(x==[100,114,111,112])=Q4/\(x==[105,110,115,101,114,116])=Q4/\(x==[117,112,100,97,116,101])=Q4/\(x==[100,101,108,101,116,101])=Q4/\(x==[115,101,108,101,99,116])=Q4/\(x==[114,101,97,100])=Q4/\(x==[119,114,105,116,101])=Q4/\(x==[117,110,114,101,97,100])=Q4/\(x==[117,110,119,114,105,116,101])=Q4/\(x==[99,111,112,121])=Q4/\(x==[106,111,105,110])=Q3:=by rw[o];exact⟨rfl,rfl,rfl,rfl,rfl,rfl,rfl,rfl,rfl,rfl,rfl,rfl⟩
theorem SF{x:zA}(o:x=[103,114,111,117,112]):(x==[99,114,101,97,116,101])=Q4/\(x==[100,114,111,112])=Q4/\(x==[105,110,115,101,114,116])=Q4/\(x==[117,112,100,97,116,101])=Q4/\(x==[100,101,108,101,116,101])=Q4/\(x==[115,101,108,101,99,116])=Q4/\(x==[114,101,97,100])=Q4/\(x==[119,114,105,116,101])=Q4/\(x==[117,110,114,101,97,100])=Q4/\(x==[117,110,119,114,105,116,101])=Q4/\(x==[99,111,112,121])=Q4/\(x==[106,111,105,110])=Q4/\(x==[103,114,111,117,112])=Q3:=by rw[o];exact⟨rfl,rfl,rfl,rfl,rfl,rfl,rfl,rfl,rfl,rfl,rfl,rfl,rfl⟩
abbrev jk(op:zA):Prop:=op=[99,111,112,121]\/op=[106,111,105,110]\/op=[103,114,111,117,112]
theorem fF{x:Sem zk}(h1:x.2.1.length<=1000)(h2:x.2.2.1.length<=1000)(h3:x.2.2.2.2.2.1.length<=1000)(h4:x.2.2.2.2.2.2.2.2.2.2.2.2.length<=1000):dY x=Q3:=by
 unfold dY;refine gi (ee ?_) (gi (ee ?_) (gi (ee ?_) rfl))
 all_goals first|omega|(simp;omega)
theorem Ak{c g:Bool}(h:g=Q3):(bif c then g else Q3)=Q3:=by cases c<;>simp[h]
def tC(s:Sem zk):zA:=[77,73,71,82,65,84,69,32]++[67,79,80,89]++[32]++s.2.1++[32,70,82,79,77,32]++s.2.2.1++[32,40,32]++gm s.2.2.2.1++[32,41]++kf [32] s.t.t.1
def tJ(s:Sem zk):zA:=[77,73,71,82,65,84,69,32]++[74,79,73,78]++[32]++s.2.1++[32,70,82,79,77,32]++s.2.2.1++[32,44,32]++s.t.t.t++[32,79,78,32]++s.t.2.1++kf [32] s.t.t.1
def tG(s:Sem zk):zA:=[77,73,71,82,65,84,69,32]++[71,82,79,85,80]++[32]++s.2.1++[32,70,82,79,77,32]++s.2.2.1++[32,66,89,32]++s.2.2.2.1.getD 0 []++[32,83,85,77,32]++s.2.2.2.1.getD 1 []++kf [32] s.t.t.1
theorem YP{s:Sem zk}(h:lC s)(o:s.1=[99,111,112,121]):(xf s).val=some (.inr (.str (tC s),[]))/\(tC s).length<=1000000000:=by
 obtain⟨p0,p1,p2,p3,p4,p5,p6,p7,p8,p9,p10⟩:=V4 o;have hU:Lib.toUpperA s.1=[67,79,80,89]:=by rw[o];rfl
 have ha:(Q0 (length s.1<=140737488355328)&&List.all s.1 λb=>Q0 (b.toNat<128))=Q3:=by rw[o];decide
 have ht:=h.table;have ho:=h.other;have hr:=h.role;have hk:=h.key;have hcC:=mK [32] sw s.t.t.1;have hcl:=rK [32] sw s.t.t.1;have hsC:my s.2.2.2.1=Q3:=uA 1000 ow s.2.2.2.1 0 [] h.names.2 sw (by have:=h.names.1;simp;omega);have hsl:=GR 1000 s.2.2.2.1 h.names.2;have hsl:(gm s.2.2.2.1).length<=20*1003:=cL hsl (DA h.names.1 ow);refine⟨?_,by unfold tC;simp only[jD,fi,nC];omega⟩;unfold tC;simp only[xf,Tr.val,zl,ha,hU,p0,p1,p2,p3,p4,p5,p6,p7,p8,p9,p10,hsC,hcC,if_true,zG,if_false]
 iterate 9 rw[if_pos (zt (by simp<;>omega))]
theorem YR{s:Sem zk}(h:lC s)(o:s.1=[106,111,105,110]):(xf s).val=some (.inr (.str (tJ s),[]))/\(tJ s).length<=1000000000:=by
 obtain⟨p0,p1,p2,p3,p4,p5,p6,p7,p8,p9,p10,p11⟩:=V5 o;have hU:Lib.toUpperA s.1=[74,79,73,78]:=by rw[o];rfl
 have ha:(Q0 (length s.1<=140737488355328)&&List.all s.1 λb=>Q0 (b.toNat<128))=Q3:=by rw[o];decide
 have ht:=h.table;have ho:=h.other;have hr:=h.role;have hk:=h.key;have hcC:=mK [32] sw s.t.t.1;have hcl:=rK [32] sw s.t.t.1;refine⟨?_,by unfold tJ;simp only[jD,fi,nC];omega⟩;unfold tJ;simp only[xf,Tr.val,zl,ha,hU,p0,p1,p2,p3,p4,p5,p6,p7,p8,p9,p10,p11,hcC,if_true,zG,if_false]
 iterate 10 rw[if_pos (zt (by simp<;>omega))]
theorem YQ{s:Sem zk}(h:lC s)(o:s.1=[103,114,111,117,112])(hl:s.2.2.2.1.length=2):(xf s).val=some (.inr (.str (tG s),[]))/\(tG s).length<=1000000000:=by
 obtain⟨p0,p1,p2,p3,p4,p5,p6,p7,p8,p9,p10,p11,_⟩:=SF o;have hU:Lib.toUpperA s.1=[71,82,79,85,80]:=by rw[o];rfl
 have ha:(Q0 (length s.1<=140737488355328)&&List.all s.1 λb=>Q0 (b.toNat<128))=Q3:=by rw[o];decide
 have ht:=h.table;have ho:=h.other;have hr:=h.role;have hk:=h.key;have hcC:=mK [32] sw s.t.t.1;have hcl:=rK [32] sw s.t.t.1;have n0:(s.2.2.2.1.getD 0 []).length<=1000:=by
  rw[aY,zQ ow,dn];exact h.names.2 _ (bC _)
 have n1:(s.2.2.2.1.getD 1 []).length<=1000:=by
  rw[aY,zQ ow,dn];exact h.names.2 _ (bC _)
 have i0:zP 0 (length s.2.2.2.1)=Q3:=by rw[hl];rfl
 have i1:zP 1 (length s.2.2.2.1)=Q3:=by rw[hl];rfl
 have g0:getD s.2.2.2.1 (Int.toNat 0) (zi Q6)=s.2.2.2.1.getD 0 []:=rfl;have g1:getD s.2.2.2.1 (Int.toNat 1) (zi Q6)=s.2.2.2.1.getD 1 []:=rfl;refine⟨?_,by unfold tG;simp only[jD,fi,nC];omega⟩;unfold tG;simp only[xf,Tr.val,zl,ha,hU,p0,p1,p2,p3,p4,p5,p6,p7,p8,p9,p10,p11,g0,g1,i0,i1,hcC,if_true,zG,if_false];generalize s.2.2.2.1.getD 0 []=a0 at n0;generalize s.2.2.2.1.getD 1 []=a1 at n1
 iterate 10 rw[if_pos (zt (by simp<;>omega))]
theorem ir{s:Sem zk}{t:zA}(h:(xf s).val=some (.inr (.str t,[]))/\t.length<=1000000000):Ck s=Q3/\iq s=t:=by
 unfold Ck iq GJ al cT;rw[h.1];exact⟨rfl,rfl⟩
theorem GI{s:Sem zk}(hs:lC s)(hm:jk s.1):uv s=Q3:=by
 have t2:=hs.other;have t3:=hs.key;have t4:=hs.role;rcases hm with o|o|o
 ·obtain⟨p0,p1,p2,p3,p4,p5,p6,p7,p8,p9,p10⟩:=V4 o;obtain⟨hc,_⟩:=eo (s:=s) (g:=_) (b:=_) (by simp only[tu,Tr.val,p0,p1,p2,p3,p4,p5,p6,p7,p8,p9,p10,if_true,if_false,zG,zl];exact rfl);rw[hc];exact Ak (fF (by simp) (by first|exact t2|simp) (by first|exact t3|simp) (by first|exact t4|simp))
 ·obtain⟨p0,p1,p2,p3,p4,p5,p6,p7,p8,p9,p10,p11⟩:=V5 o;obtain⟨hc,_⟩:=eo (s:=s) (g:=_) (b:=_) (by simp only[tu,Tr.val,p0,p1,p2,p3,p4,p5,p6,p7,p8,p9,p10,p11,if_true,if_false,zG,zl];exact rfl);rw[hc];exact Ak (fF (by simp) (by first|exact t2|simp) (by first|exact t3|simp) (by first|exact t4|simp))
 ·obtain⟨p0,p1,p2,p3,p4,p5,p6,p7,p8,p9,p10,p11,p12⟩:=SF o;obtain⟨hc,_⟩:=eo (s:=s) (g:=_) (b:=_) (by simp only[tu,Tr.val,p0,p1,p2,p3,p4,p5,p6,p7,p8,p9,p10,p11,p12,if_true,if_false,zG,zl];exact rfl);rw[hc];exact Ak (fF (by simp) (by first|exact t2|simp) (by first|exact t3|simp) (by first|exact t4|simp))
theorem lh{s:Sem zk}(h:eW s=Q3)(o:s.1=[103,114,111,117,112]):s.2.2.2.1.length=2:=by
 obtain⟨p0,p1,p2,p3,p4,p5,p6,p7,p8,p9,p10,p11,p12⟩:=SF o;obtain⟨_,hp⟩:=eo (s:=s) (g:=_) (b:=_) (by simp only[tu,Tr.val,p0,p1,p2,p3,p4,p5,p6,p7,p8,p9,p10,p11,p12,if_true,if_false,zG,zl];exact rfl);rw[hp]at h;by_cases hl:s.2.2.2.1.length=2
 ·exact hl
 ·exfalso;have hd:(bif Q0 ((s.2.2.2.1.length:Int)<2)then Q3 else Q0 ((s.2.2.2.1.length:Int)>2))=Q3:=by
   rcases Nat.lt_or_gt_of_ne hl with h2|h2
   ·have:Q0 ((s.2.2.2.1.length:Int)<2)=Q3:=zt ow;rw[this];rfl
   ·have:Q0 ((s.2.2.2.1.length:Int)>2)=Q3:=zt ow;rw[this];cases Q0 ((s.2.2.2.1.length:Int)<2)<;>rfl
  rw[hd]at h;cases h1:bL s.2.1<;>cases h2:bL s.2.2.1<;>rw[h1,h2]at h<;>simp at h
theorem JB{s:Sem zk}(hs:lC s)(hm:jk s.1):nu s=Q3:=by
 unfold nu;refine gi ?_ rfl;unfold uz;refine gi (GI hs hm) ?_;split
 ·rfl
 ·rename_i h;have hp:eW s=Q3:=by simpa using h
  have:Ck s=Q3/\(iq s).length<=1000000000:=by
   rcases hm with o|o|o
   ·have:=YP hs o;exact⟨(ir this).1,(ir this).2▸this.2⟩
   ·have:=YR hs o;exact⟨(ir this).1,(ir this).2▸this.2⟩
   ·have:=YQ hs o (lh hp o);exact⟨(ir this).1,(ir this).2▸this.2⟩
  exact gi this.1 (gi (PY _ this.2) rfl)
theorem CM:∀(es:List ((Int×Int×zA)×Int))(n:Nat)(x:Int),(jC es n x).length=es.length
 |[],_,_=>rfl
 |_::_,0,_=>rfl
 |_::r,n+1,x=>by simp[jC,CM r n x]
theorem TG(es:List ((Int×Int×zA)×Int))(k:Int×Int×zA):(jt es k).length<=es.length+1:=by
 unfold jt;cases mD es k<;>simp
theorem E4:∀(es:List ((Int×Int×zA)×Int))(k:Int×Int×zA),(mD es k=Q3->kR es k<es.length)/\kR es k<=es.length
 |[],k=>⟨λh=>by simp[mD]at h,aB _⟩
 | p::r,k=>by
  obtain⟨h1,h2⟩:=E4 r k;constructor
  ·intro h;rw[kR];cases hk:(k==p.1)with
   |true=>simp
   | false=>
    have:mD r k=Q3:=by simpa[mD,hk]using h
    have:=h1 this;simp;omega
  ·rw[kR];cases(k==p.1)<;>simp<;>omega
theorem WB(es:List ((Int×Int×zA)×Int))(k:Int×Int×zA):kR es k<(jt es k).length:=by
 obtain⟨h1,h2⟩:=E4 es k;unfold jt;cases h:mD es k with
 |true=>exact h1 h
 |false=>simp;omega
def CR(c:Int)(n:Nat):Prop:=0<=c/\c<n
theorem tw{c:Int}{n:Nat}(h:CR c n):zP c n=Q3:=by
 simp[zP,h.1,h.2]
theorem oN(x:Int)(n:Nat):vR x n=Q3↔CR x n:=by
 unfold CR vR;by_cases h:x>=0
 ·rw[zt h];simp;omega
 ·rw[ah h];simp;omega
theorem ws{α:Type}{l:List α}{d:α}{p:α->Bool}:((List.range l.length).all λi=>p (l.getD i d))=Q3↔∀x∈l,p x=Q3:=by
 rw[dU];constructor
 ·intro h x hx;obtain⟨i,hi,rfl⟩:=gY hx;have:=h i (ou.2 hi)
  rwa [aY,zQ hi]at this
 ·intro h i hi;have hi:=ou.1 hi;rw[aY,zQ hi];exact h _ (bC hi)
theorem Jn{t:Sem zo}:(List.range (length t.t.1)).all (Wj t)=Q3↔∀f∈t.t.1,CR f.1 (length t.2.1)/\zK f.2=Q3:=by
 have h:=ws (l:=t.t.1) (d:=zi zr) (p:=λf:Sem zr=>vR f.1 (length t.2.1)&&zK f.2);simp only[aD,oN]at h;exact h
theorem gP{t:Sem zo}(h:eG t=Q3):CR t.2.2.1 t.2.1.length/\(∀f∈t.t.1,CR f.1 t.2.1.length)/\(∀u∈t.2.2.2.1,CR u t.2.1.length)/\t.2.1.length<=8/\1<=t.2.1.length:=by
 have h8:=Mz h;unfold eG at h;simp only[aD,oN]at h;obtain⟨h0,_,h2,h3,h4,_⟩:=h;have h3:=Jn.1 h3;have h2:=(ws (l:=t.2.2.2.1) (d:=zi zg) (p:=λu=>vR u (length t.2.1))).1 h2;simp only[oN]at h2;refine⟨h4,λf hf=>(h3 f hf).1,h2,h8,?_⟩;cases hn:zK t.1
 ·rw[hn]at h0;simp at h0
 ·rw[hn]at h0;simp at h0;omega
theorem AX{t:Sem zo}{row:List (Sem zf)}(h:(dX t row !=0)≠Q3):row.length=t.2.1.length:=by
 simp at h;unfold dX at h;split at h
 ·cases h
 ·rename_i h1;cases hm:eG t with
  |false=>rw[hm]at h1;simp at h1
  | true=>
   rw[hm]at h1;simp at h1;omega
end
end Cad
