/- The document's reader: cut; names. The document's writer: creates; columns, sources. The document's writer. The document's statements: texts. -/
import Derived.Test.YtkmcdhahdadkpaaGreatDoorK11
import Derived.Test.YtkmcdhahdadkpaaGreatDoorK08
import Derived.Shelf.GgClosure.StringsIndexFunc
import Derived.Lib.DecodeN
import Derived.Test.YtkmcdhahdadkpaaGreatDoorK10
namespace Cad
open Go Go.Proofs
open List renaming drop→Qh,take→Qg
open AV renaming tup→Qe,agg→Qd,nils→Qb
open Tr renaming chk→Qc,«to»→Q9
open AO renaming box→Qa
open Sh renaming bool→Q7,str→Q6,expr→Q5
open Bool renaming false→Q4,true→Q3
open Decidable renaming decide→Q0
open List (getD length)
open Tr (chk br re)
open AV (nils agg tup ptr kb str sl)
noncomputable section
set_option maxHeartbeats 4000000
abbrev zim:=lV [(3,[0,4,5]),(11,[0,4,5,6,7,8]),(15,[0,4,5,6,7,8]),(20,[0,4,5,8])]
inductive eb where
 |h3 (s0:TS) (i5:Int)
 |h11 (s0:TS) (i5:Int) (i6:Int) (i7:Int) (z0:zn [CP.d zr])
 |h15 (s0:TS) (i5:Int) (i6:Int) (i7:Int) (z0:zn [CP.d zr])
 |h20 (s0:TS) (i5:Int) (z0:zn [CP.d zr])
 |h3b (s0:TS) (i5:Int) (lh_0:LF)
 |h11b (s0:TS) (i5:Int) (i6:Int) (i7:Int) (z1:zn [CP.d zr]) (lh_0:LF)
 |h15b (s0:TS) (i5:Int) (i6:Int) (i7:Int) (z1:zn [CP.d zr]) (lh_0:LF)
 |h20b (s0:TS) (i5:Int) (z1:zn [CP.d zr]) (lh_0:LF)
abbrev zkS:eb->Nat×St
 |.h3 s0 i5=>(3,⟨tm 131 [(0,str s0),(4,Qb),(5,ai i5)],[]⟩)
 |.h11 s0 i5 i6 i7 z0=>(11,⟨tm 131 [(0,str s0),(4,Qb),(5,ai i5),(6,AV.int IntKind.u8 i6),(7,ai i7),(8,ptr 0 0)],[Qa (bC [] [CP.d zr] z0)]⟩)
 |.h15 s0 i5 i6 i7 z0=>(15,⟨tm 131 [(0,str s0),(4,Qb),(5,ai i5),(6,AV.int IntKind.u8 i6),(7,ai i7),(8,ptr 0 0)],[Qa (bC [] [CP.d zr] z0)]⟩)
 |.h20 s0 i5 z0=>(20,⟨tm 131 [(0,str s0),(4,Qb),(5,ai i5),(8,ptr 0 0)],[Qa (bC [] [CP.d zr] z0)]⟩)
 |.h3b s0 i5 lh_0=>(3,⟨tm 131 [(0,str s0),(4,AV.vec 0),(5,ai i5)],[AO.vec zr lh_0]⟩)
 |.h11b s0 i5 i6 i7 z1 lh_0=>(11,⟨tm 131 [(0,str s0),(4,AV.vec 0),(5,ai i5),(6,AV.int IntKind.u8 i6),(7,ai i7),(8,ptr 1 0)],[AO.vec zr lh_0,Qa (bC [] [CP.d zr] z1)]⟩)
 |.h15b s0 i5 i6 i7 z1 lh_0=>(15,⟨tm 131 [(0,str s0),(4,AV.vec 0),(5,ai i5),(6,AV.int IntKind.u8 i6),(7,ai i7),(8,ptr 1 0)],[AO.vec zr lh_0,Qa (bC [] [CP.d zr] z1)]⟩)
 |.h20b s0 i5 z1 lh_0=>(20,⟨tm 131 [(0,str s0),(4,AV.vec 0),(5,ai i5),(8,ptr 1 0)],[AO.vec zr lh_0,Qa (bC [] [CP.d zr] z1)]⟩)
def zl1(x0:TS):Tr (eb⊕ar):=
 Q9 (eb.h3 x0 0)
def cM:eb->Tr (eb⊕ar)
 | .h3 s0 i5=>
  let a0:=(↑(getD s0 i5.toNat 0).toNat:Int)
  let a1:=IntKind.i64.wrap (i5+1)
  let a2:=Qg (a1.toNat-i5.toNat) (Qh i5.toNat s0)
  let a3:=((4,a2),())
  let a4:=(4,a2)
  let a5:=[a4]
  br (Q0 (i5<(↑(length s0):Int)))
  (Qc (zN i5 (length s0))
   (br (bif a0==32 then Q3 else a0==10) (Q9 (eb.h3 s0 a1)) (Qc (Q0 (0<=i5)&&Q0 (i5<=a1)&&Q0 (a1<=(↑(length s0):Int))) (Qc (kf a0) (br (mz a0) (Q9 (eb.h11 s0 a1 a0 i5 a3)) (Qc (fC a0) (br (gG a0) (Q9 (eb.h15 s0 a1 a0 i5 a3)) (br (a0==39) (Q9 (eb.h20 s0 a1 ((3,[]),()))) (Qc (iy a4)
   (br (!lB a4) (re (Qe [Qb,kb Q4]) []) (Qc (Q0 (a5.length<=1073741824)) (Q9 (eb.h3b s0 a1 a5)))))))))))))
  (re (Qe [Qb,AV.bool Q3]) [])
 | .h11 s0 i5 i6 i7 z0=>
  let a0:=Q0 (i5<(↑(length s0):Int))
  let a1:=(↑(getD s0 i5.toNat 0).toNat:Int)
  let a2:=Qg (i5.toNat-i7.toNat) (Qh i7.toNat s0)
  let a3:=(1,a2)
  let a4:=[a3]
  Qc (bif a0 then zN i5 (length s0)&&qA a1 else Q3)
  (br (bif a0 then wu a1 else Q4) (Q9 (eb.h11 s0 (IntKind.i64.wrap (i5+1)) i6 i7 z0))
   (Qc (Q0 (0<=i7)&&Q0 (i7<=i5)&&Q0 (i5<=(↑(length s0):Int))) (Qc (fC i6) (br (gG i6) (Q9 (eb.h15 s0 i5 i6 i7 ((1,a2),()))) (br (i6==39) (Q9 (eb.h20 s0 i5 ((3,[]),()))) (Qc (iy a3) (br (!lB a3) (re (Qe [Qb,kb Q4]) []) (Qc (Q0 (a4.length<=1073741824)) (Q9 (eb.h3b s0 i5 a4))))))))))
 | .h15 s0 i5 i6 i7 z0=>
  let a0:=Q0 (i5<(↑(length s0):Int))
  let a1:=(↑(getD s0 i5.toNat 0).toNat:Int)
  let a2:=(2,Qg (i5.toNat-i7.toNat) (Qh i7.toNat s0))
  let a3:=[a2]
  Qc (bif a0 then zN i5 (length s0)&&fC a1 else Q3)
  (br (bif a0 then gG a1 else Q4) (Q9 (eb.h15 s0 (IntKind.i64.wrap (i5+1)) i6 i7 z0))
   (Qc (Q0 (0<=i7)&&Q0 (i7<=i5)&&Q0 (i5<=(↑(length s0):Int))) (br (i6==39) (Q9 (eb.h20 s0 i5 ((3,[]),()))) (Qc (iy a2) (br (!lB a2) (re (Qe [Qb,kb Q4]) []) (Qc (Q0 (a3.length<=1073741824)) (Q9 (eb.h3b s0 i5 a3))))))))
 | .h20 s0 i5 z0=>
  let a0:=Q0 (i5<(↑(length s0):Int))
  let a1:=(↑(getD s0 i5.toNat 0).toNat:Int)
  let a2:=a1 !=39
  let a3:=IntKind.i64.wrap (i5+1)
  let a4:=Q0 (a3<(↑(length s0):Int))
  let a5:=Qg (a3.toNat-i5.toNat) (Qh i5.toNat s0)
  let a6:=((z0.1.1,z0.1.2++a5),())
  Qc (bif a0 then zN i5 (length s0)&&bif a2 then Q3 else bif a4 then zN a3 (length s0)else Q3 else Q3)
  (br (bif a0 then bif a2 then Q3 else bif a4 then(↑(getD s0 a3.toNat 0).toNat:Int)==39 else Q4 else Q4)
   (Qc (Q0 (0<=i5)&&Q0 (i5<=a3)&&Q0 (a3<=(↑(length s0):Int))) (Qc (Q0 (length z0.1.2+a5.length<=1099511627776)) (Qc (zN i5 (length s0)) (br (a1==39) (Q9 (eb.h20 s0 (IntKind.i64.wrap (a3+1)) a6)) (Q9 (eb.h20 s0 a3 a6))))))
   (br (Q0 (i5>=(↑(length s0):Int))) (re (Qe [Qb,kb Q4]) []) (Qc (iy z0.1) (br (!lB z0.1) (re (Qe [Qb,kb Q4]) []) (Qc (Q0 ([z0.1].length<=1073741824)) (Q9 (eb.h3b s0 a3 [z0.1])))))))
 | .h3b s0 i5 lh_0=>
  let a0:=(↑(getD s0 i5.toNat 0).toNat:Int)
  let a1:=IntKind.i64.wrap (i5+1)
  let a2:=Qg (a1.toNat-i5.toNat) (Qh i5.toNat s0)
  let a3:=((4,a2),())
  let a4:=(4,a2)
  let a5:=[a4]
  br (Q0 (i5<(↑(length s0):Int)))
  (Qc (zN i5 (length s0))
   (br (bif a0==32 then Q3 else a0==10) (Q9 (eb.h3b s0 a1 lh_0)) (Qc (Q0 (0<=i5)&&Q0 (i5<=a1)&&Q0 (a1<=(↑(length s0):Int))) (Qc (kf a0) (br (mz a0) (Q9 (eb.h11b s0 a1 a0 i5 a3 lh_0)) (Qc (fC a0) (br (gG a0) (Q9 (eb.h15b s0 a1 a0 i5 a3 lh_0)) (br (a0==39) (Q9 (eb.h20b s0 a1 ((3,[]),()) lh_0))
   (Qc (iy a4) (br (!lB a4) (re (Qe [Qb,kb Q4]) []) (Qc (Q0 (lh_0.length+a5.length<=1073741824)) (Q9 (eb.h3b s0 a1 (lh_0++a5))))))))))))))
  (re (Qe [AV.vec 0,AV.bool (Q0 ((↑lh_0.length:Int)<=400))]) [AO.vec zr lh_0])
 | .h11b s0 i5 i6 i7 z1 lh_0=>
  let a0:=Q0 (i5<(↑(length s0):Int))
  let a1:=(↑(getD s0 i5.toNat 0).toNat:Int)
  let a2:=Qg (i5.toNat-i7.toNat) (Qh i7.toNat s0)
  let a3:=(1,a2)
  let a4:=[a3]
  Qc (bif a0 then zN i5 (length s0)&&qA a1 else Q3)
  (br (bif a0 then wu a1 else Q4) (Q9 (eb.h11b s0 (IntKind.i64.wrap (i5+1)) i6 i7 z1 lh_0))
   (Qc (Q0 (0<=i7)&&Q0 (i7<=i5)&&Q0 (i5<=(↑(length s0):Int))) (Qc (fC i6) (br (gG i6) (Q9 (eb.h15b s0 i5 i6 i7 ((1,a2),()) lh_0)) (br (i6==39) (Q9 (eb.h20b s0 i5 ((3,[]),()) lh_0)) (Qc (iy a3) (br (!lB a3) (re (Qe [Qb,kb Q4]) [])
   (Qc (Q0 (lh_0.length+a4.length<=1073741824)) (Q9 (eb.h3b s0 i5 (lh_0++a4)))))))))))
 | .h15b s0 i5 i6 i7 z1 lh_0=>
  let a0:=Q0 (i5<(↑(length s0):Int))
  let a1:=(↑(getD s0 i5.toNat 0).toNat:Int)
  let a2:=(2,Qg (i5.toNat-i7.toNat) (Qh i7.toNat s0))
  let a3:=[a2]
  Qc (bif a0 then zN i5 (length s0)&&fC a1 else Q3)
  (br (bif a0 then gG a1 else Q4) (Q9 (eb.h15b s0 (IntKind.i64.wrap (i5+1)) i6 i7 z1 lh_0))
   (Qc (Q0 (0<=i7)&&Q0 (i7<=i5)&&Q0 (i5<=(↑(length s0):Int))) (br (i6==39) (Q9 (eb.h20b s0 i5 ((3,[]),()) lh_0)) (Qc (iy a2) (br (!lB a2) (re (Qe [Qb,kb Q4]) []) (Qc (Q0 (lh_0.length+a3.length<=1073741824)) (Q9 (eb.h3b s0 i5 (lh_0++a3)))))))))
 | .h20b s0 i5 z1 lh_0=>
  let a0:=Q0 (i5<(↑(length s0):Int))
  let a1:=(↑(getD s0 i5.toNat 0).toNat:Int)
  let a2:=a1 !=39
  let a3:=IntKind.i64.wrap (i5+1)
  let a4:=Q0 (a3<(↑(length s0):Int))
  let a5:=Qg (a3.toNat-i5.toNat) (Qh i5.toNat s0)
  let a6:=((z1.1.1,z1.1.2++a5),())
  Qc (bif a0 then zN i5 (length s0)&&bif a2 then Q3 else bif a4 then zN a3 (length s0)else Q3 else Q3)
  (br (bif a0 then bif a2 then Q3 else bif a4 then(↑(getD s0 a3.toNat 0).toNat:Int)==39 else Q4 else Q4)
   (Qc (Q0 (0<=i5)&&Q0 (i5<=a3)&&Q0 (a3<=(↑(length s0):Int))) (Qc (Q0 (length z1.1.2+a5.length<=1099511627776)) (Qc (zN i5 (length s0)) (br (a1==39) (Q9 (eb.h20b s0 (IntKind.i64.wrap (a3+1)) a6 lh_0)) (Q9 (eb.h20b s0 a3 a6 lh_0))))))
   (br (Q0 (i5>=(↑(length s0):Int))) (re (Qe [Qb,kb Q4]) []) (Qc (iy z1.1) (br (!lB z1.1) (re (Qe [Qb,kb Q4]) []) (Qc (Q0 (lh_0.length+[z1.1].length<=1073741824)) (Q9 (eb.h3b s0 a3 (lh_0++[z1.1]))))))))
def GM(x0:TS):=ao [zr.sl,Q7] cM 100000000 (zl1 x0)
def GL(x0:TS):=(GM x0).isSome
def xw(x0:TS):=o2 (GM x0)
def ze7:=FT [Q6] [zr.sl,Q7] λx=>GM x.1
theorem zbd:FK 75 ze7:=pN.T1 (f:=Tryz.f75) (keep:=zim) (e:=zkS)
def IF(x0:Sem Q5)(x1:TS):Tr (Empty⊕ar):=
 let a0:=x1++[32,67,72,69,67,75,32,40,32]
 let a1:=a0++pi (zm x0)
 br (zf.op x0==[])
 (Qc (gE (zm x0) (zf.mk [] (0,0,[]) [] [])) (re (Qe [str [],AV.bool (eW (zm x0) (zf.mk [] (0,0,[]) [] []))]) []))
 (Qc (wo (zm x0))
  (br (!EU (zm x0)) (re (Qe [str [],kb Q4]) []) (br (x1==[87,72,69,82,69]) (Qc (qr (zm x0)) (Qc (Q0 ([32,87,72,69,82,69,32].length+length (pi (zm x0))<=1099511627776)) (re (Qe [str ([32,87,72,69,82,69,32]++pi (zm x0)),kb Q3]) [])))
  (Qc (Q0 (length x1+[32,67,72,69,67,75,32,40,32].length<=1099511627776)) (Qc (qr (zm x0)) (Qc (Q0 (length a0+length (pi (zm x0))<=1099511627776)) (Qc (Q0 (length a1+[32,41].length<=1099511627776)) (re (Qe [str (a1++[32,41]),kb Q3]) []))))))))
def yK(x0:Sem Q5)(x1:TS):=ao [Q6,Q7] t0 100000000 (IF x0 x1)
def un(x0:Sem Q5)(x1:TS):=(yK x0 x1).isSome
def Ce(x0:Sem Q5)(x1:TS):=o2 (yK x0 x1)
def XJ:=FT [Q5,Q6] [Q6,Q7] λx=>yK x.1 x.2.1
theorem UW:FK 115 XJ:=pN.T1 (f:=Tryz.f115) (keep:=k0) (e:=e0)
abbrev zcB:=lV [(3,[0,4,5])]
inductive Af where
 |h3 (l0:LS) (s4:List UInt8) (i5:Int)
abbrev zgK:Af->Nat×St
 |.h3 l0 s4 i5=>(3,⟨tm 37 [(0,sl Q6 l0),(4,str s4),(5,ai i5)],[]⟩)
def zhl(x0:Sem Sh.str.sl):Tr (Af⊕ar):=
 Q9 (Af.h3 x0 [] 0)
def CF:Af->Tr (Af⊕ar)
 | .h3 l0 s4 i5=>
  let a0:=l0.getD i5.toNat (zi Q6)
  let a1:=s4++[32,44,32]
  let a2:=IntKind.i64.wrap (i5+1)
  let a3:=Q0 (1<=(↑l0.length:Int))
  br (Q0 (i5<(↑l0.length:Int)))
  (Qc (zN i5 l0.length)
   (Qc (dD a0) (br (!bp a0) (re (Qe [str [],kb Q4]) []) (br (Q0 (i5>0)) (Qc (Q0 (s4.length+[32,44,32].length<=1099511627776)) (Qc (zN i5 l0.length) (Qc (Q0 (length a1+length a0<=1099511627776)) (Q9 (Af.h3 l0 (a1++a0) a2)))))
   (Qc (zN i5 l0.length) (Qc (Q0 (s4.length+length a0<=1099511627776)) (Q9 (Af.h3 l0 (s4++a0) a2))))))))
  (re (Qe [str (bif a3 then s4 else s4),AV.bool (bif a3 then Q0 ((↑l0.length:Int)<=8)else Q4)]) [])
def uo(x0:Sem Sh.str.sl):=ao [Q6,Q7] CF 100000000 (zhl x0)
def Cf(x0:Sem Sh.str.sl):=(uo x0).isSome
def GQ(x0:Sem Sh.str.sl):=o2 (uo x0)
def XN:=FT [Sh.str.sl] [Q6,Q7] λx=>uo x.1
theorem U3:FK 119 XN:=pN.T1 (f:=Tryz.f119) (keep:=zcB) (e:=zgK)
def YE:=YD.addL [(75,ze7),(115,XJ),(119,XN)]
theorem me:zx YE:=pN.addL<|fc zbd<|fc UW<|fc U3 iV
abbrev zcz:=lV [(4,[1,4,5,6]),(15,[1,4,5,8]),(20,[1,4,5,9])]
inductive ot where
 |h4 (b4:Bool) (s5:zB) (i6:Int) (z0:zn [CP.d zl])
 |h15 (b4:Bool) (s5:zB) (i8:Int) (z0:zn [CP.d zl])
 |h20 (b4:Bool) (s5:zB) (i9:Int) (z0:zn [CP.d zl])
abbrev zgI:ot->Nat×St
 |.h4 b4 s5 i6 z0=>(4,⟨tm 174 [(1,ptr 0 0),(4,AV.bool b4),(5,str s5),(6,ai i6)],[Qa (bC [] [CP.d zl] z0)]⟩)
 |.h15 b4 s5 i8 z0=>(15,⟨tm 174 [(1,ptr 0 0),(4,AV.bool b4),(5,str s5),(8,ai i8)],[Qa (bC [] [CP.d zl] z0)]⟩)
 |.h20 b4 s5 i9 z0=>(20,⟨tm 174 [(1,ptr 0 0),(4,AV.bool b4),(5,str s5),(9,ai i9)],[Qa (bC [] [CP.d zl] z0)]⟩)
def RQ(x0:Sem zl):Tr (ot⊕ar):=
 let a0:=[67,82,69,65,84,69,32,84,65,66,76,69,32]++x0.2.1
 let a1:=(↑(length x0.t.1):Int)
 let a2:=(↑(length x0.t.q.1):Int)
 let a3:=(↑(length x0.t.q.2.1):Int)
 Qc (dD x0.t.2.1)
 (Qc (Q0 ([67,82,69,65,84,69,32,84,65,66,76,69,32].length+length x0.2.1<=1099511627776))
  (Qc (Q0 (length a0+[32,40,32].length<=1099511627776)) (Q9 (ot.h4 (bif bp x0.t.2.1 then bif Q0 (1<=a1)then bif Q0 (a1<=8)then bif Q0 (a2<=8)then Q0 (a3<=8)else Q4 else Q4 else Q4 else Q4) (a0++[32,40,32]) 0 (x0,())))))
def fk:ot->Tr (ot⊕ar)
 | .h4 b4 s5 i6 z0=>
  let a0:=(↑(length z0.1.t.1):Int)
  let a1:=getD z0.1.t.1 i6.toNat (zi zj)
  let a2:=a1.1++[32]
  let a3:=[[],[73,78,84],[84,69,88,84],[66,79,79,76]].getD (Int.toNat a1.2.1) (zi Q6)
  let a4:=a2++a3
  let a5:=s5++a4
  let a6:=a5++[32,78,79,84,32,78,85,76,76]
  let a7:=IntKind.i64.wrap (i6+1)
  let a8:=[75,69,89,32,40,32]++z0.1.t.2.1
  let a9:=a8++[32,41]
  br (Q0 (i6<a0))
  (Qc (zN i6 (length z0.1.t.1))
   (Qc (dD a1.1) (br (bif !bp a1.1 then Q3 else bif Q0 (a1.2.1<1)then Q3 else Q0 (a1.2.1>3)) (re (Qe [str [],kb Q4]) []) (Qc (Q0 (length a1.1+[32].length<=1099511627776)) (Qc (zN a1.2.1 [[],[73,78,84],[84,69,88,84],[66,79,79,76]].length) (Qc (Q0 (length a2+length a3<=1099511627776))
   (Qc (Q0 (length s5+length a4<=1099511627776)) (br a1.2.2 (Qc (Q0 (length a5+[32,78,79,84,32,78,85,76,76].length<=1099511627776)) (Qc (Q0 (length a6+[32,44,32].length<=1099511627776)) (Q9 (ot.h4 b4 (a6++[32,44,32]) a7 z0))))
   (Qc (Q0 (length a5+[32,44,32].length<=1099511627776)) (Q9 (ot.h4 b4 (a5++[32,44,32]) a7 z0)))))))))))
  (Qc (Q0 ([75,69,89,32,40,32].length+length z0.1.t.2.1<=1099511627776))
   (Qc (Q0 (length a8+[32,41].length<=1099511627776)) (Qc (Q0 (length s5+length a9<=1099511627776)) (Q9 (ot.h15 b4 (s5++a9) 0 z0)))))
 | .h15 b4 s5 i8 z0=>
  let a0:=(↑(length z0.1.t.q.1):Int)
  let a1:=zN i8 (length z0.1.t.q.1)
  let a2:=getD z0.1.t.q.1 i8.toNat (zi Q6)
  let a3:=[32,44,32,85,78,73,81,85,69,32,40,32]++a2
  let a4:=a3++[32,41]
  br (Q0 (i8<a0))
  (Qc (bif b4 then a1&&dD a2 else Q3)
   (Qc a1 (Qc (Q0 ([32,44,32,85,78,73,81,85,69,32,40,32].length+length a2<=1099511627776)) (Qc (Q0 (length a3+[32,41].length<=1099511627776)) (Qc (Q0 (length s5+length a4<=1099511627776)) (Q9 (ot.h15 (bif b4 then bp a2 else Q4) (s5++a4) (IntKind.i64.wrap (i8+1)) z0)))))))
  (Q9 (ot.h20 b4 s5 0 z0))
 | .h20 b4 s5 i9 z0=>
  let a0:=(↑(length z0.1.t.q.2.1):Int)
  let a1:=zN i9 (length z0.1.t.q.2.1)
  let a2:=getD z0.1.t.q.2.1 i9.toNat (zi iK)
  let a3:=bp a2.1
  let a4:=[32,44,32,82,69,70,69,82,69,78,67,69,83,32,40,32]++a2.1
  let a5:=a4++[32,41,32]
  let a6:=a5++a2.2
  let a7:=zm z0.1.t.t.1
  let a8:=Ce a7 [32,44]
  let a9:=s5++a8.1
  let a10:=a9++[32,41]
  br (Q0 (i9<a0))
  (Qc (bif b4 then a1&&(dD a2.1&&bif a3 then a1&&dD a2.2 else Q3)else Q3)
   (Qc a1 (Qc (Q0 ([32,44,32,82,69,70,69,82,69,78,67,69,83,32,40,32].length+length a2.1<=1099511627776)) (Qc (Q0 (length a4+[32,41,32].length<=1099511627776)) (Qc a1 (Qc (Q0 (length a5+length a2.2<=1099511627776)) (Qc (Q0 (length s5+length a6<=1099511627776))
   (Q9 (ot.h20 (bif b4 then bif a3 then bp a2.2 else Q4 else Q4) (s5++a6) (IntKind.i64.wrap (i9+1)) z0)))))))))
  (Qc (un a7 [32,44])
   (Qc (Q0 (length s5+length a8.1<=1099511627776)&&Q0 (length a9+[32,41].length<=1099511627776)) (re (Qe [str (bif b4 then a10 else a10),AV.bool (bif b4 then a8.2 else Q4)]) [])))
def mu(x0:Sem zl):=ao [Q6,Q7] fk 100000000 (RQ x0)
def qv(x0:Sem zl):=(mu x0).isSome
def pj(x0:Sem zl):=o2 (mu x0)
def XK:=FT [zl] [Q6,Q7] λx=>mu x.1
theorem UX:FK 116 XK:=me.T1 (f:=Tryz.f116) (keep:=zcz) (e:=zgI)
abbrev zhY:=lV [(2,[0,1,5]),(5,[0,1,5,6])]
inductive HF where
 |h2 (l0:List (Sem zh)) (l1:List (Sem Q6)) (i5:Int)
 |h5 (l0:List (Sem zh)) (l1:List (Sem Q6)) (i5:Int) (i6:Int)
abbrev zkB:HF->Nat×St
 |.h2 l0 l1 i5=>(2,⟨tm 47 [(0,sl zh l0),(1,sl Q6 l1),(5,ai i5)],[]⟩)
 |.h5 l0 l1 i5 i6=>(5,⟨tm 47 [(0,sl zh l0),(1,sl Q6 l1),(5,ai i5),(6,ai i6)],[]⟩)
def zlX(x0:Sem zh.sl)(x1:Sem Sh.str.sl):Tr (HF⊕ar):=
 Q9 (HF.h2 x0 x1 0)
def pt:HF->Tr (HF⊕ar)
 | .h2 l0 l1 i5=>
  br (Q0 (i5<(↑l0.length:Int))) (Q9 (HF.h5 l0 l1 i5 0)) (re (kb Q4) [])
 | .h5 l0 l1 i5 i6=>
  let a0:=l0.getD i5.toNat (zi zh)
  let a1:=(↑(length a0.1.t.1):Int)
  let a2:=!JC l1 a0.1.1
  let a3:=getD a0.1.t.1 i6.toNat (zi zr)
  Qc (zN i5 l0.length)
  (br (Q0 (i6<a1))
   (Qc (zN i5 l0.length&&(xy l1 a0.1.1&&bif a2 then zN i5 l0.length&&(zN i6 (length a0.1.t.1)&&xy l1 a3.2)else Q3)) (br (bif a2 then JC l1 a3.2 else Q4) (re (kb Q3) []) (Q9 (HF.h5 l0 l1 i5 (IntKind.i64.wrap (i6+1))))))
   (Q9 (HF.h2 l0 l1 (IntKind.i64.wrap (i5+1)))))
def nj(x0:Sem zh.sl)(x1:Sem Sh.str.sl):=ao [Q7] pt 100000000 (zlX x0 x1)
def sD(x0:Sem zh.sl)(x1:Sem Sh.str.sl):=(nj x0 x1).isSome
def wl(x0:Sem zh.sl)(x1:Sem Sh.str.sl):=o1 (nj x0 x1)
def zex:=FT [zh.sl,Sh.str.sl] [Q7] λx=>nj x.1 x.2.1
theorem zaB:FK 46 zex:=me.T1 (f:=Tryz.f46) (keep:=zhY) (e:=zkB)
abbrev zh0:=lV [(3,[0,1,6,7]),(10,[6,9]),(13,[6,9,10])]
inductive ou where
 |h3 (l0:List (Sem zj)) (l1:List (Sem Q6)) (i7:Int)
 |h3b (l0:List (Sem zj)) (l1:List (Sem Q6)) (i7:Int) (lh_0:List (Sem zg))
 |h10 (i9:Int)
 |h10b (i9:Int) (lh_0:List (Sem zg))
 |h13 (i9:Int) (i10:Int)
 |h13b (i9:Int) (i10:Int) (lh_0:List (Sem zg))
abbrev zkD:ou->Nat×St
 |.h3 l0 l1 i7=>(3,⟨tm 50 [(0,sl zj l0),(1,sl Q6 l1),(6,Qb),(7,ai i7)],[]⟩)
 |.h3b l0 l1 i7 lh_0=>(3,⟨tm 50 [(0,sl zj l0),(1,sl Q6 l1),(6,AV.vec 0),(7,ai i7)],[AO.vec zg lh_0]⟩)
 |.h10 i9=>(10,⟨tm 50 [(6,Qb),(9,ai i9)],[]⟩)
 |.h10b i9 lh_0=>(10,⟨tm 50 [(6,AV.vec 0),(9,ai i9)],[AO.vec zg lh_0]⟩)
 |.h13 i9 i10=>(13,⟨tm 50 [(6,Qb),(9,ai i9),(10,ai i10)],[]⟩)
 |.h13b i9 i10 lh_0=>(13,⟨tm 50 [(6,AV.vec 0),(9,ai i9),(10,ai i10)],[AO.vec zg lh_0]⟩)
def zhu(x0:Sem zj.sl)(x1:Sem Sh.str.sl):Tr (ou⊕ar):=
 Q9 (ou.h3 x0 x1 0)
def jA:ou->Tr (ou⊕ar)
 | .h3 l0 l1 i7=>
  let a0:=l1.getD i7.toNat (zi Q6)
  let a1:=eH l0 a0
  let a2:=[a1]
  br (Q0 (i7<(↑l1.length:Int)))
  (Qc (zN i7 l1.length)
   (Qc (dz l0 a0) (br (Q0 (a1<0)) (re (Qe [Qb,ai 4]) []) (Qc (Q0 (a2.length<=1073741824)) (Q9 (ou.h3b l0 l1 (IntKind.i64.wrap (i7+1)) a2))))))
  (Q9 (ou.h10 0))
 | .h3b l0 l1 i7 lh_0=>
  let a0:=l1.getD i7.toNat (zi Q6)
  let a1:=eH l0 a0
  let a2:=[a1]
  br (Q0 (i7<(↑l1.length:Int)))
  (Qc (zN i7 l1.length)
   (Qc (dz l0 a0) (br (Q0 (a1<0)) (re (Qe [Qb,ai 4]) []) (Qc (Q0 (lh_0.length+a2.length<=1073741824)) (Q9 (ou.h3b l0 l1 (IntKind.i64.wrap (i7+1)) (lh_0++a2)))))))
  (Q9 (ou.h10b 0 lh_0))
 | .h10 i9=>
  br (Q0 (i9<0)) (Q9 (ou.h13 i9 0)) (re (Qe [Qb,ai 0]) [])
 | .h10b i9 lh_0=>
  br (Q0 (i9<(↑lh_0.length:Int))) (Q9 (ou.h13b i9 0 lh_0)) (re (Qe [AV.vec 0,ai 0]) [AO.vec zg lh_0])
 | .h13 i9 i10=>
  br (Q0 (i10<i9)) Tr.err (Q9 (ou.h10 (IntKind.i64.wrap (i9+1))))
 | .h13b i9 i10 lh_0=>
  br (Q0 (i10<i9))
  (Qc (zN i9 lh_0.length)
   (Qc (Q0 (i9.toNat<lh_0.length)) (Qc (zN i10 lh_0.length) (Qc (Q0 (i10.toNat<lh_0.length)) (br (lh_0.getD i9.toNat (zi zg)==lh_0.getD i10.toNat (zi zg)) (re (Qe [Qb,ai 7]) []) (Q9 (ou.h13b i9 (IntKind.i64.wrap (i10+1)) lh_0)))))))
  (Q9 (ou.h10b (IntKind.i64.wrap (i9+1)) lh_0))
def ni(x0:Sem zj.sl)(x1:Sem Sh.str.sl):=ao [zg.sl,zg] jA 100000000 (zhu x0 x1)
def nh(x0:Sem zj.sl)(x1:Sem Sh.str.sl):=(ni x0 x1).isSome
def qe(x0:Sem zj.sl)(x1:Sem Sh.str.sl):=o2 (ni x0 x1)
def zez:=FT [zj.sl,Sh.str.sl] [zg.sl,zg] λx=>ni x.1 x.2.1
theorem zaC:FK 47 zez:=me.T1 (f:=Tryz.f47) (keep:=zh0) (e:=zkD)
def Wj(x0:Sem Q5)(x1:Sem zj.sl):Tr (Empty⊕ar):=
 br (zf.op x0==[]) (re (ai 0) [])
 (Qc (wo (zm x0))
  (br (!EU (zm x0)) (re (ai 1) []) (Qc (nt (zm x0) x1) (br (bif (iv (zm x0) x1).2==0 then bif (iv (zm x0) x1).1!=0 then(iv (zm x0) x1).1!=3 else Q4 else Q4) (re (ai 5) []) (re (ai (iv (zm x0) x1).2) [])))))
def yF(x0:Sem Q5)(x1:Sem zj.sl):=ao [zg] t0 100000000 (Wj x0 x1)
def qy(x0:Sem Q5)(x1:Sem zj.sl):=(yF x0 x1).isSome
def ws(x0:Sem Q5)(x1:Sem zj.sl):=o1 (yF x0 x1)
def zeB:=FT [Q5,zj.sl] [zg] λx=>yF x.1 x.2.1
theorem zaE:FK 49 zeB:=me.T1 (f:=Tryz.f49) (keep:=k0) (e:=e0)
def Ra:=YE.addL [(116,XK),(46,zex),(47,zez),(49,zeB)]
theorem AS:zx Ra:=me.addL<|fc UX<|fc zaB<|fc zaC<|fc zaE iV
abbrev zgC:List CP:=[.d .str,.d .str,.d .str,.nil,.nil,.d .str,.nil,.nil,.d .str,.d zg,.d zg,.d .str,.d .str,.nil,.d (.sl ze),.nil,.d .str,.d zg,.d zg,.d .str,.d .str,.nil,.d .str]
abbrev zbK:List CP:=[.d .str,.d .str,.d .str,.nil,.nil,.d .str,.nil,.nil,.d .str,.d zg,.d zg,.d .str,.d .str,.nil,.nil,.d (.sl g6),.d .expr,.d .str]
abbrev zik:=lV [(15,[1,3,5,12,13]),(27,[1,3,5,8,9,14,15])]
inductive Ag where
 |h15 (s12:List UInt8) (i13:Int) (z0:zn oq) (z1:zn iO) (z2:zn zgC)
 |h27 (s8:TS) (b9:Sem Q7) (s14:List UInt8) (i15:Int) (z0:zn oq) (z1:zn iO) (z2:zn zbK)
abbrev zkQ:Ag->Nat×St
 |.h15 s12 i13 z0 z1 z2=>(15,⟨tm 430 [(1,ptr 0 0),(3,ptr 1 0),(5,ptr 2 0),(12,str s12),(13,ai i13)],[Qa (bC [] oq z0),Qa (bC [] iO z1),Qa (bC [] zgC z2)]⟩)
 |.h27 s8 b9 s14 i15 z0 z1 z2=>(27,⟨tm 430 [(1,ptr 0 0),(3,ptr 1 0),(5,ptr 2 0),(8,str s8),(9,AV.bool b9),(14,str s14),(15,ai i15)],[Qa (bC [] oq z0),Qa (bC [] iO z1),Qa (bC [] zbK z2)]⟩)
def gM(x0:Sem zl):Tr (Ag⊕ar):=
 let a0:=zm x0.t.t.1
 let a1:=zm x0.t.t.q.2.1
 let a2:=(x0.1,x0.2.1,x0.2.2.1,x0.2.2.2.1,x0.t.1,x0.t.2.1,x0.t.q.1,x0.t.q.2.1,a0,x0.t.t.2.1,x0.t.t.q.1,a1,x0.t.t.t)
 let a3:=pj a2
 let a4:=Ce a1 [87,72,69,82,69]
 let a5:=[68,69,76,69,84,69,32,70,82,79,77,32]++x0.2.1
 let a6:=[83,69,76,69,67,84,32,42,32,70,82,79,77,32]++x0.2.1
 let a7:=[77,73,71,82,65,84,69,32,67,79,80,89,32]++x0.2.1
 let a8:=a7++[32,70,82,79,77,32]
 let a9:=a8++x0.2.2.1
 let a10:=a9++[32,40,32]
 let a11:=GQ x0.2.2.2.1
 let a12:=a10++a11.1
 let a13:=a12++[32,41]
 let a14:=Ce a0 []
 let a15:=dD x0.2.2.1
 let a16:=bp x0.2.2.1
 let a17:=[77,73,71,82,65,84,69,32,74,79,73,78,32]++x0.2.1
 let a18:=a17++[32,70,82,79,77,32]
 let a19:=a18++x0.2.2.1
 let a20:=a19++[32,44,32]
 let a21:=a20++x0.t.t.t
 let a22:=a21++[32,79,78,32]
 let a23:=a22++x0.t.2.1
 let a24:=dD x0.t.t.t
 let a25:=bp x0.t.t.t
 let a26:=[77,73,71,82,65,84,69,32,71,82,79,85,80,32]++x0.2.1
 let a27:=a26++[32,70,82,79,77,32]
 let a28:=a27++x0.2.2.1
 let a29:=zN 0 (length x0.2.2.2.1)
 let a30:=a28++[32,66,89,32]
 let a31:=getD x0.2.2.2.1 (Int.toNat 0) (zi Q6)
 let a32:=a30++a31
 let a33:=zN 1 (length x0.2.2.2.1)
 let a34:=a32++[32,83,85,77,32]
 let a35:=getD x0.2.2.2.1 (Int.toNat 1) (zi Q6)
 let a36:=a34++a35
 let a37:=[71,82,65,78,84,32,82,69,65,68,32,79,78,32]++x0.2.1
 let a38:=a37++[32,84,79,32]
 let a39:=[71,82,65,78,84,32,87,82,73,84,69,32,79,78,32]++x0.2.1
 let a40:=a39++[32,84,79,32]
 let a41:=[82,69,86,79,75,69,32,82,69,65,68,32,79,78,32]++x0.2.1
 let a42:=a41++[32,70,82,79,77,32]
 let a43:=[82,69,86,79,75,69,32,87,82,73,84,69,32,79,78,32]++x0.2.1
 let a44:=a43++[32,70,82,79,77,32]
 Qc (un a0 [])
 (Qc (un a1 [87,72,69,82,69])
  (br (x0.1==[99,114,101,97,116,101]) (Qc (qv a2) (re (Qe [str a3.1,Qd [str x0.1,str x0.2.1,str [],Qb,sl zj x0.t.1,str x0.t.2.1,sl Q6 x0.t.q.1,sl (Sh.str.pr Q6) x0.t.q.2.1,str (zf.op x0.t.t.1),ai (zf.v x0.t.t.1).1,
  ai (zf.v x0.t.t.1).2.1,str (zf.v x0.t.t.1).2.2,str (zf.s x0.t.t.1),sl Q5 (zf.l x0.t.t.1),Qb,Qb,str [],ai 0,ai 0,str [],str [],Qb,str []],AV.bool a3.2]) [])) (br (x0.1==[100,114,111,112])
  (Qc (Q0 ([68,82,79,80,32,84,65,66,76,69,32].length+length x0.2.1<=1099511627776)) (re (Qe [str ([68,82,79,80,32,84,65,66,76,69,32]++x0.2.1),Qd [str x0.1,str x0.2.1,str [],Qb,Qb,str [],Qb,Qb,str [],ai 0,
  ai 0,str [],str [],Qb,Qb,Qb,str [],ai 0,ai 0,str [],str [],Qb,str []],kb Q3]) [])) (br (x0.1==[105,110,115,101,114,116]) (Q9 (Ag.h15 [] 0 (x0,()) ([],[],[],[],[],0,0,[],[],[],0,0,[],[],[],())
  (x0.1,x0.2.1,[],[],[],0,0,[],[],x0.t.t.2.1,[],0,0,[],[],[],()))) (br (x0.1==[117,112,100,97,116,101]) (Q9 (Ag.h27 a4.1 a4.2 [] 0 (x0,()) ([],[],[],[],[],0,0,[],[],[],0,0,[],[],[],()) (x0.1,x0.2.1,[],[],[],0,0,[],[],x0.t.t.q.1,x0.t.t.q.2.1,[],()))) (br (x0.1==[100,101,108,101,116,101])
  (Qc (Q0 ([68,69,76,69,84,69,32,70,82,79,77,32].length+length x0.2.1<=1099511627776)) (Qc (Q0 (length a5+length a4.1<=1099511627776)) (re (Qe [str (a5++a4.1),Qd [str x0.1,str x0.2.1,str [],Qb,Qb,str [],Qb,Qb,str [],ai 0,
  ai 0,str [],str [],Qb,Qb,Qb,str (zf.op x0.t.t.q.2.1),ai (zf.v x0.t.t.q.2.1).1,ai (zf.v x0.t.t.q.2.1).2.1,str (zf.v x0.t.t.q.2.1).2.2,str (zf.s x0.t.t.q.2.1),sl Q5 (zf.l x0.t.t.q.2.1),str []],AV.bool a4.2]) [])))
  (br (x0.1==[115,101,108,101,99,116]) (Qc (Q0 ([83,69,76,69,67,84,32,42,32,70,82,79,77,32].length+length x0.2.1<=1099511627776)) (Qc (Q0 (length a6+length a4.1<=1099511627776)) (re (Qe [str (a6++a4.1),Qd [str x0.1,str x0.2.1,str [],Qb,Qb,str [],Qb,Qb,str [],ai 0,
  ai 0,str [],str [],Qb,Qb,Qb,str (zf.op x0.t.t.q.2.1),ai (zf.v x0.t.t.q.2.1).1,ai (zf.v x0.t.t.q.2.1).2.1,str (zf.v x0.t.t.q.2.1).2.2,str (zf.s x0.t.t.q.2.1),sl Q5 (zf.l x0.t.t.q.2.1),str []],AV.bool a4.2]) [])))
  (br (x0.1==[99,111,112,121]) (Qc (Cf x0.2.2.2.1) (Qc (Q0 ([77,73,71,82,65,84,69,32,67,79,80,89,32].length+length x0.2.1<=1099511627776)) (Qc (Q0 (length a7+[32,70,82,79,77,32].length<=1099511627776)) (Qc (Q0 (length a8+length x0.2.2.1<=1099511627776))
  (Qc (Q0 (length a9+[32,40,32].length<=1099511627776)) (Qc (Q0 (length a10+length a11.1<=1099511627776)) (Qc (Q0 (length a12+[32,41].length<=1099511627776)) (Qc (Q0 (length a13+length a14.1<=1099511627776)) (br a11.2 (br a14.2 (Qc a15 (re (Qe [str (a13++a14.1),Qd
  [str x0.1,str x0.2.1,str x0.2.2.1,sl Q6 x0.2.2.2.1,Qb,str [],Qb,Qb,str (zf.op x0.t.t.1),ai (zf.v x0.t.t.1).1,ai (zf.v x0.t.t.1).2.1,str (zf.v x0.t.t.1).2.2,str (zf.s x0.t.t.1),
  sl Q5 (zf.l x0.t.t.1),Qb,Qb,str [],ai 0,ai 0,str [],str [],Qb,str []],AV.bool a16]) [])) (re (Qe [str (a13++a14.1),Qd [str x0.1,str x0.2.1,str x0.2.2.1,sl Q6 x0.2.2.2.1,Qb,str [],Qb,Qb,str (zf.op x0.t.t.1),
  ai (zf.v x0.t.t.1).1,ai (zf.v x0.t.t.1).2.1,str (zf.v x0.t.t.1).2.2,str (zf.s x0.t.t.1),sl Q5 (zf.l x0.t.t.1),Qb,Qb,str [],ai 0,ai 0,str [],str [],Qb,str []],kb Q4]) [])) (re (Qe [str (a13++a14.1),Qd
  [str x0.1,str x0.2.1,str x0.2.2.1,sl Q6 x0.2.2.2.1,Qb,str [],Qb,Qb,str (zf.op x0.t.t.1),ai (zf.v x0.t.t.1).1,ai (zf.v x0.t.t.1).2.1,str (zf.v x0.t.t.1).2.2,str (zf.s x0.t.t.1),
  sl Q5 (zf.l x0.t.t.1),Qb,Qb,str [],ai 0,ai 0,str [],str [],Qb,str []],kb Q4]) [])))))))))) (br (x0.1==[106,111,105,110]) (Qc (Q0 ([77,73,71,82,65,84,69,32,74,79,73,78,32].length+length x0.2.1<=1099511627776))
  (Qc (Q0 (length a17+[32,70,82,79,77,32].length<=1099511627776)) (Qc (Q0 (length a18+length x0.2.2.1<=1099511627776)) (Qc (Q0 (length a19+[32,44,32].length<=1099511627776)) (Qc (Q0 (length a20+length x0.t.t.t<=1099511627776))
  (Qc (Q0 (length a21+[32,79,78,32].length<=1099511627776)) (Qc (Q0 (length a22+length x0.t.2.1<=1099511627776)) (Qc (Q0 (length a23+length a14.1<=1099511627776)) (br a14.2 (Qc a15 (br a16 (Qc a24 (br a25 (Qc (dD x0.t.2.1) (re (Qe [str (a23++a14.1),Qd
  [str x0.1,str x0.2.1,str x0.2.2.1,Qb,Qb,str x0.t.2.1,Qb,Qb,str (zf.op x0.t.t.1),ai (zf.v x0.t.t.1).1,ai (zf.v x0.t.t.1).2.1,str (zf.v x0.t.t.1).2.2,str (zf.s x0.t.t.1),sl Q5 (zf.l x0.t.t.1),Qb,Qb,str [],
  ai 0,ai 0,str [],str [],Qb,str x0.t.t.t],AV.bool (bp x0.t.2.1)]) [])) (re (Qe [str (a23++a14.1),Qd [str x0.1,str x0.2.1,str x0.2.2.1,Qb,Qb,str x0.t.2.1,Qb,Qb,str (zf.op x0.t.t.1),ai (zf.v x0.t.t.1).1,
  ai (zf.v x0.t.t.1).2.1,str (zf.v x0.t.t.1).2.2,str (zf.s x0.t.t.1),sl Q5 (zf.l x0.t.t.1),Qb,Qb,str [],ai 0,ai 0,str [],str [],Qb,str x0.t.t.t],kb Q4]) []))) (re (Qe [str (a23++a14.1),Qd
  [str x0.1,str x0.2.1,str x0.2.2.1,Qb,Qb,str x0.t.2.1,Qb,Qb,str (zf.op x0.t.t.1),ai (zf.v x0.t.t.1).1,ai (zf.v x0.t.t.1).2.1,str (zf.v x0.t.t.1).2.2,str (zf.s x0.t.t.1),sl Q5 (zf.l x0.t.t.1),Qb,Qb,str [],
  ai 0,ai 0,str [],str [],Qb,str x0.t.t.t],kb Q4]) []))) (re (Qe [str (a23++a14.1),Qd [str x0.1,str x0.2.1,str x0.2.2.1,Qb,Qb,str x0.t.2.1,Qb,Qb,str (zf.op x0.t.t.1),ai (zf.v x0.t.t.1).1,
  ai (zf.v x0.t.t.1).2.1,str (zf.v x0.t.t.1).2.2,str (zf.s x0.t.t.1),sl Q5 (zf.l x0.t.t.1),Qb,Qb,str [],ai 0,ai 0,str [],str [],Qb,str x0.t.t.t],kb Q4]) [])))))))))) (br (x0.1==[103,114,111,117,112])
  (br ((↑(length x0.2.2.2.1):Int)!=2) (re (Qe [str [],Qd [str x0.1,str x0.2.1,str x0.2.2.1,sl Q6 x0.2.2.2.1,Qb,str [],Qb,Qb,str (zf.op x0.t.t.1),ai (zf.v x0.t.t.1).1,ai (zf.v x0.t.t.1).2.1,
  str (zf.v x0.t.t.1).2.2,str (zf.s x0.t.t.1),sl Q5 (zf.l x0.t.t.1),Qb,Qb,str [],ai 0,ai 0,str [],str [],Qb,str []],kb Q4]) []) (Qc (Q0 ([77,73,71,82,65,84,69,32,71,82,79,85,80,32].length+length x0.2.1<=1099511627776))
  (Qc (Q0 (length a26+[32,70,82,79,77,32].length<=1099511627776)) (Qc (Q0 (length a27+length x0.2.2.1<=1099511627776)) (Qc (Q0 (length a28+[32,66,89,32].length<=1099511627776)) (Qc a29 (Qc (Q0 (length a30+length a31<=1099511627776))
  (Qc (Q0 (length a32+[32,83,85,77,32].length<=1099511627776)) (Qc a33 (Qc (Q0 (length a34+length a35<=1099511627776)) (Qc (Q0 (length a36+length a14.1<=1099511627776)) (br a14.2 (Qc a15 (br a16 (Qc a29 (Qc (dD a31) (br (bp a31) (Qc a33 (Qc (dD a35) (re (Qe [str (a36++a14.1),
  Qd [str x0.1,str x0.2.1,str x0.2.2.1,sl Q6 x0.2.2.2.1,Qb,str [],Qb,Qb,str (zf.op x0.t.t.1),ai (zf.v x0.t.t.1).1,ai (zf.v x0.t.t.1).2.1,str (zf.v x0.t.t.1).2.2,str (zf.s x0.t.t.1),sl Q5 (zf.l x0.t.t.1),Qb,Qb,
  str [],ai 0,ai 0,str [],str [],Qb,str []],AV.bool (bp a35)]) []))) (re (Qe [str (a36++a14.1),Qd [str x0.1,str x0.2.1,str x0.2.2.1,sl Q6 x0.2.2.2.1,Qb,str [],Qb,Qb,str (zf.op x0.t.t.1),ai (zf.v x0.t.t.1).1,
  ai (zf.v x0.t.t.1).2.1,str (zf.v x0.t.t.1).2.2,str (zf.s x0.t.t.1),sl Q5 (zf.l x0.t.t.1),Qb,Qb,str [],ai 0,ai 0,str [],str [],Qb,str []],kb Q4]) [])))) (re (Qe [str (a36++a14.1),Qd
  [str x0.1,str x0.2.1,str x0.2.2.1,sl Q6 x0.2.2.2.1,Qb,str [],Qb,Qb,str (zf.op x0.t.t.1),ai (zf.v x0.t.t.1).1,ai (zf.v x0.t.t.1).2.1,str (zf.v x0.t.t.1).2.2,str (zf.s x0.t.t.1),
  sl Q5 (zf.l x0.t.t.1),Qb,Qb,str [],ai 0,ai 0,str [],str [],Qb,str []],kb Q4]) []))) (re (Qe [str (a36++a14.1),Qd [str x0.1,str x0.2.1,str x0.2.2.1,sl Q6 x0.2.2.2.1,Qb,str [],Qb,Qb,str (zf.op x0.t.t.1),
  ai (zf.v x0.t.t.1).1,ai (zf.v x0.t.t.1).2.1,str (zf.v x0.t.t.1).2.2,str (zf.s x0.t.t.1),sl Q5 (zf.l x0.t.t.1),Qb,Qb,str [],ai 0,ai 0,str [],str [],Qb,str []],kb Q4]) []))))))))))))) (br (x0.1==[114,101,97,100])
  (Qc (Q0 ([71,82,65,78,84,32,82,69,65,68,32,79,78,32].length+length x0.2.1<=1099511627776)) (Qc (Q0 (length a37+[32,84,79,32].length<=1099511627776)) (Qc (Q0 (length a38+length x0.t.t.t<=1099511627776)) (Qc a24 (re (Qe [str (a38++x0.t.t.t),Qd
  [str x0.1,str x0.2.1,str [],Qb,Qb,str [],Qb,Qb,str [],ai 0,ai 0,str [],str [],Qb,Qb,Qb,str [],ai 0,ai 0,str [],str [],Qb,str x0.t.t.t],AV.bool a25]) []))))) (br (x0.1==[119,114,105,116,101])
  (Qc (Q0 ([71,82,65,78,84,32,87,82,73,84,69,32,79,78,32].length+length x0.2.1<=1099511627776)) (Qc (Q0 (length a39+[32,84,79,32].length<=1099511627776)) (Qc (Q0 (length a40+length x0.t.t.t<=1099511627776)) (Qc a24 (re (Qe [str (a40++x0.t.t.t),Qd
  [str x0.1,str x0.2.1,str [],Qb,Qb,str [],Qb,Qb,str [],ai 0,ai 0,str [],str [],Qb,Qb,Qb,str [],ai 0,ai 0,str [],str [],Qb,str x0.t.t.t],AV.bool a25]) []))))) (br (x0.1==[117,110,114,101,97,100])
  (Qc (Q0 ([82,69,86,79,75,69,32,82,69,65,68,32,79,78,32].length+length x0.2.1<=1099511627776)) (Qc (Q0 (length a41+[32,70,82,79,77,32].length<=1099511627776)) (Qc (Q0 (length a42+length x0.t.t.t<=1099511627776)) (Qc a24 (re (Qe [str (a42++x0.t.t.t),Qd
  [str x0.1,str x0.2.1,str [],Qb,Qb,str [],Qb,Qb,str [],ai 0,ai 0,str [],str [],Qb,Qb,Qb,str [],ai 0,ai 0,str [],str [],Qb,str x0.t.t.t],AV.bool a25]) []))))) (br (x0.1==[117,110,119,114,105,116,101]) (Qc
  (Q0 ([82,69,86,79,75,69,32,87,82,73,84,69,32,79,78,32].length+length x0.2.1<=1099511627776)) (Qc (Q0 (length a43+[32,70,82,79,77,32].length<=1099511627776)) (Qc (Q0 (length a44+length x0.t.t.t<=1099511627776)) (Qc a24 (re (Qe [str (a44++x0.t.t.t),Qd
  [str x0.1,str x0.2.1,str [],Qb,Qb,str [],Qb,Qb,str [],ai 0,ai 0,str [],str [],Qb,Qb,Qb,str [],ai 0,ai 0,str [],str [],Qb,str x0.t.t.t],AV.bool a25]) []))))) (re (Qe [str [],Qd
  [str x0.1,str x0.2.1,str [],Qb,Qb,str [],Qb,Qb,str [],ai 0,ai 0,str [],str [],Qb,Qb,Qb,str [],ai 0,ai 0,str [],str [],Qb,str []],kb Q4]) [])))))))))))))))
def lS:Ag->Tr (Ag⊕ar)
 | .h15 s12 i13 z0 z1 z2=>
  let a0:=(↑(length z0.1.t.t.2.1):Int)
  let a1:=zN i13 (length z0.1.t.t.2.1)
  let a2:=getD z0.1.t.t.2.1 i13.toNat (zi ze)
  let a3:=tY a2
  let a4:=s12++[32,44,32]
  let a5:=BT a2
  let a6:=IntKind.i64.wrap (i13+1)
  let a7:=[73,78,83,69,82,84,32,73,78,84,79,32]++z0.1.2.1
  let a8:=a7++[32,86,65,76,85,69,83,32,40,32]
  let a9:=a8++s12
  br (Q0 (i13<a0))
  (Qc a1
   (Qc (lP a2) (br (!rB a2) (re (Qe [str [],Qd [str z2.1,str z2.2.1,str z2.2.2.1,Qb,Qb,str z2.2.2.2.1,Qb,Qb,str z2.t.1,ai z2.t.2.1,ai z2.t.q.1,str z2.t.q.2.1,str z2.t.t.1,Qb,sl ze z2.t.t.2.1,Qb,
   str z2.t.t.q.1,ai z2.t.t.q.2.1,ai z2.t.t.t.1,str z2.t.t.t.2.1,str z2.t.t.t.q.1,Qb,str z2.t.t.t.q.2.1],kb Q4]) []) (br (Q0 (i13>0)) (Qc (Q0 (s12.length+[32,44,32].length<=1099511627776))
   (Qc a1 (Qc a3 (Qc (Q0 (length a4+length a5<=1099511627776)) (Q9 (Ag.h15 (a4++a5) a6 z0 z1 z2)))))) (Qc a1 (Qc a3 (Qc (Q0 (s12.length+length a5<=1099511627776)) (Q9 (Ag.h15 (s12++a5) a6 z0 z1 z2)))))))))
  (Qc (Q0 ([73,78,83,69,82,84,32,73,78,84,79,32].length+length z0.1.2.1<=1099511627776))
   (Qc (Q0 (length a7+[32,86,65,76,85,69,83,32,40,32].length<=1099511627776)) (Qc (Q0 (length a8+s12.length<=1099511627776)) (Qc (Q0 (length a9+[32,41].length<=1099511627776)) (br (Q0 (1<=a0)) (re (Qe [str (a9++[32,41]),Qd
   [str z2.1,str z2.2.1,str z2.2.2.1,Qb,Qb,str z2.2.2.2.1,Qb,Qb,str z2.t.1,ai z2.t.2.1,ai z2.t.q.1,str z2.t.q.2.1,str z2.t.t.1,Qb,sl ze z2.t.t.2.1,Qb,str z2.t.t.q.1,ai z2.t.t.q.2.1,
   ai z2.t.t.t.1,str z2.t.t.t.2.1,str z2.t.t.t.q.1,Qb,str z2.t.t.t.q.2.1],AV.bool (Q0 (a0<=12))]) []) (re (Qe [str (a9++[32,41]),Qd [str z2.1,str z2.2.1,str z2.2.2.1,Qb,Qb,str z2.2.2.2.1,Qb,Qb,
   str z2.t.1,ai z2.t.2.1,ai z2.t.q.1,str z2.t.q.2.1,str z2.t.t.1,Qb,sl ze z2.t.t.2.1,Qb,str z2.t.t.q.1,ai z2.t.t.q.2.1,ai z2.t.t.t.1,str z2.t.t.t.2.1,str z2.t.t.t.q.1,
   Qb,str z2.t.t.t.q.2.1],kb Q4]) []))))))
 | .h27 s8 b9 s14 i15 z0 z1 z2=>
  let a0:=(↑(length z0.1.t.t.q.1):Int)
  let a1:=zN i15 (length z0.1.t.t.q.1)
  let a2:=getD z0.1.t.t.q.1 i15.toNat (zi g6)
  let a3:=!bp a2.1
  let a4:=zm a2.2
  let a5:=Q0 (length a2.1+[32,61,32].length<=1099511627776)
  let a6:=qr a4
  let a7:=a2.1++[32,61,32]
  let a8:=pi a4
  let a9:=Q0 (length a7+length a8<=1099511627776)
  let a10:=s14++[32,44,32]
  let a11:=a7++a8
  let a12:=IntKind.i64.wrap (i15+1)
  let a13:=[85,80,68,65,84,69,32]++z0.1.2.1
  let a14:=a13++[32,83,69,84,32]
  let a15:=a14++s14
  br (Q0 (i15<a0))
  (Qc (a1&&(dD a2.1&&bif a3 then Q3 else a1&&wo a4))
   (br (bif a3 then Q3 else !EU a4) (re (Qe [str [],Qd [str z2.1,str z2.2.1,str z2.2.2.1,Qb,Qb,str z2.2.2.2.1,Qb,Qb,str z2.t.1,ai z2.t.2.1,ai z2.t.q.1,str z2.t.q.2.1,str z2.t.t.1,Qb,Qb,
   sl (Sh.str.pr Q5) z2.t.t.2.1,str (zf.op z2.t.t.q.1),ai (zf.v z2.t.t.q.1).1,ai (zf.v z2.t.t.q.1).2.1,str (zf.v z2.t.t.q.1).2.2,str (zf.s z2.t.t.q.1),sl Q5 (zf.l z2.t.t.q.1),str z2.t.t.q.2.1],kb Q4]) [])
   (br (Q0 (i15>0)) (Qc (Q0 (s14.length+[32,44,32].length<=1099511627776)) (Qc a1 (Qc a5 (Qc a1 (Qc a6 (Qc a9 (Qc (Q0 (length a10+length a11<=1099511627776)) (Q9 (Ag.h27 s8 b9 (a10++a11) a12 z0 z1 z2))))))))) (Qc a1 (Qc a5 (Qc a1
   (Qc a6 (Qc a9 (Qc (Q0 (s14.length+length a11<=1099511627776)) (Q9 (Ag.h27 s8 b9 (s14++a11) a12 z0 z1 z2)))))))))))
  (Qc (Q0 ([85,80,68,65,84,69,32].length+length z0.1.2.1<=1099511627776))
   (Qc (Q0 (length a13+[32,83,69,84,32].length<=1099511627776)) (Qc (Q0 (length a14+s14.length<=1099511627776)) (Qc (Q0 (length a15+length s8<=1099511627776)) (br b9 (br (Q0 (1<=a0)) (re (Qe [str (a15++s8),Qd [str z2.1,str z2.2.1,str z2.2.2.1,Qb,Qb,str z2.2.2.2.1,Qb,Qb,
   str z2.t.1,ai z2.t.2.1,ai z2.t.q.1,str z2.t.q.2.1,str z2.t.t.1,Qb,Qb,sl (Sh.str.pr Q5) z2.t.t.2.1,str (zf.op z2.t.t.q.1),ai (zf.v z2.t.t.q.1).1,ai (zf.v z2.t.t.q.1).2.1,str (zf.v z2.t.t.q.1).2.2,
   str (zf.s z2.t.t.q.1),sl Q5 (zf.l z2.t.t.q.1),str z2.t.t.q.2.1],AV.bool (Q0 (a0<=8))]) []) (re (Qe [str (a15++s8),Qd [str z2.1,str z2.2.1,str z2.2.2.1,Qb,Qb,str z2.2.2.2.1,Qb,Qb,str z2.t.1,ai z2.t.2.1,ai z2.t.q.1,
   str z2.t.q.2.1,str z2.t.t.1,Qb,Qb,sl (Sh.str.pr Q5) z2.t.t.2.1,str (zf.op z2.t.t.q.1),ai (zf.v z2.t.t.q.1).1,ai (zf.v z2.t.t.q.1).2.1,str (zf.v z2.t.t.q.1).2.2,
   str (zf.s z2.t.t.q.1),sl Q5 (zf.l z2.t.t.q.1),str z2.t.t.q.2.1],kb Q4]) [])) (re (Qe [str (a15++s8),Qd [str z2.1,str z2.2.1,str z2.2.2.1,Qb,Qb,str z2.2.2.2.1,Qb,Qb,str z2.t.1,ai z2.t.2.1,ai z2.t.q.1,
   str z2.t.q.2.1,str z2.t.t.1,Qb,Qb,sl (Sh.str.pr Q5) z2.t.t.2.1,str (zf.op z2.t.t.q.1),ai (zf.v z2.t.t.q.1).1,ai (zf.v z2.t.t.q.1).2.1,str (zf.v z2.t.t.q.1).2.2,str (zf.s z2.t.t.q.1),
   sl Q5 (zf.l z2.t.t.q.1),str z2.t.t.q.2.1],kb Q4]) []))))))
def dA(x0:Sem zl):=ao [Q6,zl,Q7] lS 100000000 (gM x0)
def up(x0:Sem zl):=(dA x0).isSome
def yL(x0:Sem zl):=o3 (dA x0)
def ze4:=FT [zl] [Q6,zl,Q7] λx=>dA x.1
theorem zba:FK 72 ze4:=AS.T1 (f:=Tryz.f72) (keep:=zik) (e:=zkQ)
def YF:=Ra.add 72 ze4
theorem Eg:zx YF:=AS.add zba
def zck(x0:Sem zl):Tr (Empty⊕ar):=
 let a0:=(x0.1,x0.2.1,x0.2.2.1,x0.2.2.2.1,x0.t.1,x0.t.2.1,x0.t.q.1,x0.t.q.2.1,zm x0.t.t.1,x0.t.t.2.1,x0.t.t.q.1,zm x0.t.t.q.2.1,x0.t.t.t)
 let a1:=yL a0
 let a2:=!a1.2.2
 let a3:=!bp x0.2.1
 let a4:=(a1.2.1.1,a1.2.1.2.1,a1.2.1.2.2.1,a1.2.1.2.2.2.1,a1.2.1.t.1,a1.2.1.t.2.1,a1.2.1.t.q.1,a1.2.1.t.q.2.1,zm a1.2.1.t.t.1,a1.2.1.t.t.2.1,a1.2.1.t.t.q.1,zm a1.2.1.t.t.q.2.1,a1.2.1.t.t.t)
 let a5:=xw a1.1
 Qc (up a0)
 (Qc (bif a2 then Q3 else dD x0.2.1&&bif a3 then Q3 else yJ a4 a0)
  (br (bif a2 then Q3 else bif a3 then Q3 else !eX a4 a0) (re (Qe [str [],kb Q4]) []) (Qc (GL a1.1) (br (!a5.2) (re (Qe [str [],kb Q4]) []) (re (Qe [str a1.1,kb Q3]) [])))))
def nB(x0:Sem zl):=ao [Q6,Q7] t0 100000000 (zck x0)
def iz(x0:Sem zl):=(nB x0).isSome
def kO(x0:Sem zl):=o2 (nB x0)
def zew:=FT [zl] [Q6,Q7] λx=>nB x.1
theorem zaA:FK 42 zew:=Eg.T1 (f:=Tryz.f42) (keep:=k0) (e:=e0)
def Ip:=YF.add 42 zew
theorem Eh:zx Ip:=Eg.add zaA
abbrev l7:List CP:=[.d .str,.d .str,.d .str,.vec .str,.nil,.d .str,.nil,.nil,.d .expr,.nil,.nil,.d .str,.d zg,.d zg,.d .str,.d .str,.nil,.d .str]
abbrev VT:List CP:=[.d .str,.d .str,.d .str,.vec .str,.nil,.d .str,.nil,.nil,.d .str,.d zg,.d zg,.d .str,.d .str,.nil,.nil,.nil,.d .str,.d zg,.d zg,.d .str,.d .str,.nil,.d .str]
abbrev K1:Nat->aN:=λj=>if j=14 then{slots:=[0,1,4],prom:=[(1,some 3,.str)]}else if j=1000000 then{prom:=[(1,some 3,.str)]}else{ }
inductive rb where
 |h14 (z0:zn aH) (z1:zn VT)
 |h14b (b4:Sem Q7) (z0:zn aH) (z1:zn VT)
abbrev H5:rb->Nat×St
 |.h14 z0 z1=>(14,⟨tm 117 [(0,ptr 0 0),(1,ptr 1 0),(4,kb Q3)],[Qa (bC [] aH z0),Qa (bC [2] VT z1),AO.vec Q6 z1.2.2.2.1]⟩)
 |.h14b b4 z0 z1=>(14,⟨tm 117 [(0,ptr 0 0),(1,ptr 1 0),(4,AV.bool b4)],[Qa (bC [] aH z0),Qa (bC [2] VT z1),AO.vec Q6 z1.2.2.2.1]⟩)
theorem zcV:zJ Ip.P 90 Tryz.f90 2:=bQ kw
def RP(y:zn aH)(z:zn iO):Tr (rb⊕ar):=
 let a0:=(y.1,y.2.1,y.2.2.1,())
 let a1:=eY a0 [67,79,80,89]
 let a2:=(a1.2.1,a1.2.2.1,a1.2.2.2.1,())
 let a3:=bN a2
 let a4:=(a3.2.1,a3.2.2.1,a3.2.2.2.1,())
 let a5:=bF a4 [70,82,79,77]
 let a6:=(a5.1,a5.2.1,a5.2.2.1,())
 let a7:=bN a6
 let a8:=(a7.2.1,a7.2.2.1,a7.2.2.2.1,())
 let a9:=([],z.2.2.2)
 let a10:=bF a8 [44]
 let a11:=(a10.1,a10.2.1,a10.2.2.1,())
 let a12:=bN a11
 let a13:=(a12.2.1,a12.2.2.1,a12.2.2.2.1,())
 let a14:=bF a13 [79,78]
 let a15:=(a14.1,a14.2.1,a14.2.2.1,())
 let a16:=bN a15
 let a17:=(a16.2.1,a16.2.2.1,a16.2.2.2.1,())
 let a18:=eJ a17 [67,72,69,67,75]
 let a19:=bF a8 [66,89]
 let a20:=(a19.1,a19.2.1,a19.2.2.1,())
 let a21:=bN a20
 let a22:=[a21.1]
 let a23:=(a21.2.1,a21.2.2.1,a21.2.2.2.1,())
 let a24:=bF a23 [83,85,77]
 let a25:=(a24.1,a24.2.1,a24.2.2.1,())
 let a26:=bN a25
 let a27:=[a26.1]
 let a28:=(a26.2.1,a26.2.2.1,a26.2.2.2.1,())
 let a29:=eJ a28 [67,72,69,67,75]
 let a30:=eJ a8 [67,72,69,67,75]
 let a31:=eY a2 [74,79,73,78]
 let a32:=(a31.2.1,a31.2.2.1,a31.2.2.2.1,())
 let a33:=bN a32
 let a34:=(a33.2.1,a33.2.2.1,a33.2.2.2.1,())
 let a35:=bF a34 [70,82,79,77]
 let a36:=(a35.1,a35.2.1,a35.2.2.1,())
 let a37:=bN a36
 let a38:=(a37.2.1,a37.2.2.1,a37.2.2.2.1,())
 let a39:=bF a38 [44]
 let a40:=(a39.1,a39.2.1,a39.2.2.1,())
 let a41:=bN a40
 let a42:=(a41.2.1,a41.2.2.1,a41.2.2.2.1,())
 let a43:=bF a42 [79,78]
 let a44:=(a43.1,a43.2.1,a43.2.2.1,())
 let a45:=bN a44
 let a46:=(a45.2.1,a45.2.2.1,a45.2.2.2.1,())
 let a47:=eJ a46 [67,72,69,67,75]
 let a48:=bF a38 [66,89]
 let a49:=(a48.1,a48.2.1,a48.2.2.1,())
 let a50:=bN a49
 let a51:=[a50.1]
 let a52:=(a50.2.1,a50.2.2.1,a50.2.2.2.1,())
 let a53:=bF a52 [83,85,77]
 let a54:=(a53.1,a53.2.1,a53.2.2.1,())
 let a55:=bN a54
 let a56:=[a55.1]
 let a57:=(a55.2.1,a55.2.2.1,a55.2.2.2.1,())
 let a58:=eJ a57 [67,72,69,67,75]
 let a59:=eJ a38 [67,72,69,67,75]
 let a60:=eY a32 [71,82,79,85,80]
 let a61:=(a60.2.1,a60.2.2.1,a60.2.2.2.1,())
 let a62:=bN a61
 let a63:=(a62.2.1,a62.2.2.1,a62.2.2.2.1,())
 let a64:=bF a63 [70,82,79,77]
 let a65:=(a64.1,a64.2.1,a64.2.2.1,())
 let a66:=bN a65
 let a67:=(a66.2.1,a66.2.2.1,a66.2.2.2.1,())
 let a68:=bF a67 [44]
 let a69:=(a68.1,a68.2.1,a68.2.2.1,())
 let a70:=bN a69
 let a71:=(a70.2.1,a70.2.2.1,a70.2.2.2.1,())
 let a72:=bF a71 [79,78]
 let a73:=(a72.1,a72.2.1,a72.2.2.1,())
 let a74:=bN a73
 let a75:=(a74.2.1,a74.2.2.1,a74.2.2.2.1,())
 let a76:=eJ a75 [67,72,69,67,75]
 let a77:=bF a67 [66,89]
 let a78:=(a77.1,a77.2.1,a77.2.2.1,())
 let a79:=bN a78
 let a80:=[a79.1]
 let a81:=(a79.2.1,a79.2.2.1,a79.2.2.2.1,())
 let a82:=bF a81 [83,85,77]
 let a83:=(a82.1,a82.2.1,a82.2.2.1,())
 let a84:=bN a83
 let a85:=[a84.1]
 let a86:=(a84.2.1,a84.2.2.1,a84.2.2.2.1,())
 let a87:=eJ a86 [67,72,69,67,75]
 let a88:=eJ a67 [67,72,69,67,75]
 let a89:=(a60.2.1,a60.2.2.1,Q4,())
 let a90:=bN a89
 let a91:=(a90.2.1,a90.2.2.1,a90.2.2.2.1,())
 let a92:=bF a91 [70,82,79,77]
 let a93:=(a92.1,a92.2.1,a92.2.2.1,())
 let a94:=bN a93
 let a95:=(a94.2.1,a94.2.2.1,a94.2.2.2.1,())
 let a96:=bF a95 [44]
 let a97:=(a96.1,a96.2.1,a96.2.2.1,())
 let a98:=bN a97
 let a99:=(a98.2.1,a98.2.2.1,a98.2.2.2.1,())
 let a100:=bF a99 [79,78]
 let a101:=(a100.1,a100.2.1,a100.2.2.1,())
 let a102:=bN a101
 let a103:=(a102.2.1,a102.2.2.1,a102.2.2.2.1,())
 let a104:=eJ a103 [67,72,69,67,75]
 let a105:=bF a95 [66,89]
 let a106:=(a105.1,a105.2.1,a105.2.2.1,())
 let a107:=bN a106
 let a108:=[a107.1]
 let a109:=(a107.2.1,a107.2.2.1,a107.2.2.2.1,())
 let a110:=bF a109 [83,85,77]
 let a111:=(a110.1,a110.2.1,a110.2.2.1,())
 let a112:=bN a111
 let a113:=[a112.1]
 let a114:=(a112.2.1,a112.2.2.1,a112.2.2.2.1,())
 let a115:=eJ a114 [67,72,69,67,75]
 let a116:=eJ a95 [67,72,69,67,75]
 Qc (dM a0 [67,79,80,89])
 (br a1.1
  (Qc (bm a2) (Qc (aV a4 [70,82,79,77]) (Qc (bm a6) (br Q3 (Qc (aV a8 [40]) (Q9 (rb.h14 (bF a8 [40]) ([99,111,112,121],a3.1,a7.1,a9)))) (br Q4 (Qc (aV a8 [44]) (Qc (bm a11) (Qc (aV a13 [79,78]) (Qc (bm a15) (Qc (dF a17 [67,72,69,67,75]) (re (Qe []) (ce aH l7 a18.2
  ([99,111,112,121],a3.1,a7.1,[],a16.1,a18.1,z.t.t.2.1,z.t.t.q.1,z.t.t.q.2.1,z.t.t.t.1,z.t.t.t.2.1,a12.1,())))))))) (br Q4 (Qc (aV a8 [66,89]) (Qc (bm a20) (Qc (Q0 (a22.length<=1073741824)) (Qc (aV a23 [83,85,77]) (Qc (bm a25)
  (Qc (Q0 (a22.length+a27.length<=1073741824)) (Qc (dF a28 [67,72,69,67,75]) (re (Qe []) (ce aH l7 a29.2 ([99,111,112,121],a3.1,a7.1,a22++a27,z.2.2.2.1,a29.1,z.t.t.2)))))))))) (Qc (dF a8 [67,72,69,67,75]) (re (Qe []) (ce aH l7 a30.2
  ([99,111,112,121],a3.1,a7.1,[],z.2.2.2.1,a30.1,z.t.t.2))))))))))
  (Qc (dM a2 [74,79,73,78]) (br a31.1 (Qc (bm a32) (Qc (aV a34 [70,82,79,77]) (Qc (bm a36) (br Q4 (Qc (aV a38 [40]) (Q9 (rb.h14 (bF a38 [40]) ([106,111,105,110],a33.1,a37.1,a9)))) (br Q3 (Qc (aV a38 [44]) (Qc (bm a40) (Qc (aV a42 [79,78]) (Qc (bm a44)
  (Qc (dF a46 [67,72,69,67,75]) (re (Qe []) (ce aH l7 a47.2 ([106,111,105,110],a33.1,a37.1,[],a45.1,a47.1,z.t.t.2.1,z.t.t.q.1,z.t.t.q.2.1,z.t.t.t.1,z.t.t.t.2.1,a41.1,())))))))) (br Q4 (Qc (aV a38 [66,89]) (Qc (bm a49)
  (Qc (Q0 (a51.length<=1073741824)) (Qc (aV a52 [83,85,77]) (Qc (bm a54) (Qc (Q0 (a51.length+a56.length<=1073741824)) (Qc (dF a57 [67,72,69,67,75]) (re (Qe []) (ce aH l7 a58.2 ([106,111,105,110],a33.1,a37.1,a51++a56,z.2.2.2.1,a58.1,z.t.t.2)))))))))) (Qc (dF a38 [67,72,69,67,75])
  (re (Qe []) (ce aH l7 a59.2 ([106,111,105,110],a33.1,a37.1,[],z.2.2.2.1,a59.1,z.t.t.2)))))))))) (Qc (dM a32 [71,82,79,85,80]) (br a60.1 (Qc (bm a61) (Qc (aV a63 [70,82,79,77]) (Qc (bm a65) (br Q4 (Qc (aV a67 [40]) (Q9 (rb.h14 (bF a67 [40]) ([103,114,111,117,112],a62.1,a66.1,a9))))
  (br Q4 (Qc (aV a67 [44]) (Qc (bm a69) (Qc (aV a71 [79,78]) (Qc (bm a73) (Qc (dF a75 [67,72,69,67,75]) (re (Qe []) (ce aH l7 a76.2 ([103,114,111,117,112],a62.1,a66.1,[],a74.1,a76.1,z.t.t.2.1,z.t.t.q.1,z.t.t.q.2.1,
  z.t.t.t.1,z.t.t.t.2.1,a70.1,())))))))) (br Q3 (Qc (aV a67 [66,89]) (Qc (bm a78) (Qc (Q0 (a80.length<=1073741824)) (Qc (aV a81 [83,85,77]) (Qc (bm a83) (Qc (Q0 (a80.length+a85.length<=1073741824)) (Qc (dF a86 [67,72,69,67,75]) (re (Qe []) (ce aH l7 a87.2
  ([103,114,111,117,112],a62.1,a66.1,a80++a85,z.2.2.2.1,a87.1,z.t.t.2)))))))))) (Qc (dF a67 [67,72,69,67,75]) (re (Qe []) (ce aH l7 a88.2 ([103,114,111,117,112],a62.1,a66.1,[],z.2.2.2.1,a88.1,z.t.t.2)))))))))) (Qc (bm a89) (Qc (aV a91 [70,82,79,77]) (Qc (bm a93)
  (br (z.1==[99,111,112,121]) (Qc (aV a95 [40]) (Q9 (rb.h14 (bF a95 [40]) (z.1,a90.1,a94.1,a9)))) (br (z.1==[106,111,105,110]) (Qc (aV a95 [44]) (Qc (bm a97) (Qc (aV a99 [79,78]) (Qc (bm a101) (Qc (dF a103 [67,72,69,67,75]) (re (Qe []) (ce aH l7 a104.2
  (z.1,a90.1,a94.1,[],a102.1,a104.1,z.t.t.2.1,z.t.t.q.1,z.t.t.q.2.1,z.t.t.t.1,z.t.t.t.2.1,a98.1,())))))))) (br (z.1==[103,114,111,117,112]) (Qc (aV a95 [66,89]) (Qc (bm a106) (Qc (Q0 (a108.length<=1073741824)) (Qc (aV a109 [83,85,77]) (Qc (bm a111)
  (Qc (Q0 (a108.length+a113.length<=1073741824)) (Qc (dF a114 [67,72,69,67,75]) (re (Qe []) (ce aH l7 a115.2 (z.1,a90.1,a94.1,a108++a113,z.2.2.2.1,a115.1,z.t.t.2)))))))))) (Qc (dF a95 [67,72,69,67,75]) (re (Qe []) (ce aH l7 a116.2 (z.1,a90.1,a94.1,[],z.2.2.2.1,a116.1,z.t.t.2)))))))))))))))
theorem zbW(y:zn aH)(z:zn iO):rn Ip 2 K1 Tryz.f90 [ptr 0 0,ptr 1 0] (ce aH iO y z)=(RP y z).map (lf Tryz.f90 H5):=kw
def T7:rb->Tr (rb⊕ar)
 | .h14 z0 z1=>
  let a0:=(z0.1,z0.2.1,z0.2.2.1,())
  let a1:=bN a0
  let a2:=[a1.1]
  let a3:=(a1.2.1,a1.2.2.1,a1.2.2.2.1,())
  let a4:=eY a3 [44]
  let a5:=bF a0 [41]
  let a6:=(a5.1,a5.2.1,a5.2.2.1,())
  let a7:=eJ a6 [67,72,69,67,75]
  br z0.2.2.1
  (Qc (bm a0)
   (Qc (Q0 (z1.2.2.2.1.length+a2.length<=1073741824)) (Qc (dM a3 [44]) (Q9 (rb.h14b a4.1 a4.2 (z1.1,z1.2.1,z1.2.2.1,z1.2.2.2.1++a2,z1.t))))))
  (Qc (aV a0 [41])
   (Qc (dF a6 [67,72,69,67,75]) (re (Qe []) (ce aH l7 a7.2 (z1.1,z1.2.1,z1.2.2.1,z1.2.2.2.1,z1.t.1,a7.1,z1.t.t.q)))))
 | .h14b b4 z0 z1=>
  let a0:=(z0.1,z0.2.1,z0.2.2.1,())
  let a1:=bN a0
  let a2:=[a1.1]
  let a3:=(a1.2.1,a1.2.2.1,a1.2.2.2.1,())
  let a4:=eY a3 [44]
  let a5:=bF a0 [41]
  let a6:=(a5.1,a5.2.1,a5.2.2.1,())
  let a7:=eJ a6 [67,72,69,67,75]
  br (bif b4 then z0.2.2.1 else Q4)
  (Qc (bm a0)
   (Qc (Q0 (z1.2.2.2.1.length+a2.length<=1073741824)) (Qc (dM a3 [44]) (Q9 (rb.h14b a4.1 a4.2 (z1.1,z1.2.1,z1.2.2.1,z1.2.2.2.1++a2,z1.t))))))
  (Qc (aV a0 [41])
   (Qc (dF a6 [67,72,69,67,75]) (re (Qe []) (ce aH l7 a7.2 (z1.1,z1.2.1,z1.2.2.1,z1.2.2.2.1,z1.t.1,a7.1,z1.t.t.q)))))
theorem zc3:∀s,run Ip 2 K1 (Func.results Tryz.f90).toList 400 (ae Tryz.f90 (H5 s).1) (H5 s).2=(T7 s).map (lf Tryz.f90 H5)
 |.h14 z0 z1=>by kernel_rfl
 |.h14b b4 z0 z1=>by kernel_rfl
def TQ(y:zn aH)(z:zn iO):Option (zy (List.map some [])×zn aH×zn l7):=M8 [] aH l7 T7 100000000 (RP y z)
def TP(y:zn aH)(z:zn iO):Bool:=(TQ y z).isSome
def Zt(y:zn aH)(z:zn iO):zn aH×zn l7:=(λr:zy (List.map some [])×zn aH×zn l7=>r.2) ((TQ y z).getD (cw [],fS aH,fS l7))
def XB:zY:=Qu aH iO [] [] aH l7 (λy z _=>TP y z) λy z _=>((),Zt y z)
theorem UO:FK 90 XB:=zbo (ps:=aH) (qs:=iO) (ks:=[]) (outs:=[]) (keep:=K1) (gas:=400) (n:=100000000) (e:=H5) (t:=T7) (i:=λy z x=>RP y z) Eh zcV (λy z x=>zbW y z) zc3 (λ_ _ _=>by kernel_rfl) (λ_ _ _=>by kernel_rfl)
def YG:=Ip.add 90 XB
theorem Ei:zx YG:=Eh.add UO
abbrev zic:=lV [(17,[2,4,6,7,8]),(25,[2,4,6,7,9])]
inductive N0 where
 |h17 (l4:LF) (z0:zn iO) (z1:zn aH) (z2:zn iO)
 |h25 (l4:LF) (z0:zn iO) (z1:zn aH) (z2:zn iO)
abbrev zkL:N0->Nat×St
 |.h17 l4 z0 z1 z2=>(17,⟨tm 172 [(2,ptr 0 0),(4,sl zr l4),(6,ptr 1 0),(7,ptr 2 0),(8,kb Q3)],[Qa (bC [] iO z0),Qa (bC [] aH z1),Qa (bC [] iO z2)]⟩)
 |.h25 l4 z0 z1 z2=>(25,⟨tm 172 [(2,ptr 0 0),(4,sl zr l4),(6,ptr 1 0),(7,ptr 2 0),(9,kb Q3)],[Qa (bC [] iO z0),Qa (bC [] aH z1),Qa (bC [] iO z2)]⟩)
def zl0(x0:TS):Tr (N0⊕ar):=
 let a0:=((xw x0).1,0,Q3,())
 let a1:=eY a0 [67,82,69,65,84,69]
 let a2:=(a1.2.1,a1.2.2.1,a1.2.2.2.1,())
 let a3:=eY a2 [68,82,79,80]
 let a4:=(a3.2.1,a3.2.2.1,a3.2.2.2.1,())
 let a5:=bF a4 [84,65,66,76,69]
 let a6:=(a5.1,a5.2.1,a5.2.2.1,())
 let a7:=bN a6
 let a8:=(↑(length (xw x0).1):Int)
 let a9:=([100,114,111,112],a7.1,[],[],[],[],[],[],zf.mk [] (0,0,[]) [] [],[],[],zf.mk [] (0,0,[]) [] [],[])
 let a10:=kO a9
 let a11:=eY a4 [73,78,83,69,82,84]
 let a12:=(a11.2.1,a11.2.2.1,a11.2.2.2.1,())
 let a13:=bF a12 [73,78,84,79]
 let a14:=(a13.1,a13.2.1,a13.2.2.1,())
 let a15:=bN a14
 let a16:=(a15.2.1,a15.2.2.1,a15.2.2.2.1,())
 let a17:=bF a16 [86,65,76,85,69,83]
 let a18:=(a17.1,a17.2.1,a17.2.2.1,())
 let a19:=eY a12 [85,80,68,65,84,69]
 let a20:=(a19.2.1,a19.2.2.1,a19.2.2.2.1,())
 let a21:=bN a20
 let a22:=(a21.2.1,a21.2.2.1,a21.2.2.2.1,())
 let a23:=eY a20 [68,69,76,69,84,69]
 let a24:=(a23.2.1,a23.2.2.1,a23.2.2.2.1,())
 let a25:=bF a24 [70,82,79,77]
 let a26:=(a25.1,a25.2.1,a25.2.2.1,())
 let a27:=bN a26
 let a28:=(a27.2.1,a27.2.2.1,a27.2.2.2.1,())
 let a29:=eJ a28 [87,72,69,82,69]
 let a30:=([100,101,108,101,116,101],a27.1,[],[],[],[],[],[],zf.mk [] (0,0,[]) [] [],[],[],zm a29.1,[])
 let a31:=kO a30
 let a32:=eY a24 [83,69,76,69,67,84]
 let a33:=(a32.2.1,a32.2.2.1,a32.2.2.2.1,())
 let a34:=bF a33 [42]
 let a35:=(a34.1,a34.2.1,a34.2.2.1,())
 let a36:=bF a35 [70,82,79,77]
 let a37:=(a36.1,a36.2.1,a36.2.2.1,())
 let a38:=bN a37
 let a39:=(a38.2.1,a38.2.2.1,a38.2.2.2.1,())
 let a40:=eJ a39 [87,72,69,82,69]
 let a41:=([115,101,108,101,99,116],a38.1,[],[],[],[],[],[],zf.mk [] (0,0,[]) [] [],[],[],zm a40.1,[])
 let a42:=kO a41
 let a43:=eY a33 [71,82,65,78,84]
 let a44:=(a43.2.1,a43.2.2.1,a43.2.2.2.1,())
 let a45:=JF a44 [82,69,65,68]
 let a46:=eY a44 [82,69,86,79,75,69]
 let a47:=(a46.2.1,a46.2.2.1,a46.2.2.2.1,())
 let a48:=JF a47 [82,69,65,68]
 let a49:=eY a47 [77,73,71,82,65,84,69]
 let a50:=(a49.2.1,a49.2.2.1,a49.2.2.2.1,())
 let a51:=Zt a50 ([],[],[],[],[],0,0,[],[],[],0,0,[],[],[],())
 let a52:=(a51.2.1,a51.2.2.1,a51.2.2.2.1,a51.t.1,[],a51.t.2.1,[],[],zm a51.t.q.1,[],[],zf.mk a51.t.q.2.1 (a51.t.t.1,a51.t.t.2.1,a51.t.t.q.1) a51.t.t.q.2.1 [],a51.t.t.t.1)
 let a53:=kO a52
 Qc (GL x0)
 (br (!(xw x0).2)
  (re (Qe [Qd [str [],str [],str [],Qb,Qb,str [],Qb,Qb,str [],ai 0,ai 0,str [],str [],Qb,Qb,Qb,str [],ai 0,ai 0,str [],str [],Qb,str []],kb Q4]) [])
  (Qc (dM a0 [67,82,69,65,84,69]) (br a1.1 Tr.err (Qc (dM a2 [68,82,79,80]) (br a3.1 (Qc (aV a4 [84,65,66,76,69]) (Qc (bm a6) (br (bif !a7.2.2.2.1 then Q3 else a7.2.2.1!=a8) (re (Qe [Qd [str [],str [],str [],Qb,Qb,str [],Qb,Qb,str [],ai 0,
  ai 0,str [],str [],Qb,Qb,Qb,str [],ai 0,ai 0,str [],str [],Qb,str []],kb Q4]) []) (Qc (iz a9) (br (!a10.2) (re (Qe [Qd [str [],str [],str [],Qb,Qb,str [],Qb,Qb,str [],ai 0,
  ai 0,str [],str [],Qb,Qb,Qb,str [],ai 0,ai 0,str [],str [],Qb,str []],kb Q4]) []) (re (Qe [Qd [str [100,114,111,112],str a7.1,str [],Qb,Qb,str [],Qb,Qb,str [],
  ai 0,ai 0,str [],str [],Qb,Qb,Qb,str [],ai 0,ai 0,str [],str [],Qb,str []],kb Q3]) [])))))) (Qc (dM a4 [73,78,83,69,82,84]) (br a11.1 (Qc (aV a12 [73,78,84,79]) (Qc (bm a14) (Qc (aV a16 [86,65,76,85,69,83]) (Qc (aV a18 [40]) (Q9
  (N0.h17 (xw x0).1 ([],[],[],[],[],0,0,[],[],[],0,0,[],[],[],()) (bF a18 [40]) ([105,110,115,101,114,116],a15.1,[],[],[],0,0,[],[],[],0,0,[],[],[],()))))))) (Qc (dM a12 [85,80,68,65,84,69]) (br a19.1 (Qc (bm a20) (Qc (aV a22 [83,69,84]) (Q9
  (N0.h25 (xw x0).1 ([],[],[],[],[],0,0,[],[],[],0,0,[],[],[],()) (bF a22 [83,69,84]) ([117,112,100,97,116,101],a21.1,[],[],[],0,0,[],[],[],0,0,[],[],[],()))))) (Qc (dM a20 [68,69,76,69,84,69]) (br a23.1 (Qc (aV a24 [70,82,79,77]) (Qc (bm a26) (Qc (dF a28 [87,72,69,82,69])
  (br (bif !a29.2.2.2.1 then Q3 else a29.2.2.1!=a8) (re (Qe [Qd [str [],str [],str [],Qb,Qb,str [],Qb,Qb,str [],ai 0,ai 0,str [],str [],Qb,Qb,Qb,str [],ai 0,ai 0,str [],str [],Qb,str []],kb Q4]) []) (Qc (iz a30) (br (!a31.2)
  (re (Qe [Qd [str [],str [],str [],Qb,Qb,str [],Qb,Qb,str [],ai 0,ai 0,str [],str [],Qb,Qb,Qb,str [],ai 0,ai 0,str [],str [],Qb,str []],kb Q4]) []) (re (Qe [Qd
  [str [100,101,108,101,116,101],str a27.1,str [],Qb,Qb,str [],Qb,Qb,str [],ai 0,ai 0,str [],str [],Qb,Qb,Qb,str (zf.op a29.1),ai (zf.v a29.1).1,ai (zf.v a29.1).2.1,str (zf.v a29.1).2.2,str (zf.s a29.1),sl Q5 (zf.l a29.1),str []],
  kb Q3]) []))))))) (Qc (dM a24 [83,69,76,69,67,84]) (br a32.1 (Qc (aV a33 [42]) (Qc (aV a35 [70,82,79,77]) (Qc (bm a37) (Qc (dF a39 [87,72,69,82,69]) (br (bif !a40.2.2.2.1 then Q3 else a40.2.2.1!=a8) (re (Qe [Qd
  [str [],str [],str [],Qb,Qb,str [],Qb,Qb,str [],ai 0,ai 0,str [],str [],Qb,Qb,Qb,str [],ai 0,ai 0,str [],str [],Qb,str []],kb Q4]) []) (Qc (iz a41) (br (!a42.2) (re (Qe [Qd
  [str [],str [],str [],Qb,Qb,str [],Qb,Qb,str [],ai 0,ai 0,str [],str [],Qb,Qb,Qb,str [],ai 0,ai 0,str [],str [],Qb,str []],kb Q4]) []) (re (Qe [Qd
  [str [115,101,108,101,99,116],str a38.1,str [],Qb,Qb,str [],Qb,Qb,str [],ai 0,ai 0,str [],str [],Qb,Qb,Qb,str (zf.op a40.1),ai (zf.v a40.1).1,ai (zf.v a40.1).2.1,str (zf.v a40.1).2.2,str (zf.s a40.1),sl Q5 (zf.l a40.1),str []],
  kb Q3]) [])))))))) (Qc (dM a33 [71,82,65,78,84]) (br a43.1 (Qc (GV a44 [82,69,65,68]) (br a45.1 Tr.err Tr.err)) (Qc (dM a44 [82,69,86,79,75,69]) (br a46.1 (Qc (GV a47 [82,69,65,68]) (br a48.1 Tr.err Tr.err)) (Qc (dM a47 [77,73,71,82,65,84,69]) (br a49.1
  (Qc (TP a50 ([],[],[],[],[],0,0,[],[],[],0,0,[],[],[],())) (br (bif !a51.1.2.2.1 then Q3 else a51.1.2.1!=a8) (re (Qe [Qd [str [],str [],str [],Qb,Qb,str [],Qb,Qb,str [],ai 0,ai 0,str [],str [],Qb,Qb,Qb,str [],
  ai 0,ai 0,str [],str [],Qb,str []],kb Q4]) []) (Qc (iz a52) (br (!a53.2) (re (Qe [Qd [str [],str [],str [],Qb,Qb,str [],Qb,Qb,str [],ai 0,ai 0,str [],str [],Qb,Qb,Qb,
  str [],ai 0,ai 0,str [],str [],Qb,str []],kb Q4]) []) (re (Qe [Qd [str a51.2.1,str a51.2.2.1,str a51.2.2.2.1,AV.vec 0,Qb,str a51.t.2.1,Qb,Qb,str (zf.op a51.t.q.1),ai (zf.v a51.t.q.1).1,ai (zf.v a51.t.q.1).2.1,
  str (zf.v a51.t.q.1).2.2,str (zf.s a51.t.q.1),sl Q5 (zf.l a51.t.q.1),Qb,Qb,str a51.t.q.2.1,ai a51.t.t.1,ai a51.t.t.2.1,str a51.t.t.q.1,str a51.t.t.q.2.1,Qb,str a51.t.t.t.1],kb Q3])
  [AO.vec Q6 a51.t.1]))))) (br (bif !a49.2.2.2.1 then Q3 else a49.2.2.1!=a8) (re (Qe [Qd [str [],str [],str [],Qb,Qb,str [],Qb,Qb,str [],ai 0,ai 0,str [],str [],Qb,Qb,Qb,str [],ai 0,ai 0,str [],str [],Qb,str []],kb Q4]) [])
  (Qc Q3 (br Q3 (re (Qe [Qd [str [],str [],str [],Qb,Qb,str [],Qb,Qb,str [],ai 0,ai 0,str [],str [],Qb,Qb,Qb,str [],ai 0,ai 0,str [],str [],Qb,str []],kb Q4]) []) (re (Qe [Qd
  [str [],str [],str [],Qb,Qb,str [],Qb,Qb,str [],ai 0,ai 0,str [],str [],Qb,Qb,Qb,str [],ai 0,ai 0,str [],str [],Qb,str []],kb Q3]) [])))))))))))))))))))))))
def zmy:N0->Tr (N0⊕ar)
 | .h17 l4 _ z1 z2=>
  let a0:=(z1.1,z1.2.1,z1.2.2.1,())
  let a1:=bF a0 [41]
  let a2:=(z2.1,z2.2.1,z2.2.2.1,[],[],z2.2.2.2.1,[],[],zf.mk z2.t.1 (z2.t.2.1,z2.t.q.1,z2.t.q.2.1) z2.t.t.1 [],[],[],zf.mk z2.t.t.2.1 (z2.t.t.q.1,z2.t.t.q.2.1,z2.t.t.t.1) z2.t.t.t.2.1 [],z2.t.t.t.q.1)
  let a3:=kO a2
  br z1.2.2.1 Tr.err
  (Qc (aV a0 [41])
   (br (bif !a1.2.2.1 then Q3 else a1.2.1!=(↑l4.length:Int)) (re (Qe [Qd [str [],str [],str [],Qb,Qb,str [],Qb,Qb,str [],ai 0,ai 0,str [],str [],Qb,Qb,Qb,str [],ai 0,ai 0,str [],str [],Qb,str []],kb Q4]) []) (Qc (iz a2)
   (br (!a3.2) (re (Qe [Qd [str [],str [],str [],Qb,Qb,str [],Qb,Qb,str [],ai 0,ai 0,str [],str [],Qb,Qb,Qb,str [],ai 0,ai 0,str [],str [],Qb,str []],kb Q4]) []) (re (Qe [Qd
   [str z2.1,str z2.2.1,str z2.2.2.1,Qb,Qb,str z2.2.2.2.1,Qb,Qb,str z2.t.1,ai z2.t.2.1,ai z2.t.q.1,str z2.t.q.2.1,str z2.t.t.1,Qb,Qb,Qb,str z2.t.t.2.1,ai z2.t.t.q.1,
   ai z2.t.t.q.2.1,str z2.t.t.t.1,str z2.t.t.t.2.1,Qb,str z2.t.t.t.q.1],kb Q3]) [])))))
 | .h25 l4 _ z1 z2=>
  let a0:=(z1.1,z1.2.1,z1.2.2.1,())
  let a1:=bN a0
  let a2:=eJ a0 [87,72,69,82,69]
  let a3:=(z2.1,z2.2.1,z2.2.2.1,[],[],z2.2.2.2.1,[],[],zf.mk z2.t.1 (z2.t.2.1,z2.t.q.1,z2.t.q.2.1) z2.t.t.1 [],[],[],zm a2.1,z2.t.t.t.q.1)
  let a4:=kO a3
  br z1.2.2.1 (Qc (bm a0) (Qc (aV (a1.2.1,a1.2.2.1,a1.2.2.2.1,()) [61]) Tr.err))
  (Qc (dF a0 [87,72,69,82,69])
   (br (bif !a2.2.2.2.1 then Q3 else a2.2.2.1!=(↑l4.length:Int)) (re (Qe [Qd [str [],str [],str [],Qb,Qb,str [],Qb,Qb,str [],ai 0,ai 0,str [],str [],Qb,Qb,Qb,str [],ai 0,ai 0,str [],str [],Qb,str []],kb Q4]) []) (Qc (iz a3)
   (br (!a4.2) (re (Qe [Qd [str [],str [],str [],Qb,Qb,str [],Qb,Qb,str [],ai 0,ai 0,str [],str [],Qb,Qb,Qb,str [],ai 0,ai 0,str [],str [],Qb,str []],kb Q4]) []) (re (Qe [Qd
   [str z2.1,str z2.2.1,str z2.2.2.1,Qb,Qb,str z2.2.2.2.1,Qb,Qb,str z2.t.1,ai z2.t.2.1,ai z2.t.q.1,str z2.t.q.2.1,str z2.t.t.1,Qb,Qb,Qb,str (zf.op a2.1),ai (zf.v a2.1).1,ai (zf.v a2.1).2.1,
   str (zf.v a2.1).2.2,str (zf.s a2.1),sl Q5 (zf.l a2.1),str z2.t.t.t.q.1],kb Q3]) [])))))
def Cd(x0:TS):=ao [zl,Q7] zmy 100000000 (zl0 x0)
def TL(x0:TS):=(Cd x0).isSome
def cC(x0:TS):=o2 (Cd x0)
def zeQ:=FT [Q6] [zl,Q7] λx=>Cd x.1
theorem zaX:FK 51 zeQ:=Ei.T1 (f:=Tryz.f51) (keep:=zic) (e:=zkL)
def YH:=YG.add 51 zeQ
theorem Ej:zx YH:=Ei.add zaX
def zlW(x0:TS):Tr (Empty⊕ar):=
 Qc (TL x0)
 (re
  (Qd [str (cC x0).1.1,str (cC x0).1.2.1,str (cC x0).1.2.2.1,sl Q6 (cC x0).1.2.2.2.1,sl zj (cC x0).1.t.1,str (cC x0).1.t.2.1,sl Q6 (cC x0).1.t.q.1,sl (Sh.str.pr Q6) (cC x0).1.t.q.2.1,str (zf.op (cC x0).1.t.t.1),
  ai (zf.v (cC x0).1.t.t.1).1,ai (zf.v (cC x0).1.t.t.1).2.1,str (zf.v (cC x0).1.t.t.1).2.2,str (zf.s (cC x0).1.t.t.1),sl Q5 (zf.l (cC x0).1.t.t.1),sl ze (cC x0).1.t.t.2.1,sl (Sh.str.pr Q5) (cC x0).1.t.t.q.1,
  str (zf.op (cC x0).1.t.t.q.2.1),ai (zf.v (cC x0).1.t.t.q.2.1).1,ai (zf.v (cC x0).1.t.t.q.2.1).2.1,str (zf.v (cC x0).1.t.t.q.2.1).2.2,str (zf.s (cC x0).1.t.t.q.2.1),sl Q5 (zf.l (cC x0).1.t.t.q.2.1),
  str (cC x0).1.t.t.t])
  [])
def zis(x0:TS):=ao [zl] t0 100000000 (zlW x0)
def zei:=FT [Q6] [zl] λx=>zis x.1
theorem zak:FK 28 zei:=Ej.T1 (f:=Tryz.f28) (keep:=k0) (e:=e0)
def YI:=YH.add 28 zei
theorem j9:zx YI:=Ej.add zak
def Y1(x0:Sem ze)(x1:Sem ze):Tr (Empty⊕ar):=
 let a0:=x0.1==x1.1&&(x0.2.1==x1.2.1&&(x0.2.2==x1.2.2&&Q3))
 let a1:=aU a0
 Qc (mr x0 x1)
 (br (qi x0 x1) (re (Qd [ai 0,ai 0,str []]) [])
  (Qc (kM a0) (re (Qd [ai a1.1,ai a1.2.1,str a1.2.2]) [])))
def pd(x0:Sem ze)(x1:Sem ze):=ao [ze] t0 100000000 (Y1 x0 x1)
def tU(x0:Sem ze)(x1:Sem ze):=(pd x0 x1).isSome
def qf(x0:Sem ze)(x1:Sem ze):=o1 (pd x0 x1)
def X0:=FT [ze,ze] [ze] λx=>pd x.1 x.2.1
theorem Vg:FK 214 X0:=j9.T1 (f:=Tryz.f214) (keep:=k0) (e:=e0)
def Y2(x0:Sem ze)(x1:Sem ze):Tr (Empty⊕ar):=
 let a0:=Op.bytesLess x0.2.2 x1.2.2
 let a1:=aU a0
 Qc (mr x0 x1)
 (br (qi x0 x1) (re (Qd [ai 0,ai 0,str []]) [])
  (br (Q0 (x0.2.1<x1.2.1)) (Qc Q3 (re (Qd [ai (aU Q3).1,ai (aU Q3).2.1,str (aU Q3).2.2]) [])) (Qc (kM a0) (re (Qd [ai a1.1,ai a1.2.1,str a1.2.2]) []))))
def tV(x0:Sem ze)(x1:Sem ze):=ao [ze] t0 100000000 (Y2 x0 x1)
def yq(x0:Sem ze)(x1:Sem ze):=(tV x0 x1).isSome
def wm(x0:Sem ze)(x1:Sem ze):=o1 (tV x0 x1)
def X1:=FT [ze,ze] [ze] λx=>tV x.1 x.2.1
theorem Vh:FK 215 X1:=j9.T1 (f:=Tryz.f215) (keep:=k0) (e:=e0)
def Y3(x0:Sem ze)(x1:Sem ze):Tr (Empty⊕ar):=
 let a0:=IntKind.i64.wrap (9223372036854775807-x1.2.1)
 let a1:=IntKind.i64.wrap (-9223372036854775808-x1.2.1)
 let a2:=bif Q0 (x1.2.1<0)then Q0 (x0.2.1<a1)else Q4
 Qc (mr x0 x1)
 (br (bif qi x0 x1 then Q3 else x0.1!=1) (re (Qd [ai 0,ai 0,str []]) [])
  (br (bif Q0 (x1.2.1>0)then bif Q0 (x0.2.1>a0)then Q3 else a2 else a2) (re (Qd [ai 0,ai 0,str []]) []) (re (Qd [ai 1,ai (IntKind.i64.wrap (x0.2.1+x1.2.1)),str []]) [])))
def tX(x0:Sem ze)(x1:Sem ze):=ao [ze] t0 100000000 (Y3 x0 x1)
def yr(x0:Sem ze)(x1:Sem ze):=(tX x0 x1).isSome
def wn(x0:Sem ze)(x1:Sem ze):=o1 (tX x0 x1)
def X2:=FT [ze,ze] [ze] λx=>tX x.1 x.2.1
theorem Vi:FK 216 X2:=j9.T1 (f:=Tryz.f216) (keep:=k0) (e:=e0)
def Y4(x0:Sem ze)(x1:Sem ze):Tr (Empty⊕ar):=
 let a0:=IntKind.i64.wrap (-9223372036854775808+x1.2.1)
 let a1:=IntKind.i64.wrap (9223372036854775807+x1.2.1)
 let a2:=bif Q0 (x1.2.1<0)then Q0 (x0.2.1>a1)else Q4
 Qc (mr x0 x1)
 (br (bif qi x0 x1 then Q3 else x0.1!=1) (re (Qd [ai 0,ai 0,str []]) [])
  (br (bif Q0 (x1.2.1>0)then bif Q0 (x0.2.1<a0)then Q3 else a2 else a2) (re (Qd [ai 0,ai 0,str []]) []) (re (Qd [ai 1,ai (IntKind.i64.wrap (x0.2.1-x1.2.1)),str []]) [])))
def pf(x0:Sem ze)(x1:Sem ze):=ao [ze] t0 100000000 (Y4 x0 x1)
def tW(x0:Sem ze)(x1:Sem ze):=(pf x0 x1).isSome
def qh(x0:Sem ze)(x1:Sem ze):=o1 (pf x0 x1)
def X3:=FT [ze,ze] [ze] λx=>pf x.1 x.2.1
theorem Vj:FK 217 X3:=j9.T1 (f:=Tryz.f217) (keep:=k0) (e:=e0)
def YQ(x0:Sem Q5)(x1:Sem zj.sl):Tr (Empty⊕ar):=
 br (zf.op x0==[])
 (Qc (gE (zm x0) (zf.mk [] (0,0,[]) [] []))
  (br (!eW (zm x0) (zf.mk [] (0,0,[]) [] [])) (re (ai 1) []) (re (ai 0) [])))
 (Qc (wo (zm x0))
  (br (!EU (zm x0)) (re (ai 1) []) (Qc (nt (zm x0) x1) (br ((iv (zm x0) x1).2!=0) (re (ai (iv (zm x0) x1).2) []) (br (bif (iv (zm x0) x1).1!=0 then(iv (zm x0) x1).1!=3 else Q4) (re (ai 5) []) (re (ai 0) []))))))
def pk(x0:Sem Q5)(x1:Sem zj.sl):=ao [zg] t0 100000000 (YQ x0 x1)
def B2(x0:Sem Q5)(x1:Sem zj.sl):=(pk x0 x1).isSome
def GB(x0:Sem Q5)(x1:Sem zj.sl):=o1 (pk x0 x1)
def Xq:=FT [Q5,zj.sl] [zg] λx=>pk x.1 x.2.1
theorem UC:FK 172 Xq:=j9.T1 (f:=Tryz.f172) (keep:=k0) (e:=e0)
def FF:=YI.addL [(214,X0),(215,X1),(216,X2),(217,X3),(172,Xq)]
theorem rX:zx FF:=j9.addL<|fc Vg<|fc Vh<|fc Vi<|fc Vj<|fc UC iV
open Go
theorem H2{n b0 b1 b2 b3:Nat}(h:b0<128):Lib.decodeN n b0 b1 b2 b3=(b0,1):=by
 unfold Lib.decodeN;rw[if_pos h]
theorem Fv{n b0 b1 b2 b3:Nat}(h:¬b0<128):128<=(Lib.decodeN n b0 b1 b2 b3).1:=by
 unfold Lib.decodeN;rw[if_neg h];repeat' split
 all_goals(simp only;omega)
theorem I5{p:Nat->Bool}(hp:∀c:Nat,p c=Q3↔(c<32\/c>126))(s:List UInt8):∀(f pos:Nat),s.length<=pos+f->(Lib.idxFuncFrom p Q3 ⟨s.toArray⟩ f pos<0↔∀(i:Nat)(h:i<s.length),pos<=i->32<=s[i].toNat/\s[i].toNat<=126)
 | 0,pos,h=>by
  simp only[Lib.idxFuncFrom];exact⟨λ_ i hi hpi=>absurd hi (by omega),λ_=>by decide⟩
 | f + 1,pos,h=>by
  have hsz:(⟨s.toArray⟩:ByteArray).size=s.length:=by simp[ByteArray.size]
  rw[Lib.idxFuncFrom,hsz];by_cases hlt:pos<s.length
  ·have hb:((⟨s.toArray⟩:ByteArray).get! pos)=s[pos]:=by
    simp[ByteArray.get!,hlt]
   rw[if_pos hlt,Lib.decode_at,hb];by_cases h8:s[pos].toNat<128
   ·rw[H2 h8];simp only;by_cases ho:p s[pos].toNat=Q3
    ·rw[if_pos ho];have:=(hp _).1 ho;exact⟨λh=>absurd h (by omega),λh=>by have:=h pos hlt (az _);omega⟩
    ·rw[if_neg ho,I5 hp s f (pos+1) (by omega)];have hn:¬(s[pos].toNat<32\/s[pos].toNat>126):=λh=>ho ((hp _).2 h)
     refine⟨λh i hi hpi=>?_,λh i hi hpi=>h i hi (by omega)⟩;by_cases e:i=pos
     ·subst e;omega
     ·exact h i hi (by omega)
   ·have hh:=Fv (n:=(⟨s.toArray⟩:ByteArray).size-pos) (b1:=((⟨s.toArray⟩:ByteArray).get! (pos+1)).toNat) (b2:=((⟨s.toArray⟩:ByteArray).get! (pos+2)).toNat) (b3:=((⟨s.toArray⟩:ByteArray).get! (pos+3)).toNat) h8;rw[if_pos ((hp _).2 (by omega))];exact⟨λh=>absurd h (by omega),λh=>by have:=h pos hlt (az _);omega⟩
  ·rw[if_neg hlt];exact⟨λ_ i hi hpi=>absurd hi (by omega),λ_=>by decide⟩
theorem ST{p:Nat->Bool}(hp:∀c:Nat,p c=Q3↔(c<32\/c>126))(s:List UInt8):Lib.idxFunc p Q3 ⟨s.toArray⟩<0↔∀b∈s,32<=b.toNat/\b.toNat<=126:=by
 have hsz:(⟨s.toArray⟩:ByteArray).size=s.length:=by simp[ByteArray.size]
 unfold Lib.idxFunc;rw[I5 hp s _ 0 (by omega)];constructor
 ·intro h b hb;obtain⟨i,hi,rfl⟩:=gn hb;exact h i hi (aZ _)
 ·intro h i hi _;exact h _ (bu hi)
theorem gi{c g:Bool}(h1:c=Q3)(h2:g=Q3):(if c=Q3 then g else Q4)=Q3:=by rw[if_pos h1];exact h2
theorem ei{a b:Nat}(h:a<=b):Q0 (a<=b)=Q3:=zu h
theorem Ff{v:Sem ze}(h:aW v=Q3)(h2:(v.1==2)=Q3):v.2.2.length<=40:=by
 have e:v.1=2:=by simpa using h2
 unfold aW at h;rw[e]at h;simp only[show((2:Int)==0)=Q4 from rfl,show((2:Int)==1)=Q4 from rfl,show((2:Int)==2)=Q3 from rfl,zE,if_false,if_true]at h;cases h1:v.2.1==0
 ·rw[h1]at h;simp at h
 ·rw[h1]at h;cases h3:Q0 ((v.2.2.length:Int)<=40)
  ·rw[h3]at h;simp at h
  ·have:=ll h3;omega
theorem J4(v:Sem ze):wH v=Q3:=by
 unfold wH;split
 ·rfl
 ·rename_i hm;have hm:aW v=Q3:=by simpa using hm
  split
  ·rfl
  ·split
   ·rename_i h2;have hl:=Ff hm h2;have hr:=kQ v.2.2 [39] [39,39];have hr2:(Lib.replaceAll v.2.2 [39] [39,39]).length<=200:=by
     simp only[fb,nM]at hr;omega
    refine gi ?_ (gi (ei ?_) (gi (ei ?_) rfl))
    ·unfold ur;simp;omega
    ·simp;omega
    ·simp;omega
   ·rfl
theorem wI(v:Sem ze):(g8 v).length<=300:=by
 unfold g8;split
 ·simp
 ·rename_i hm;have hm:aW v=Q3:=by simpa using hm
  split
  ·have:=Ez v.2.1;omega
  ·split
   ·rename_i h2;have hl:=Ff hm h2;have hr:=kQ v.2.2 [39] [39,39];simp only[fb,nM]at hr;simp;omega
   ·split
    ·split<;>simp
    ·simp
theorem Fj{s:zB}(h:dT s=Q3):s.length<=16:=by
 have h:pD s=Q3:=h;unfold pD at h;by_cases h2:(s.length:Int)<=16
 ·omega
 ·exfalso;rw[aj h2]at h;cases h1:Q0 ((s.length:Int)>=1)<;>rw[h1]at h<;>simp at h
theorem SI{g:zf->Int->Int->Bool×Int}{e:zf}{d n:Int}(h:(xN g e d n).1=Q3)(hc:e.op=[99,111,108]):e.s.length<=16:=by
 unfold xN at h;split at h
 ·cases h
 ·split at h
  ·rename_i h1;rw[hc]at h1;simp at h1
  ·split at h
   ·cases h1:aY e.v
    ·rw[h1]at h;simp at h
    ·rw[h1]at h;cases h2:dT e.s
     ·rw[h2]at h;simp at h
     ·exact Fj h2
   ·rename_i h1;rw[hc]at h1;simp at h1
theorem Hp(s:zB):(Lib.toUpperA s).length=s.length:=by simp[Lib.toUpperA]
theorem AF:∀(N:Nat)(e:zf)(d n:Int),N<=16->(ia N e d n).1=Q3->gB N e=Q3/\(aP N e).length<=400*2^N-100
 |0,_,_,_,_,h=>by cases h
 | N + 1,e,d,n,hN,h=>by
  rw[ia]at h;obtain⟨hl,h2⟩:=wc h;have hp:2^N<=2^15:=DD ow ow;have hp1:1<=2^N:=Nat.one_le_two_pow;have hpp:2^(N+1)=2*2^N:=by rw[Aq];omega
  have hparts:∀x∈e.l,gB N x=Q3/\(aP N x).length<=400*2^N-100:=by
   intro x hx;rcases h2 with h2|h2
   ·exfalso;have:cK e.op=0:=by
     rcases h2 with h2|h2<;>rw[h2]<;>decide
    rw[this]at hl;have:e.l=[]:=xI ow;rw[this]at hx;simp at hx
   ·obtain⟨m,hm⟩:=tM e.l _ h2 x hx;exact AF N x _ _ ow hm
  have hget:∀i,i<e.l.length->e.l.getD i (zi Q5)∈e.l:=by
   intro i hi;rw[bd,zS hi];exact bu hi
  rw[gB,aP];unfold xZ rW;rcases lz e.op with⟨hp0,hop|hop⟩|⟨hp0,hop|hop⟩|⟨hp0,hop⟩|hp0
  ·rw[hop];simp only[beq_self_eq_true,if_true];refine⟨gi (J4 _) rfl,?_⟩;have:=wI e.v;omega
  ·have hs:=SI h hop;rw[hop];refine⟨rfl,?_⟩;show e.s.length<=_;omega
  ·rw[hp0]at hl;have hlen:e.l.length=1:=by omega
   obtain⟨k1,k2⟩:=hparts _ (hget 0 ow);rw[hop];refine⟨gi ?_ (gi k1 (gi (ei ?_) (gi (ei ?_) rfl))),?_⟩
   ·simp[zN,hlen]
   ·simp at k2⊢;omega
   ·simp at k2⊢;omega
   ·show([40,78,79,84,32]++aP N (e.l.getD 0 (zi Q5))++[41]).length<=_;simp at k2⊢;omega
  ·rw[hp0]at hl;have hlen:e.l.length=1:=by omega
   obtain⟨k1,k2⟩:=hparts _ (hget 0 ow);rw[hop];refine⟨gi ?_ (gi k1 (gi (ei ?_) (gi (ei ?_) rfl))),?_⟩
   ·simp[zN,hlen]
   ·simp at k2⊢;omega
   ·simp at k2⊢;omega
   ·show([40]++aP N (e.l.getD 0 (zi Q5))++[32,73,83,32,78,85,76,76,41]).length<=_;simp at k2⊢;omega
  ·rw[hp0]at hl;have hlen:e.l.length=2:=by omega
   obtain⟨k1,k2⟩:=hparts _ (hget 0 ow);obtain⟨k3,k4⟩:=hparts _ (hget 1 ow);have hu:(Q0 (e.op.length<=140737488355328)&&e.op.all λb=>Q0 (b.toNat<128))=Q3:=by
    rcases hop with hop|hop|hop|hop|hop|hop<;>rw[hop]<;>decide
   have hol:e.op.length<=3:=by
    rcases hop with hop|hop|hop|hop|hop|hop<;>rw[hop]<;>simp
   have hul:=Hp e.op;have n1:(e.op==[108,105,116])=Q4:=by rcases hop with hop|hop|hop|hop|hop|hop<;>rw[hop]<;>rfl
   have n2:(e.op==[99,111,108])=Q4:=by rcases hop with hop|hop|hop|hop|hop|hop<;>rw[hop]<;>rfl
   have n3:(e.op==[110,111,116])=Q4:=by rcases hop with hop|hop|hop|hop|hop|hop<;>rw[hop]<;>rfl
   have n4:(e.op==[110,117,108,108])=Q4:=by rcases hop with hop|hop|hop|hop|hop|hop<;>rw[hop]<;>rfl
   simp only[n1,n2,n3,n4,zE,if_false];refine⟨gi ?_ (gi k1 (gi (ei ?_) (gi (ei ?_) (gi hu (gi (ei ?_) (gi (ei ?_) (gi ?_ (gi k3 (gi (ei ?_) (gi (ei ?_) rfl)))))))))),?_⟩
   ·simp[zN,hlen]
   all_goals first
    |(simp[zN,hlen];done)
    |(simp at k2 k4⊢;omega)
  ·rw[hp0]at hl;omega
theorem FR(e:zf):pQ e=Q3:=by
 unfold pQ;split
 ·rfl
 ·rename_i h;exact gi (AF 16 e 1 0 ow (by simpa[dc]using h)).1 rfl
theorem KM(e:zf):(mZ e).1.length<=30000000:=by
 unfold mZ;split
 ·simp
 ·rename_i h;have:=(AF 16 e 1 0 ow (by simpa[dc]using h)).2;show(aP 16 e).length<=_;omega
theorem yk(p:Int->Bool):∀s:zB,cF p s<=s.length
 |[]=>by simp[cF]
 | c::r=>by
  have:=yk p r;rw[cF];split<;>simp<;>omega
theorem qF(f m:Int->Bool)(s:zB):aL f m s<=s.length:=by
 cases s with
 |nil=>simp[aL]
 | cons c r=>
  have:=yk m r;rw[aL];split<;>simp<;>omega
theorem Uq(i:Nat)(h:i<=4000000000):IntKind.i64.wrap (i:Int)=(i:Int):=by
 have:=zp (i-1) um;cases i with
 |zero=>rfl
 |succ i=>simpa using this
theorem pE(i:Nat)(h:i<=4000000000):IntKind.i64.wrap ((i:Int)+1)=((i+1:Nat):Int):=zp i um
theorem nz:∀(n:Nat)(s:zB)(i:Nat)(a:Int)(b:zB),1<=i->i<=s.length->s.length+2<=n+i->s.length<=1000000000->iY n s (i:Int) a b=Q3
 |0,s,i,a,b,h1,h2,h3,h4=>by omega
 | n + 1,s,i,a,b,h1,h2,h3,h4=>by
  rw[iY];split
  ·rename_i hlt;have hlt:i<s.length:=by have:=ll hlt;omega
   refine gi (zt hlt) ?_;rw[pE i ow];split
   ·exact nz n s (i+1) a b ow ow ow h4
   ·refine gi ?_ ?_
    ·cases hd:Q0 (((i+1:Nat):Int)<(s.length:Int))
     ·rfl
     ·exact zt (by have:=ll hd;omega)
    ·split
     ·rename_i hh;have h5:i+1<s.length:=by
       cases hd:Q0 (((i+1:Nat):Int)<(s.length:Int))
       ·rw[hd]at hh;simp at hh
       ·have:=ll hd;omega
      rw[pE (i+1) ow];exact nz n s (i+1+1) a b ow ow ow h4
     ·refine gi ?_ (gi ?_ rfl)
      ·simp;omega
      ·unfold ur;simp;omega
  ·rfl
theorem sE:∀(n:Nat)(s:zB)(i:Nat)(a:Int)(b:zB),1<=i->i<=s.length->s.length+2<=n+i->s.length<=1000000000->
  (eP n s (i:Int) a b=((0,[]),0))\/∃k:Nat,(eP n s (i:Int) a b).2=(k:Int)/\1<=k/\k<=s.length
 |0,s,i,a,b,h1,h2,h3,h4=>by omega
 | n + 1,s,i,a,b,h1,h2,h3,h4=>by
  rw[eP];split
  ·rename_i hlt;have hlt:i<s.length:=by have:=ll hlt;omega
   rw[pE i ow];split
   ·exact sE n s (i+1) a b ow ow ow h4
   ·split
    ·rename_i hh;have h5:i+1<s.length:=by
      cases hd:Q0 (((i+1:Nat):Int)<(s.length:Int))
      ·rw[hd]at hh;simp at hh
      ·have:=ll hd;omega
     rw[pE (i+1) ow];exact sE n s (i+1+1) a b ow ow ow h4
    ·exact .inr ⟨i+1,rfl,ow,ow⟩
  ·exact .inl rfl
theorem Hq(t:Sem bW):qM t=Q3:=by
 unfold qM;split
 ·rfl
 ·split
  ·refine gi ?_ rfl;cases h:((t.2.length:Int)==1)
   ·rfl
   ·have:(t.2.length:Int)=1:=by simpa using h
    simp only[ah,ba];omega
  ·simp
theorem CU(s:zB)(h0:s≠[])(h1:s.length<=1000000000):kh s=Q3:=by
 have hl:1<=s.length:=by cases s with|nil=>exact absurd rfl h0|cons _ _=>simp
 have r1:=qF aI bq s;have r2:=qF zW zW s;have hq:jW s=Q3:=nz (s.length+1) s 1 _ _ ow hl ow h1;have hb:zN 0 s.length=Q3:=zt hl;have d1:(Q0 ((0:Int)<=0)&&Q0 (0<=(↑(aL aI bq s):Int))&&Q0 ((↑(aL aI bq s):Int)<=(↑(length s):Int)))=Q3:=by simp;omega
 have d2:(Q0 ((0:Int)<=0)&&Q0 (0<=(↑(aL zW zW s):Int))&&Q0 ((↑(aL zW zW s):Int)<=(↑(length s):Int)))=Q3:=by simp;omega
 have d3:(Q0 ((0:Int)<=0)&&Q0 ((0:Int)<=1)&&Q0 (1<=(↑(length s):Int)))=Q3:=by simp;omega
 unfold kh;simp only[hq,hb,if_true,zE,if_false];repeat' split
 all_goals first
  |rfl
  |(rename_i h;exfalso;apply h;simp;omega)
theorem uN(s:zB)(h0:s≠[])(h1:s.length<=1000000000)(hm:cd (bB s).1=Q3):∃k:Nat,(bB s).2=(k:Int)/\1<=k/\k<=s.length:=by
 have hl:1<=s.length:=by cases s with|nil=>exact absurd rfl h0|cons _ _=>simp
 have r1:=qF aI bq s;have r2:=qF zW zW s;have hq:=sE (s.length+1) s 1 0 [] ow hl ow h1;unfold bB at hm⊢;simp only[if_true,zE,if_false]at hm⊢;split
 ·rename_i h;have:=ll h;exact⟨_,rfl,ow,ow⟩
 ·rename_i h;rw[if_neg h]at hm;split
  ·rename_i h2;have:=ll h2;exact⟨_,rfl,ow,ow⟩
  ·rename_i h2;rw[if_neg h2]at hm;split
   ·rename_i h3;rw[if_pos h3]at hm;rcases hq with hq|⟨k,hk,hk1,hk2⟩
    ·exfalso;have hqq:dV s=((0,[]),0):=hq;rw[hqq]at hm;revert hm;decide
    ·exact⟨k,hk,hk1,hk2⟩
   ·exact⟨1,rfl,ow,ow⟩
theorem vg:∀(n:Nat)(s:zB)(i:Nat)(l:List (Sem zr)),i<=s.length->s.length+1<=n+i->s.length<=1000000000->l.length<=400->rT n s (i:Int) l=true
 |0,s,i,l,h1,h2,h3,h4=>by omega
 | n + 1,s,i,l,h1,h2,h3,h4=>by
  rw[rT];split
  ·rename_i hlt;have hlt:i<s.length:=by have:=ll hlt;omega
   have e1:Qg ((s.length:Int).toNat-(i:Int).toNat) (Qh (i:Int).toNat s)=s.drop i:=by
    simp only[aK];exact Mj sw
   rw[e1];refine gi ?_ ?_
   ·rw[zt hlt];cases(((s.getD (i:Int).toNat 0).toNat:Int)==32)<;>rfl
   ·split
    ·rw[pE i ow];exact vg n s (i+1) l ow ow h3 h4
    ·have hne:s.drop i≠[]:=by
      intro h;have:=congrArg length h;simp at this;omega
     have hdl:(s.drop i).length<=1000000000:=by simp;omega
     refine gi ?_ (gi (CU _ hne hdl) (gi (Hq _) ?_))
     ·simp;omega
     ·split
      ·rfl
      ·rename_i hh;have hm:cd (bB (s.drop i)).1=Q3:=by
        cases hq:cd (bB (s.drop i)).1
        ·rw[hq]at hh;simp at hh
        ·rfl
       have hl4:l.length≠400:=by
        intro h5;rw[hm,h5]at hh;simp at hh
       obtain⟨k,hk,hk1,hk2⟩:=uN _ hne hdl hm;have hk3:k<=s.length-i:=by simpa using hk2
       refine gi (ei ?_) ?_
       ·simp;omega
       ·rw[hk,show((i:Int)+(k:Int))=((i+k:Nat):Int) by omega,Uq (i+k) ow];exact vg n s (i+k) _ ow ow h3 sg
  ·rfl
theorem QD(s:zB)(h:s.length<=1000000000):QC s=Q3:=vg (s.length+1) s 0 [] ow ow h sw
structure lK (s:Sem zl):Prop where
 op:s.1.length<=1000
 table:s.2.1.length<=1000
 other:s.2.2.1.length<=1000
 names:s.2.2.2.1.length<=20/\∀x∈s.2.2.2.1,length x<=1000
 cols:s.t.1.length<=20/\∀x∈s.t.1,length x.1<=1000
 key:s.t.2.1.length<=1000
 uniques:s.t.q.1.length<=20/\∀x∈s.t.q.1,length x<=1000
 refs:s.t.q.2.1.length<=20/\∀x∈s.t.q.2.1,length x.1<=1000/\length x.2<=1000
 row:s.t.t.2.1.length<=20
 sets:s.t.t.q.1.length<=20/\∀x∈s.t.t.q.1,length x.1<=1000
 role:s.t.t.t.length<=1000
theorem tI(sep:zB)(B:Nat):∀l:List zB,(∀x∈l,x.length<=B)->(Lib.join l sep).length<=l.length*(B+sep.length)
 |[],_=>by simp[Lib.join,List.intercalate]
 | [x],h=>by
  rw[Lib.join_one];have:=h x sw;simp;omega
 | x::y::r,h=>by
  have ih:=tI sep B (y::r) (λz hz=>h z (sP _ hz));have hx:=h x sw;have e:Lib.join (x::y::r) sep=x++sep++Lib.join (y::r) sep:=by simp[Lib.join,List.intercalate,List.intersperse]
  rw[e];simp only[jM,fb]at ih⊢;rw[kl];omega
theorem oY{α:Type}(p:α->Bool):∀(l:List α)(i:Nat),(!Q0 (zU p l i>=0))=Q3->∀x∈l,p x=Q4
 |[],_,_,x,hx=>by simp at hx
 | y::r,i,h,x,hx=>by
  rw[zU]at h;cases hy:p y
  ·rw[hy]at h;rcases cm.1 hx with rfl|hx
   ·exact hy
   ·exact oY p r (i+1) (by simpa using h) x hx
  ·exfalso;rw[hy]at h;simp at h
   try omega
theorem Ds(e:zf):pG e=Q3:=gi (FR e) rfl
theorem xG(e:zf):(iD e).length<=30000000:=KM e
theorem mS(s:zB)(h:s.length<=10)(e:zf):sY s e=Q3:=by
 unfold sY;have:=xG e;split
 ·rfl
 ·refine gi (ei ?_) (gi (Ds e) (gi (ei ?_) (gi (ei ?_) rfl)))
  all_goals(simp;omega)
theorem rR(s:zB)(h:s.length<=10)(e:zf):(ko s e).length<=30000030:=by
 unfold ko;have:=xG e;split
 ·simp
 ·simp;omega
theorem pp:∀(l:List (Sem Q6))(i:Int)(acc:List zB),dB l i acc=Lib.join (acc++l.map lD) [32,44,32]
 |[],i,acc=>by simp[dB]
 |x::r,i,acc=>by rw[dB,pp r];simp
theorem G8(B:Nat)(l:List (Sem Q6))(h:∀x∈l,(lD x).length<=B):(gy l).length<=l.length*(B+3):=by
 unfold gy;rw[pp];have:=tI [32,44,32] B ([]++l.map lD) (λy hy=>by
  simp only[DH,bn]at hy;obtain⟨x,hx,rfl⟩:=hy;exact h x hx)
 simpa using this
theorem uE(B:Nat)(hB:B<=100000000):∀(l:List (Sem Q6))(i:Int)(acc:List zB),(∀x∈l,(lD x).length<=B)->(∀x∈acc,x.length<=B)->acc.length+l.length<=40->dQ l i acc=Q3
 | [],i,acc,_,ha,hl=>by
  rw[dQ];refine gi ?_ rfl;have h1:=tI [32,44,32] B acc ha;have h2:acc.length*(B+3)<=40*100000003:=DL (by simpa using hl) ow
  replace h1:(Lib.join acc [32,44,32]).length<=acc.length*(B+3):=h1
  simp only[aD,aO];simp at hl;exact⟨ow,ow⟩
 | x::r,i,acc,h,ha,hl=>by
  rw[dQ];have hx:=h x sw;simp at hl;refine gi (ei ?_) ?_
  ·simp;omega
  ·refine uE B hB r (i+1) _ (λy hy=>h y (sP _ hy)) (λy hy=>?_) sg;rcases cP.1 hy with hy|hy
   ·exact ha y hy
   ·simp at hy;subst hy;exact hx
theorem eA{s:Sem zl}{g b:Bool}(hv:(tA s).val=if g=Q3 then some (.inr (.bool b,[]))else none):uz s=g/\eZ s=(g&&b):=by
 unfold uz eZ yS ao cX;rw[hv];cases g<;>cases b<;>exact⟨rfl,rfl⟩
theorem WK{x:zB}(o:x=[99,111,112,121]):(x==[99,114,101,97,116,101])=Q4/\(x==[100,114,111,112])=Q4/\(x==[105,110,115,101,114,116])=Q4/\(x==[117,112,100,97,116,101])=Q4/\(x==[100,101,108,101,116,101])=Q4/\(x==[115,101,108,101,99,116])=Q4/\(x==[114,101,97,100])=Q4/\(x==[119,114,105,116,101])=Q4/\(x==[117,110,114,101,97,100])=Q4/\(x==[117,110,119,114,105,116,101])=Q4/\(x==[99,111,112,121])=Q3:=by rw[o];exact⟨rfl,rfl,rfl,rfl,rfl,rfl,rfl,rfl,rfl,rfl,rfl⟩
theorem WL{x:zB}(o:x=[106,111,105,110]):(x==[99,114,101,97,116,101])=Q4/\(x==[100,114,111,112])=Q4/\(x==[105,110,115,101,114,116])=Q4/\(x==[117,112,100,97,116,101])=Q4/\(x==[100,101,108,101,116,101])=Q4/\(x==[115,101,108,101,99,116])=Q4/\(x==[114,101,97,100])=Q4/\(x==[119,114,105,116,101])=Q4/\(x==[117,110,114,101,97,100])=Q4/\(x==[117,110,119,114,105,116,101])=Q4/\(x==[99,111,112,121])=Q4/\(x==[106,111,105,110])=Q3:=by rw[o];exact⟨rfl,rfl,rfl,rfl,rfl,rfl,rfl,rfl,rfl,rfl,rfl,rfl⟩
theorem Tg{x:zB}(o:x=[103,114,111,117,112]):(x==[99,114,101,97,116,101])=Q4/\(x==[100,114,111,112])=Q4/\(x==[105,110,115,101,114,116])=Q4/\(x==[117,112,100,97,116,101])=Q4/\(x==[100,101,108,101,116,101])=Q4/\(x==[115,101,108,101,99,116])=Q4/\(x==[114,101,97,100])=Q4/\(x==[119,114,105,116,101])=Q4/\(x==[117,110,114,101,97,100])=Q4/\(x==[117,110,119,114,105,116,101])=Q4/\(x==[99,111,112,121])=Q4/\(x==[106,111,105,110])=Q4/\(x==[103,114,111,117,112])=Q3:=by rw[o];exact⟨rfl,rfl,rfl,rfl,rfl,rfl,rfl,rfl,rfl,rfl,rfl,rfl,rfl⟩
abbrev jt(op:zB):Prop:=op=[99,111,112,121]\/op=[106,111,105,110]\/op=[103,114,111,117,112]
theorem fM{x:Sem zl}(h1:x.2.1.length<=1000)(h2:x.2.2.1.length<=1000)(h3:x.2.2.2.2.2.1.length<=1000)(h4:x.2.2.2.2.2.2.2.2.2.2.2.2.length<=1000):ea x=Q3:=by
 unfold ea;refine gi (ei ?_) (gi (ei ?_) (gi (ei ?_) rfl))
 all_goals first|omega|(simp;omega)
theorem Au{c g:Bool}(h:g=Q3):(bif c then g else Q3)=Q3:=by cases c<;>simp[h]
def tC(s:Sem zl):zB:=[77,73,71,82,65,84,69,32]++[67,79,80,89]++[32]++s.2.1++[32,70,82,79,77,32]++s.2.2.1++[32,40,32]++gy s.2.2.2.1++[32,41]++ko [32] s.t.t.1
def tJ(s:Sem zl):zB:=[77,73,71,82,65,84,69,32]++[74,79,73,78]++[32]++s.2.1++[32,70,82,79,77,32]++s.2.2.1++[32,44,32]++s.t.t.t++[32,79,78,32]++s.t.2.1++ko [32] s.t.t.1
def tG(s:Sem zl):zB:=[77,73,71,82,65,84,69,32]++[71,82,79,85,80]++[32]++s.2.1++[32,70,82,79,77,32]++s.2.2.1++[32,66,89,32]++s.2.2.2.1.getD 0 []++[32,83,85,77,32]++s.2.2.2.1.getD 1 []++ko [32] s.t.t.1
theorem Zw{s:Sem zl}(h:lK s)(o:s.1=[99,111,112,121]):(xj s).val=some (.inr (.str (tC s),[]))/\(tC s).length<=1000000000:=by
 obtain⟨p0,p1,p2,p3,p4,p5,p6,p7,p8,p9,p10⟩:=WK o;have hU:Lib.toUpperA s.1=[67,79,80,89]:=by rw[o];rfl
 have ha:(Q0 (length s.1<=140737488355328)&&List.all s.1 λb=>Q0 (b.toNat<128))=Q3:=by rw[o];decide
 have ht:=h.table;have ho:=h.other;have hr:=h.role;have hk:=h.key;have hcC:=mS [32] sw s.t.t.1;have hcl:=rR [32] sw s.t.t.1;have hsC:mF s.2.2.2.1=Q3:=uE 1000 ow s.2.2.2.1 0 [] h.names.2 sw (by have:=h.names.1;simp;omega);have hsl:=G8 1000 s.2.2.2.1 h.names.2;have hsl:(gy s.2.2.2.1).length<=20*1003:=cG hsl (DL h.names.1 ow);refine⟨?_,by unfold tC;simp only[jM,fb,nM];omega⟩;unfold tC;simp only[xj,Tr.val,zk,ha,hU,p0,p1,p2,p3,p4,p5,p6,p7,p8,p9,p10,hsC,hcC,if_true,zE,if_false]
 iterate 9 rw[if_pos (zu (by simp<;>omega))]
theorem Zy{s:Sem zl}(h:lK s)(o:s.1=[106,111,105,110]):(xj s).val=some (.inr (.str (tJ s),[]))/\(tJ s).length<=1000000000:=by
 obtain⟨p0,p1,p2,p3,p4,p5,p6,p7,p8,p9,p10,p11⟩:=WL o;have hU:Lib.toUpperA s.1=[74,79,73,78]:=by rw[o];rfl
 have ha:(Q0 (length s.1<=140737488355328)&&List.all s.1 λb=>Q0 (b.toNat<128))=Q3:=by rw[o];decide
 have ht:=h.table;have ho:=h.other;have hr:=h.role;have hk:=h.key;have hcC:=mS [32] sw s.t.t.1;have hcl:=rR [32] sw s.t.t.1;refine⟨?_,by unfold tJ;simp only[jM,fb,nM];omega⟩;unfold tJ;simp only[xj,Tr.val,zk,ha,hU,p0,p1,p2,p3,p4,p5,p6,p7,p8,p9,p10,p11,hcC,if_true,zE,if_false]
 iterate 10 rw[if_pos (zu (by simp<;>omega))]
theorem Zx{s:Sem zl}(h:lK s)(o:s.1=[103,114,111,117,112])(hl:s.2.2.2.1.length=2):(xj s).val=some (.inr (.str (tG s),[]))/\(tG s).length<=1000000000:=by
 obtain⟨p0,p1,p2,p3,p4,p5,p6,p7,p8,p9,p10,p11,_⟩:=Tg o;have hU:Lib.toUpperA s.1=[71,82,79,85,80]:=by rw[o];rfl
 have ha:(Q0 (length s.1<=140737488355328)&&List.all s.1 λb=>Q0 (b.toNat<128))=Q3:=by rw[o];decide
 have ht:=h.table;have ho:=h.other;have hr:=h.role;have hk:=h.key;have hcC:=mS [32] sw s.t.t.1;have hcl:=rR [32] sw s.t.t.1;have n0:(s.2.2.2.1.getD 0 []).length<=1000:=by
  rw[bd,zS ow,du];exact h.names.2 _ (bu _)
 have n1:(s.2.2.2.1.getD 1 []).length<=1000:=by
  rw[bd,zS ow,du];exact h.names.2 _ (bu _)
 have i0:zN 0 (length s.2.2.2.1)=Q3:=by rw[hl];rfl
 have i1:zN 1 (length s.2.2.2.1)=Q3:=by rw[hl];rfl
 have g0:getD s.2.2.2.1 (Int.toNat 0) (zi Q6)=s.2.2.2.1.getD 0 []:=rfl;have g1:getD s.2.2.2.1 (Int.toNat 1) (zi Q6)=s.2.2.2.1.getD 1 []:=rfl;refine⟨?_,by unfold tG;simp only[jM,fb,nM];omega⟩;unfold tG;simp only[xj,Tr.val,zk,ha,hU,p0,p1,p2,p3,p4,p5,p6,p7,p8,p9,p10,p11,g0,g1,i0,i1,hcC,if_true,zE,if_false];generalize s.2.2.2.1.getD 0 []=a0 at n0;generalize s.2.2.2.1.getD 1 []=a1 at n1
 iterate 10 rw[if_pos (zu (by simp<;>omega))]
theorem iC{s:Sem zl}{t:zB}(h:(xj s).val=some (.inr (.str t,[]))/\t.length<=1000000000):Cz s=Q3/\iB s=t:=by
 unfold Cz iB G0 ao cX;rw[h.1];exact⟨rfl,rfl⟩
theorem GZ{s:Sem zl}(hs:lK s)(hm:jt s.1):uz s=Q3:=by
 have t2:=hs.other;have t3:=hs.key;have t4:=hs.role;rcases hm with o|o|o
 ·obtain⟨p0,p1,p2,p3,p4,p5,p6,p7,p8,p9,p10⟩:=WK o;obtain⟨hc,_⟩:=eA (s:=s) (g:=_) (b:=_) (by simp only[tA,Tr.val,p0,p1,p2,p3,p4,p5,p6,p7,p8,p9,p10,if_true,if_false,zE,zk];exact rfl);rw[hc];exact Au (fM (by simp) (by first|exact t2|simp) (by first|exact t3|simp) (by first|exact t4|simp))
 ·obtain⟨p0,p1,p2,p3,p4,p5,p6,p7,p8,p9,p10,p11⟩:=WL o;obtain⟨hc,_⟩:=eA (s:=s) (g:=_) (b:=_) (by simp only[tA,Tr.val,p0,p1,p2,p3,p4,p5,p6,p7,p8,p9,p10,p11,if_true,if_false,zE,zk];exact rfl);rw[hc];exact Au (fM (by simp) (by first|exact t2|simp) (by first|exact t3|simp) (by first|exact t4|simp))
 ·obtain⟨p0,p1,p2,p3,p4,p5,p6,p7,p8,p9,p10,p11,p12⟩:=Tg o;obtain⟨hc,_⟩:=eA (s:=s) (g:=_) (b:=_) (by simp only[tA,Tr.val,p0,p1,p2,p3,p4,p5,p6,p7,p8,p9,p10,p11,p12,if_true,if_false,zE,zk];exact rfl);rw[hc];exact Au (fM (by simp) (by first|exact t2|simp) (by first|exact t3|simp) (by first|exact t4|simp))
theorem lu{s:Sem zl}(h:eZ s=Q3)(o:s.1=[103,114,111,117,112]):s.2.2.2.1.length=2:=by
 obtain⟨p0,p1,p2,p3,p4,p5,p6,p7,p8,p9,p10,p11,p12⟩:=Tg o;obtain⟨_,hp⟩:=eA (s:=s) (g:=_) (b:=_) (by simp only[tA,Tr.val,p0,p1,p2,p3,p4,p5,p6,p7,p8,p9,p10,p11,p12,if_true,if_false,zE,zk];exact rfl);rw[hp]at h;by_cases hl:s.2.2.2.1.length=2
 ·exact hl
 ·exfalso;have hd:(bif Q0 ((s.2.2.2.1.length:Int)<2)then Q3 else Q0 ((s.2.2.2.1.length:Int)>2))=Q3:=by
   rcases Nat.lt_or_gt_of_ne hl with h2|h2
   ·have:Q0 ((s.2.2.2.1.length:Int)<2)=Q3:=zu ow;rw[this];rfl
   ·have:Q0 ((s.2.2.2.1.length:Int)>2)=Q3:=zu ow;rw[this];cases Q0 ((s.2.2.2.1.length:Int)<2)<;>rfl
  rw[hd]at h;cases h1:bP s.2.1<;>cases h2:bP s.2.2.1<;>rw[h1,h2]at h<;>simp at h
theorem JU{s:Sem zl}(hs:lK s)(hm:jt s.1):nH s=Q3:=by
 unfold nH;refine gi ?_ rfl;unfold uD;refine gi (GZ hs hm) ?_;split
 ·rfl
 ·rename_i h;have hp:eZ s=Q3:=by simpa using h
  have:Cz s=Q3/\(iB s).length<=1000000000:=by
   rcases hm with o|o|o
   ·have:=Zw hs o;exact⟨(iC this).1,(iC this).2▸this.2⟩
   ·have:=Zy hs o;exact⟨(iC this).1,(iC this).2▸this.2⟩
   ·have:=Zx hs o (lu hp o);exact⟨(iC this).1,(iC this).2▸this.2⟩
  exact gi this.1 (gi (QD _ this.2) rfl)
theorem CY:∀(es:List ((Int×Int×zB)×Int))(n:Nat)(x:Int),(jL es n x).length=es.length
 |[],_,_=>rfl
 |_::_,0,_=>rfl
 |_::r,n+1,x=>by simp[jL,CY r n x]
theorem Uo(es:List ((Int×Int×zB)×Int))(k:Int×Int×zB):(jC es k).length<=es.length+1:=by
 unfold jC;cases mJ es k<;>simp
theorem Fh:∀(es:List ((Int×Int×zB)×Int))(k:Int×Int×zB),(mJ es k=Q3->kZ es k<es.length)/\kZ es k<=es.length
 |[],k=>⟨λh=>by simp[mJ]at h,az _⟩
 | p::r,k=>by
  obtain⟨h1,h2⟩:=Fh r k;constructor
  ·intro h;rw[kZ];cases hk:(k==p.1)with
   |true=>simp
   | false=>
    have:mJ r k=Q3:=by simpa[mJ,hk]using h
    have:=h1 this;simp;omega
  ·rw[kZ];cases(k==p.1)<;>simp<;>omega
theorem Xk(es:List ((Int×Int×zB)×Int))(k:Int×Int×zB):kZ es k<(jC es k).length:=by
 obtain⟨h1,h2⟩:=Fh es k;unfold jC;cases h:mJ es k with
 |true=>exact h1 h
 |false=>simp;omega
def C2(c:Int)(n:Nat):Prop:=0<=c/\c<n
theorem tD{c:Int}{n:Nat}(h:C2 c n):zN c n=Q3:=by
 simp[zN,h.1,h.2]
theorem oV(x:Int)(n:Nat):vU x n=Q3↔C2 x n:=by
 unfold C2 vU;by_cases h:x>=0
 ·rw[zu h];simp;omega
 ·rw[aj h];simp;omega
theorem ww{α:Type}{l:List α}{d:α}{p:α->Bool}:((List.range l.length).all λi=>p (l.getD i d))=Q3↔∀x∈l,p x=Q3:=by
 rw[dW];constructor
 ·intro h x hx;obtain⟨i,hi,rfl⟩:=gn hx;have:=h i (oB.2 hi)
  rwa [bd,zS hi]at this
 ·intro h i hi;have hi:=oB.1 hi;rw[bd,zS hi];exact h _ (bu hi)
theorem JH{t:Sem zo}:(List.range (length t.t.1)).all (WX t)=Q3↔∀f∈t.t.1,C2 f.1 (length t.2.1)/\zL f.2=Q3:=by
 have h:=ww (l:=t.t.1) (d:=zi zr) (p:=λf:Sem zr=>vU f.1 (length t.2.1)&&zL f.2);simp only[aD,oV]at h;exact h
theorem gX{t:Sem zo}(h:eB t=Q3):C2 t.2.2.1 t.2.1.length/\(∀f∈t.t.1,C2 f.1 t.2.1.length)/\(∀u∈t.2.2.2.1,C2 u t.2.1.length)/\t.2.1.length<=8/\1<=t.2.1.length:=by
 have h8:=MU h;unfold eB at h;simp only[aD,oV]at h;obtain⟨h0,_,h2,h3,h4,_⟩:=h;have h3:=JH.1 h3;have h2:=(ww (l:=t.2.2.2.1) (d:=zi zg) (p:=λu=>vU u (length t.2.1))).1 h2;simp only[oV]at h2;refine⟨h4,λf hf=>(h3 f hf).1,h2,h8,?_⟩;cases hn:zL t.1
 ·rw[hn]at h0;simp at h0
 ·rw[hn]at h0;simp at h0;omega
theorem Ba{t:Sem zo}{row:List (Sem ze)}(h:(dZ t row !=0)≠Q3):row.length=t.2.1.length:=by
 simp at h;unfold dZ at h;split at h
 ·cases h
 ·rename_i h1;cases hm:eB t with
  |false=>rw[hm]at h1;simp at h1
  | true=>
   rw[hm]at h1;simp at h1;omega
end
end Cad
