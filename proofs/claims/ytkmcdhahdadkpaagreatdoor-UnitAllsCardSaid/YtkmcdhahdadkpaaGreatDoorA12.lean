/- The document's reader: cut; names. The document's writer: creates; columns, sources. The document's writer. The document's statements: texts. -/
import Derived.Test.YtkmcdhahdadkpaaGreatDoorA11
import Derived.Test.YtkmcdhahdadkpaaGreatDoorA08
import Derived.Shelf.GgClosure.StringsIndexFunc
import Derived.Lib.DecodeN
import Derived.Test.YtkmcdhahdadkpaaGreatDoorA10
namespace Cad
open Go Go.Proofs
open List renaming drop→Qh,take→Qg
open AV renaming tup→Qe,agg→Qd,nils→Qb
open Tr renaming chk→Qc,«to»→Q9
open AO renaming box→Qa
open Sh renaming bool→Q7,str→Q6,expr→Q5
open Bool renaming false→Q4,true→Q3
open Decidable renaming decide→Q0
open List (getD length)
open Tr (chk br re)
open AV (nils agg tup ptr kb str sl)
noncomputable section
set_option maxHeartbeats 4000000
abbrev zjl:=lx [(3,[0,4,5]),(11,[0,4,5,6,7,8]),(15,[0,4,5,6,7,8]),(20,[0,4,5,8])]
inductive ef where
 |h3 (s0:TS) (i5:Int)
 |h11 (s0:TS) (i5:Int) (i6:Int) (i7:Int) (z0:zm [CP.d zu])
 |h15 (s0:TS) (i5:Int) (i6:Int) (i7:Int) (z0:zm [CP.d zu])
 |h20 (s0:TS) (i5:Int) (z0:zm [CP.d zu])
 |h3b (s0:TS) (i5:Int) (lh_0:LF)
 |h11b (s0:TS) (i5:Int) (i6:Int) (i7:Int) (z1:zm [CP.d zu]) (lh_0:LF)
 |h15b (s0:TS) (i5:Int) (i6:Int) (i7:Int) (z1:zm [CP.d zu]) (lh_0:LF)
 |h20b (s0:TS) (i5:Int) (z1:zm [CP.d zu]) (lh_0:LF)
abbrev zlV:ef->Nat×St
 |.h3 s0 i5=>(3,⟨tm 131 [(0,str s0),(4,Qb),(5,ai i5)],[]⟩)
 |.h11 s0 i5 i6 i7 z0=>(11,⟨tm 131 [(0,str s0),(4,Qb),(5,ai i5),(6,AV.int IntKind.u8 i6),(7,ai i7),(8,ptr 0 0)],[Qa (bv [] [CP.d zu] z0)]⟩)
 |.h15 s0 i5 i6 i7 z0=>(15,⟨tm 131 [(0,str s0),(4,Qb),(5,ai i5),(6,AV.int IntKind.u8 i6),(7,ai i7),(8,ptr 0 0)],[Qa (bv [] [CP.d zu] z0)]⟩)
 |.h20 s0 i5 z0=>(20,⟨tm 131 [(0,str s0),(4,Qb),(5,ai i5),(8,ptr 0 0)],[Qa (bv [] [CP.d zu] z0)]⟩)
 |.h3b s0 i5 lh_0=>(3,⟨tm 131 [(0,str s0),(4,AV.vec 0),(5,ai i5)],[AO.vec zu lh_0]⟩)
 |.h11b s0 i5 i6 i7 z1 lh_0=>(11,⟨tm 131 [(0,str s0),(4,AV.vec 0),(5,ai i5),(6,AV.int IntKind.u8 i6),(7,ai i7),(8,ptr 1 0)],[AO.vec zu lh_0,Qa (bv [] [CP.d zu] z1)]⟩)
 |.h15b s0 i5 i6 i7 z1 lh_0=>(15,⟨tm 131 [(0,str s0),(4,AV.vec 0),(5,ai i5),(6,AV.int IntKind.u8 i6),(7,ai i7),(8,ptr 1 0)],[AO.vec zu lh_0,Qa (bv [] [CP.d zu] z1)]⟩)
 |.h20b s0 i5 z1 lh_0=>(20,⟨tm 131 [(0,str s0),(4,AV.vec 0),(5,ai i5),(8,ptr 1 0)],[AO.vec zu lh_0,Qa (bv [] [CP.d zu] z1)]⟩)
def zm3(x0:TS):Tr (ef⊕aw):=
 Q9 (ef.h3 x0 0)
def cP:ef->Tr (ef⊕aw)
 | .h3 s0 i5=>
  let a0:=(↑(getD s0 i5.toNat 0).toNat:Int)
  let a1:=IntKind.i64.wrap (i5+1)
  let a2:=Qg (a1.toNat-i5.toNat) (Qh i5.toNat s0)
  let a3:=((4,a2),())
  let a4:=(4,a2)
  let a5:=[a4]
  br (Q0 (i5<(↑(length s0):Int)))
  (Qc (zK i5 (length s0))
   (br (bif a0==32 then Q3 else a0==10) (Q9 (ef.h3 s0 a1)) (Qc (Q0 (0<=i5)&&Q0 (i5<=a1)&&Q0 (a1<=(↑(length s0):Int))) (Qc (kr a0) (br (mR a0) (Q9 (ef.h11 s0 a1 a0 i5 a3)) (Qc (fG a0) (br (gM a0) (Q9 (ef.h15 s0 a1 a0 i5 a3)) (br (a0==39) (Q9 (ef.h20 s0 a1 ((3,[]),()))) (Qc (iF a4)
   (br (!lS a4) (re (Qe [Qb,kb Q4]) []) (Qc (Q0 (a5.length<=1073741824)) (Q9 (ef.h3b s0 a1 a5)))))))))))))
  (re (Qe [Qb,AV.bool Q3]) [])
 | .h11 s0 i5 i6 i7 z0=>
  let a0:=Q0 (i5<(↑(length s0):Int))
  let a1:=(↑(getD s0 i5.toNat 0).toNat:Int)
  let a2:=Qg (i5.toNat-i7.toNat) (Qh i7.toNat s0)
  let a3:=(1,a2)
  let a4:=[a3]
  Qc (bif a0 then zK i5 (length s0)&&qQ a1 else Q3)
  (br (bif a0 then wR a1 else Q4) (Q9 (ef.h11 s0 (IntKind.i64.wrap (i5+1)) i6 i7 z0))
   (Qc (Q0 (0<=i7)&&Q0 (i7<=i5)&&Q0 (i5<=(↑(length s0):Int))) (Qc (fG i6) (br (gM i6) (Q9 (ef.h15 s0 i5 i6 i7 ((1,a2),()))) (br (i6==39) (Q9 (ef.h20 s0 i5 ((3,[]),()))) (Qc (iF a3) (br (!lS a3) (re (Qe [Qb,kb Q4]) []) (Qc (Q0 (a4.length<=1073741824)) (Q9 (ef.h3b s0 i5 a4))))))))))
 | .h15 s0 i5 i6 i7 z0=>
  let a0:=Q0 (i5<(↑(length s0):Int))
  let a1:=(↑(getD s0 i5.toNat 0).toNat:Int)
  let a2:=(2,Qg (i5.toNat-i7.toNat) (Qh i7.toNat s0))
  let a3:=[a2]
  Qc (bif a0 then zK i5 (length s0)&&fG a1 else Q3)
  (br (bif a0 then gM a1 else Q4) (Q9 (ef.h15 s0 (IntKind.i64.wrap (i5+1)) i6 i7 z0))
   (Qc (Q0 (0<=i7)&&Q0 (i7<=i5)&&Q0 (i5<=(↑(length s0):Int))) (br (i6==39) (Q9 (ef.h20 s0 i5 ((3,[]),()))) (Qc (iF a2) (br (!lS a2) (re (Qe [Qb,kb Q4]) []) (Qc (Q0 (a3.length<=1073741824)) (Q9 (ef.h3b s0 i5 a3))))))))
 | .h20 s0 i5 z0=>
  let a0:=Q0 (i5<(↑(length s0):Int))
  let a1:=(↑(getD s0 i5.toNat 0).toNat:Int)
  let a2:=a1 !=39
  let a3:=IntKind.i64.wrap (i5+1)
  let a4:=Q0 (a3<(↑(length s0):Int))
  let a5:=Qg (a3.toNat-i5.toNat) (Qh i5.toNat s0)
  let a6:=((z0.1.1,z0.1.2++a5),())
  Qc (bif a0 then zK i5 (length s0)&&bif a2 then Q3 else bif a4 then zK a3 (length s0)else Q3 else Q3)
  (br (bif a0 then bif a2 then Q3 else bif a4 then(↑(getD s0 a3.toNat 0).toNat:Int)==39 else Q4 else Q4)
   (Qc (Q0 (0<=i5)&&Q0 (i5<=a3)&&Q0 (a3<=(↑(length s0):Int))) (Qc (Q0 (length z0.1.2+a5.length<=1099511627776)) (Qc (zK i5 (length s0)) (br (a1==39) (Q9 (ef.h20 s0 (IntKind.i64.wrap (a3+1)) a6)) (Q9 (ef.h20 s0 a3 a6))))))
   (br (Q0 (i5>=(↑(length s0):Int))) (re (Qe [Qb,kb Q4]) []) (Qc (iF z0.1) (br (!lS z0.1) (re (Qe [Qb,kb Q4]) []) (Qc (Q0 ([z0.1].length<=1073741824)) (Q9 (ef.h3b s0 a3 [z0.1])))))))
 | .h3b s0 i5 lh_0=>
  let a0:=(↑(getD s0 i5.toNat 0).toNat:Int)
  let a1:=IntKind.i64.wrap (i5+1)
  let a2:=Qg (a1.toNat-i5.toNat) (Qh i5.toNat s0)
  let a3:=((4,a2),())
  let a4:=(4,a2)
  let a5:=[a4]
  br (Q0 (i5<(↑(length s0):Int)))
  (Qc (zK i5 (length s0))
   (br (bif a0==32 then Q3 else a0==10) (Q9 (ef.h3b s0 a1 lh_0)) (Qc (Q0 (0<=i5)&&Q0 (i5<=a1)&&Q0 (a1<=(↑(length s0):Int))) (Qc (kr a0) (br (mR a0) (Q9 (ef.h11b s0 a1 a0 i5 a3 lh_0)) (Qc (fG a0) (br (gM a0) (Q9 (ef.h15b s0 a1 a0 i5 a3 lh_0)) (br (a0==39) (Q9 (ef.h20b s0 a1 ((3,[]),()) lh_0))
   (Qc (iF a4) (br (!lS a4) (re (Qe [Qb,kb Q4]) []) (Qc (Q0 (lh_0.length+a5.length<=1073741824)) (Q9 (ef.h3b s0 a1 (lh_0++a5))))))))))))))
  (re (Qe [AV.vec 0,AV.bool (Q0 ((↑lh_0.length:Int)<=400))]) [AO.vec zu lh_0])
 | .h11b s0 i5 i6 i7 z1 lh_0=>
  let a0:=Q0 (i5<(↑(length s0):Int))
  let a1:=(↑(getD s0 i5.toNat 0).toNat:Int)
  let a2:=Qg (i5.toNat-i7.toNat) (Qh i7.toNat s0)
  let a3:=(1,a2)
  let a4:=[a3]
  Qc (bif a0 then zK i5 (length s0)&&qQ a1 else Q3)
  (br (bif a0 then wR a1 else Q4) (Q9 (ef.h11b s0 (IntKind.i64.wrap (i5+1)) i6 i7 z1 lh_0))
   (Qc (Q0 (0<=i7)&&Q0 (i7<=i5)&&Q0 (i5<=(↑(length s0):Int))) (Qc (fG i6) (br (gM i6) (Q9 (ef.h15b s0 i5 i6 i7 ((1,a2),()) lh_0)) (br (i6==39) (Q9 (ef.h20b s0 i5 ((3,[]),()) lh_0)) (Qc (iF a3) (br (!lS a3) (re (Qe [Qb,kb Q4]) [])
   (Qc (Q0 (lh_0.length+a4.length<=1073741824)) (Q9 (ef.h3b s0 i5 (lh_0++a4)))))))))))
 | .h15b s0 i5 i6 i7 z1 lh_0=>
  let a0:=Q0 (i5<(↑(length s0):Int))
  let a1:=(↑(getD s0 i5.toNat 0).toNat:Int)
  let a2:=(2,Qg (i5.toNat-i7.toNat) (Qh i7.toNat s0))
  let a3:=[a2]
  Qc (bif a0 then zK i5 (length s0)&&fG a1 else Q3)
  (br (bif a0 then gM a1 else Q4) (Q9 (ef.h15b s0 (IntKind.i64.wrap (i5+1)) i6 i7 z1 lh_0))
   (Qc (Q0 (0<=i7)&&Q0 (i7<=i5)&&Q0 (i5<=(↑(length s0):Int))) (br (i6==39) (Q9 (ef.h20b s0 i5 ((3,[]),()) lh_0)) (Qc (iF a2) (br (!lS a2) (re (Qe [Qb,kb Q4]) []) (Qc (Q0 (lh_0.length+a3.length<=1073741824)) (Q9 (ef.h3b s0 i5 (lh_0++a3)))))))))
 | .h20b s0 i5 z1 lh_0=>
  let a0:=Q0 (i5<(↑(length s0):Int))
  let a1:=(↑(getD s0 i5.toNat 0).toNat:Int)
  let a2:=a1 !=39
  let a3:=IntKind.i64.wrap (i5+1)
  let a4:=Q0 (a3<(↑(length s0):Int))
  let a5:=Qg (a3.toNat-i5.toNat) (Qh i5.toNat s0)
  let a6:=((z1.1.1,z1.1.2++a5),())
  Qc (bif a0 then zK i5 (length s0)&&bif a2 then Q3 else bif a4 then zK a3 (length s0)else Q3 else Q3)
  (br (bif a0 then bif a2 then Q3 else bif a4 then(↑(getD s0 a3.toNat 0).toNat:Int)==39 else Q4 else Q4)
   (Qc (Q0 (0<=i5)&&Q0 (i5<=a3)&&Q0 (a3<=(↑(length s0):Int))) (Qc (Q0 (length z1.1.2+a5.length<=1099511627776)) (Qc (zK i5 (length s0)) (br (a1==39) (Q9 (ef.h20b s0 (IntKind.i64.wrap (a3+1)) a6 lh_0)) (Q9 (ef.h20b s0 a3 a6 lh_0))))))
   (br (Q0 (i5>=(↑(length s0):Int))) (re (Qe [Qb,kb Q4]) []) (Qc (iF z1.1) (br (!lS z1.1) (re (Qe [Qb,kb Q4]) []) (Qc (Q0 (lh_0.length+[z1.1].length<=1073741824)) (Q9 (ef.h3b s0 a3 (lh_0++[z1.1]))))))))
def Hl(x0:TS):=al [zu.sl,Q7] cP 100000000 (zm3 x0)
def Hk(x0:TS):=(Hl x0).isSome
def xT(x0:TS):=o2 (Hl x0)
def zfX:=FT [Q6] [zu.sl,Q7] λx=>Hl x.1
theorem zbU:FK 75 zfX:=qc.T1 (f:=Tryz.f75) (keep:=zjl) (e:=zlV)
def Je(x0:Sem Q5)(x1:TS):Tr (Empty⊕aw):=
 let a0:=x1++[32,67,72,69,67,75,32,40,32]
 let a1:=a0++pC (zn x0)
 br (zf.op x0==[])
 (Qc (gK (zn x0) (zf.mk [] (0,0,[]) [] [])) (re (Qe [str [],AV.bool (fe (zn x0) (zf.mk [] (0,0,[]) [] []))]) []))
 (Qc (wN (zn x0))
  (br (!Ft (zn x0)) (re (Qe [str [],kb Q4]) []) (br (x1==[87,72,69,82,69]) (Qc (qJ (zn x0)) (Qc (Q0 ([32,87,72,69,82,69,32].length+length (pC (zn x0))<=1099511627776)) (re (Qe [str ([32,87,72,69,82,69,32]++pC (zn x0)),kb Q3]) [])))
  (Qc (Q0 (length x1+[32,67,72,69,67,75,32,40,32].length<=1099511627776)) (Qc (qJ (zn x0)) (Qc (Q0 (length a0+length (pC (zn x0))<=1099511627776)) (Qc (Q0 (length a1+[32,41].length<=1099511627776)) (re (Qe [str (a1++[32,41]),kb Q3]) []))))))))
def An(x0:Sem Q5)(x1:TS):=al [Q6,Q7] t0 100000000 (Je x0 x1)
def uH(x0:Sem Q5)(x1:TS):=(An x0 x1).isSome
def CK(x0:Sem Q5)(x1:TS):=o2 (An x0 x1)
def Yl:=FT [Q5,Q6] [Q6,Q7] λx=>An x.1 x.2.1
theorem Vy:FK 115 Yl:=qc.T1 (f:=Tryz.f115) (keep:=k0) (e:=e0)
abbrev zdl:=lx [(3,[0,4,5])]
inductive AI where
 |h3 (l0:LS) (s4:List UInt8) (i5:Int)
abbrev zhA:AI->Nat×St
 |.h3 l0 s4 i5=>(3,⟨tm 37 [(0,sl Q6 l0),(4,str s4),(5,ai i5)],[]⟩)
def zic(x0:Sem Sh.str.sl):Tr (AI⊕aw):=
 Q9 (AI.h3 x0 [] 0)
def Da:AI->Tr (AI⊕aw)
 | .h3 l0 s4 i5=>
  let a0:=l0.getD i5.toNat (zi Q6)
  let a1:=s4++[32,44,32]
  let a2:=IntKind.i64.wrap (i5+1)
  let a3:=Q0 (1<=(↑l0.length:Int))
  br (Q0 (i5<(↑l0.length:Int)))
  (Qc (zK i5 l0.length)
   (Qc (dH a0) (br (!bu a0) (re (Qe [str [],kb Q4]) []) (br (Q0 (i5>0)) (Qc (Q0 (s4.length+[32,44,32].length<=1099511627776)) (Qc (zK i5 l0.length) (Qc (Q0 (length a1+length a0<=1099511627776)) (Q9 (AI.h3 l0 (a1++a0) a2)))))
   (Qc (zK i5 l0.length) (Qc (Q0 (s4.length+length a0<=1099511627776)) (Q9 (AI.h3 l0 (s4++a0) a2))))))))
  (re (Qe [str (bif a3 then s4 else s4),AV.bool (bif a3 then Q0 ((↑l0.length:Int)<=8)else Q4)]) [])
def uI(x0:Sem Sh.str.sl):=al [Q6,Q7] Da 100000000 (zic x0)
def CL(x0:Sem Sh.str.sl):=(uI x0).isSome
def Hp(x0:Sem Sh.str.sl):=o2 (uI x0)
def Yp:=FT [Sh.str.sl] [Q6,Q7] λx=>uI x.1
theorem VC:FK 119 Yp:=qc.T1 (f:=Tryz.f119) (keep:=zdl) (e:=zhA)
def Zg:=Zf.addL [(75,zfX),(115,Yl),(119,Yp)]
theorem mA:zy Zg:=qc.addL<|fc zbU<|fc Vy<|fc VC iM
abbrev zdj:=lx [(4,[1,4,5,6]),(15,[1,4,5,8]),(20,[1,4,5,9])]
inductive oK where
 |h4 (b4:Bool) (s5:zD) (i6:Int) (z0:zm [CP.d zl])
 |h15 (b4:Bool) (s5:zD) (i8:Int) (z0:zm [CP.d zl])
 |h20 (b4:Bool) (s5:zD) (i9:Int) (z0:zm [CP.d zl])
abbrev zhy:oK->Nat×St
 |.h4 b4 s5 i6 z0=>(4,⟨tm 174 [(1,ptr 0 0),(4,AV.bool b4),(5,str s5),(6,ai i6)],[Qa (bv [] [CP.d zl] z0)]⟩)
 |.h15 b4 s5 i8 z0=>(15,⟨tm 174 [(1,ptr 0 0),(4,AV.bool b4),(5,str s5),(8,ai i8)],[Qa (bv [] [CP.d zl] z0)]⟩)
 |.h20 b4 s5 i9 z0=>(20,⟨tm 174 [(1,ptr 0 0),(4,AV.bool b4),(5,str s5),(9,ai i9)],[Qa (bv [] [CP.d zl] z0)]⟩)
def Sr(x0:Sem zl):Tr (oK⊕aw):=
 let a0:=[67,82,69,65,84,69,32,84,65,66,76,69,32]++x0.2.1
 let a1:=(↑(length x0.t.1):Int)
 let a2:=(↑(length x0.t.q.1):Int)
 let a3:=(↑(length x0.t.q.2.1):Int)
 Qc (dH x0.t.2.1)
 (Qc (Q0 ([67,82,69,65,84,69,32,84,65,66,76,69,32].length+length x0.2.1<=1099511627776))
  (Qc (Q0 (length a0+[32,40,32].length<=1099511627776)) (Q9 (oK.h4 (bif bu x0.t.2.1 then bif Q0 (1<=a1)then bif Q0 (a1<=8)then bif Q0 (a2<=8)then Q0 (a3<=8)else Q4 else Q4 else Q4 else Q4) (a0++[32,40,32]) 0 (x0,())))))
def fx:oK->Tr (oK⊕aw)
 | .h4 b4 s5 i6 z0=>
  let a0:=(↑(length z0.1.t.1):Int)
  let a1:=getD z0.1.t.1 i6.toNat (zi zj)
  let a2:=a1.1++[32]
  let a3:=[[],[73,78,84],[84,69,88,84],[66,79,79,76]].getD (Int.toNat a1.2.1) (zi Q6)
  let a4:=a2++a3
  let a5:=s5++a4
  let a6:=a5++[32,78,79,84,32,78,85,76,76]
  let a7:=IntKind.i64.wrap (i6+1)
  let a8:=[75,69,89,32,40,32]++z0.1.t.2.1
  let a9:=a8++[32,41]
  br (Q0 (i6<a0))
  (Qc (zK i6 (length z0.1.t.1))
   (Qc (dH a1.1) (br (bif !bu a1.1 then Q3 else bif Q0 (a1.2.1<1)then Q3 else Q0 (a1.2.1>3)) (re (Qe [str [],kb Q4]) []) (Qc (Q0 (length a1.1+[32].length<=1099511627776)) (Qc (zK a1.2.1 [[],[73,78,84],[84,69,88,84],[66,79,79,76]].length) (Qc (Q0 (length a2+length a3<=1099511627776))
   (Qc (Q0 (length s5+length a4<=1099511627776)) (br a1.2.2 (Qc (Q0 (length a5+[32,78,79,84,32,78,85,76,76].length<=1099511627776)) (Qc (Q0 (length a6+[32,44,32].length<=1099511627776)) (Q9 (oK.h4 b4 (a6++[32,44,32]) a7 z0))))
   (Qc (Q0 (length a5+[32,44,32].length<=1099511627776)) (Q9 (oK.h4 b4 (a5++[32,44,32]) a7 z0)))))))))))
  (Qc (Q0 ([75,69,89,32,40,32].length+length z0.1.t.2.1<=1099511627776))
   (Qc (Q0 (length a8+[32,41].length<=1099511627776)) (Qc (Q0 (length s5+length a9<=1099511627776)) (Q9 (oK.h15 b4 (s5++a9) 0 z0)))))
 | .h15 b4 s5 i8 z0=>
  let a0:=(↑(length z0.1.t.q.1):Int)
  let a1:=zK i8 (length z0.1.t.q.1)
  let a2:=getD z0.1.t.q.1 i8.toNat (zi Q6)
  let a3:=[32,44,32,85,78,73,81,85,69,32,40,32]++a2
  let a4:=a3++[32,41]
  br (Q0 (i8<a0))
  (Qc (bif b4 then a1&&dH a2 else Q3)
   (Qc a1 (Qc (Q0 ([32,44,32,85,78,73,81,85,69,32,40,32].length+length a2<=1099511627776)) (Qc (Q0 (length a3+[32,41].length<=1099511627776)) (Qc (Q0 (length s5+length a4<=1099511627776)) (Q9 (oK.h15 (bif b4 then bu a2 else Q4) (s5++a4) (IntKind.i64.wrap (i8+1)) z0)))))))
  (Q9 (oK.h20 b4 s5 0 z0))
 | .h20 b4 s5 i9 z0=>
  let a0:=(↑(length z0.1.t.q.2.1):Int)
  let a1:=zK i9 (length z0.1.t.q.2.1)
  let a2:=getD z0.1.t.q.2.1 i9.toNat (zi iS)
  let a3:=bu a2.1
  let a4:=[32,44,32,82,69,70,69,82,69,78,67,69,83,32,40,32]++a2.1
  let a5:=a4++[32,41,32]
  let a6:=a5++a2.2
  let a7:=zn z0.1.t.t.1
  let a8:=CK a7 [32,44]
  let a9:=s5++a8.1
  let a10:=a9++[32,41]
  br (Q0 (i9<a0))
  (Qc (bif b4 then a1&&(dH a2.1&&bif a3 then a1&&dH a2.2 else Q3)else Q3)
   (Qc a1 (Qc (Q0 ([32,44,32,82,69,70,69,82,69,78,67,69,83,32,40,32].length+length a2.1<=1099511627776)) (Qc (Q0 (length a4+[32,41,32].length<=1099511627776)) (Qc a1 (Qc (Q0 (length a5+length a2.2<=1099511627776)) (Qc (Q0 (length s5+length a6<=1099511627776))
   (Q9 (oK.h20 (bif b4 then bif a3 then bu a2.2 else Q4 else Q4) (s5++a6) (IntKind.i64.wrap (i9+1)) z0)))))))))
  (Qc (uH a7 [32,44])
   (Qc (Q0 (length s5+length a8.1<=1099511627776)&&Q0 (length a9+[32,41].length<=1099511627776)) (re (Qe [str (bif b4 then a10 else a10),AV.bool (bif b4 then a8.2 else Q4)]) [])))
def mN(x0:Sem zl):=al [Q6,Q7] fx 100000000 (Sr x0)
def qM(x0:Sem zl):=(mN x0).isSome
def pD(x0:Sem zl):=o2 (mN x0)
def Ym:=FT [zl] [Q6,Q7] λx=>mN x.1
theorem Vz:FK 116 Ym:=mA.T1 (f:=Tryz.f116) (keep:=zdj) (e:=zhy)
abbrev ziX:=lx [(2,[0,1,5]),(5,[0,1,5,6])]
inductive Ib where
 |h2 (l0:List (Sem zh)) (l1:List (Sem Q6)) (i5:Int)
 |h5 (l0:List (Sem zh)) (l1:List (Sem Q6)) (i5:Int) (i6:Int)
abbrev zlE:Ib->Nat×St
 |.h2 l0 l1 i5=>(2,⟨tm 47 [(0,sl zh l0),(1,sl Q6 l1),(5,ai i5)],[]⟩)
 |.h5 l0 l1 i5 i6=>(5,⟨tm 47 [(0,sl zh l0),(1,sl Q6 l1),(5,ai i5),(6,ai i6)],[]⟩)
def zmZ(x0:Sem zh.sl)(x1:Sem Sh.str.sl):Tr (Ib⊕aw):=
 Q9 (Ib.h2 x0 x1 0)
def pL:Ib->Tr (Ib⊕aw)
 | .h2 l0 l1 i5=>
  br (Q0 (i5<(↑l0.length:Int))) (Q9 (Ib.h5 l0 l1 i5 0)) (re (kb Q4) [])
 | .h5 l0 l1 i5 i6=>
  let a0:=l0.getD i5.toNat (zi zh)
  let a1:=(↑(length a0.1.t.1):Int)
  let a2:=!J9 l1 a0.1.1
  let a3:=getD a0.1.t.1 i6.toNat (zi zu)
  Qc (zK i5 l0.length)
  (br (Q0 (i6<a1))
   (Qc (zK i5 l0.length&&(xV l1 a0.1.1&&bif a2 then zK i5 l0.length&&(zK i6 (length a0.1.t.1)&&xV l1 a3.2)else Q3)) (br (bif a2 then J9 l1 a3.2 else Q4) (re (kb Q3) []) (Q9 (Ib.h5 l0 l1 i5 (IntKind.i64.wrap (i6+1))))))
   (Q9 (Ib.h2 l0 l1 (IntKind.i64.wrap (i5+1)))))
def nL(x0:Sem zh.sl)(x1:Sem Sh.str.sl):=al [Q7] pL 100000000 (zmZ x0 x1)
def sV(x0:Sem zh.sl)(x1:Sem Sh.str.sl):=(nL x0 x1).isSome
def wJ(x0:Sem zh.sl)(x1:Sem Sh.str.sl):=o1 (nL x0 x1)
def zfn:=FT [zh.sl,Sh.str.sl] [Q7] λx=>nL x.1 x.2.1
theorem zbi:FK 46 zfn:=mA.T1 (f:=Tryz.f46) (keep:=ziX) (e:=zlE)
abbrev ziZ:=lx [(3,[0,1,6,7]),(10,[6,9]),(13,[6,9,10])]
inductive oM where
 |h3 (l0:List (Sem zj)) (l1:List (Sem Q6)) (i7:Int)
 |h3b (l0:List (Sem zj)) (l1:List (Sem Q6)) (i7:Int) (lh_0:List (Sem zg))
 |h10 (i9:Int)
 |h10b (i9:Int) (lh_0:List (Sem zg))
 |h13 (i9:Int) (i10:Int)
 |h13b (i9:Int) (i10:Int) (lh_0:List (Sem zg))
abbrev zlG:oM->Nat×St
 |.h3 l0 l1 i7=>(3,⟨tm 50 [(0,sl zj l0),(1,sl Q6 l1),(6,Qb),(7,ai i7)],[]⟩)
 |.h3b l0 l1 i7 lh_0=>(3,⟨tm 50 [(0,sl zj l0),(1,sl Q6 l1),(6,AV.vec 0),(7,ai i7)],[AO.vec zg lh_0]⟩)
 |.h10 i9=>(10,⟨tm 50 [(6,Qb),(9,ai i9)],[]⟩)
 |.h10b i9 lh_0=>(10,⟨tm 50 [(6,AV.vec 0),(9,ai i9)],[AO.vec zg lh_0]⟩)
 |.h13 i9 i10=>(13,⟨tm 50 [(6,Qb),(9,ai i9),(10,ai i10)],[]⟩)
 |.h13b i9 i10 lh_0=>(13,⟨tm 50 [(6,AV.vec 0),(9,ai i9),(10,ai i10)],[AO.vec zg lh_0]⟩)
def zio(x0:Sem zj.sl)(x1:Sem Sh.str.sl):Tr (oM⊕aw):=
 Q9 (oM.h3 x0 x1 0)
def jK:oM->Tr (oM⊕aw)
 | .h3 l0 l1 i7=>
  let a0:=l1.getD i7.toNat (zi Q6)
  let a1:=eK l0 a0
  let a2:=[a1]
  br (Q0 (i7<(↑l1.length:Int)))
  (Qc (zK i7 l1.length)
   (Qc (dC l0 a0) (br (Q0 (a1<0)) (re (Qe [Qb,ai 4]) []) (Qc (Q0 (a2.length<=1073741824)) (Q9 (oM.h3b l0 l1 (IntKind.i64.wrap (i7+1)) a2))))))
  (Q9 (oM.h10 0))
 | .h3b l0 l1 i7 lh_0=>
  let a0:=l1.getD i7.toNat (zi Q6)
  let a1:=eK l0 a0
  let a2:=[a1]
  br (Q0 (i7<(↑l1.length:Int)))
  (Qc (zK i7 l1.length)
   (Qc (dC l0 a0) (br (Q0 (a1<0)) (re (Qe [Qb,ai 4]) []) (Qc (Q0 (lh_0.length+a2.length<=1073741824)) (Q9 (oM.h3b l0 l1 (IntKind.i64.wrap (i7+1)) (lh_0++a2)))))))
  (Q9 (oM.h10b 0 lh_0))
 | .h10 i9=>
  br (Q0 (i9<0)) (Q9 (oM.h13 i9 0)) (re (Qe [Qb,ai 0]) [])
 | .h10b i9 lh_0=>
  br (Q0 (i9<(↑lh_0.length:Int))) (Q9 (oM.h13b i9 0 lh_0)) (re (Qe [AV.vec 0,ai 0]) [AO.vec zg lh_0])
 | .h13 i9 i10=>
  br (Q0 (i10<i9)) Tr.err (Q9 (oM.h10 (IntKind.i64.wrap (i9+1))))
 | .h13b i9 i10 lh_0=>
  br (Q0 (i10<i9))
  (Qc (zK i9 lh_0.length)
   (Qc (Q0 (i9.toNat<lh_0.length)) (Qc (zK i10 lh_0.length) (Qc (Q0 (i10.toNat<lh_0.length)) (br (lh_0.getD i9.toNat (zi zg)==lh_0.getD i10.toNat (zi zg)) (re (Qe [Qb,ai 7]) []) (Q9 (oM.h13b i9 (IntKind.i64.wrap (i10+1)) lh_0)))))))
  (Q9 (oM.h10b (IntKind.i64.wrap (i9+1)) lh_0))
def nK(x0:Sem zj.sl)(x1:Sem Sh.str.sl):=al [zg.sl,zg] jK 100000000 (zio x0 x1)
def nJ(x0:Sem zj.sl)(x1:Sem Sh.str.sl):=(nK x0 x1).isSome
def qw(x0:Sem zj.sl)(x1:Sem Sh.str.sl):=o2 (nK x0 x1)
def zfp:=FT [zj.sl,Sh.str.sl] [zg.sl,zg] λx=>nK x.1 x.2.1
theorem zbj:FK 47 zfp:=mA.T1 (f:=Tryz.f47) (keep:=ziZ) (e:=zlG)
def WT(x0:Sem Q5)(x1:Sem zj.sl):Tr (Empty⊕aw):=
 br (zf.op x0==[]) (re (ai 0) [])
 (Qc (wN (zn x0))
  (br (!Ft (zn x0)) (re (ai 1) []) (Qc (nO (zn x0) x1) (br (bif (iD (zn x0) x1).2==0 then bif (iD (zn x0) x1).1!=0 then(iD (zn x0) x1).1!=3 else Q4 else Q4) (re (ai 5) []) (re (ai (iD (zn x0) x1).2) [])))))
def Ah(x0:Sem Q5)(x1:Sem zj.sl):=al [zg] t0 100000000 (WT x0 x1)
def qO(x0:Sem Q5)(x1:Sem zj.sl):=(Ah x0 x1).isSome
def wP(x0:Sem Q5)(x1:Sem zj.sl):=o1 (Ah x0 x1)
def zfr:=FT [Q5,zj.sl] [zg] λx=>Ah x.1 x.2.1
theorem zbl:FK 49 zfr:=mA.T1 (f:=Tryz.f49) (keep:=k0) (e:=e0)
def RI:=Zg.addL [(116,Ym),(46,zfn),(47,zfp),(49,zfr)]
theorem Bk:zy RI:=mA.addL<|fc Vz<|fc zbi<|fc zbj<|fc zbl iM
abbrev zhs:List CP:=[.d .str,.d .str,.d .str,.nil,.nil,.d .str,.nil,.nil,.d .str,.d zg,.d zg,.d .str,.d .str,.nil,.d (.sl ze),.nil,.d .str,.d zg,.d zg,.d .str,.d .str,.nil,.d .str]
abbrev zcs:List CP:=[.d .str,.d .str,.d .str,.nil,.nil,.d .str,.nil,.nil,.d .str,.d zg,.d zg,.d .str,.d .str,.nil,.nil,.d (.sl ic),.d .expr,.d .str]
abbrev zjj:=lx [(15,[1,3,5,12,13]),(27,[1,3,5,8,9,14,15])]
inductive AJ where
 |h15 (s12:List UInt8) (i13:Int) (z0:zm oJ) (z1:zm iW) (z2:zm zhs)
 |h27 (s8:TS) (b9:Sem Q7) (s14:List UInt8) (i15:Int) (z0:zm oJ) (z1:zm iW) (z2:zm zcs)
abbrev zlT:AJ->Nat×St
 |.h15 s12 i13 z0 z1 z2=>(15,⟨tm 430 [(1,ptr 0 0),(3,ptr 1 0),(5,ptr 2 0),(12,str s12),(13,ai i13)],[Qa (bv [] oJ z0),Qa (bv [] iW z1),Qa (bv [] zhs z2)]⟩)
 |.h27 s8 b9 s14 i15 z0 z1 z2=>(27,⟨tm 430 [(1,ptr 0 0),(3,ptr 1 0),(5,ptr 2 0),(8,str s8),(9,AV.bool b9),(14,str s14),(15,ai i15)],[Qa (bv [] oJ z0),Qa (bv [] iW z1),Qa (bv [] zcs z2)]⟩)
def gS(x0:Sem zl):Tr (AJ⊕aw):=
 let a0:=zn x0.t.t.1
 let a1:=zn x0.t.t.q.2.1
 let a2:=(x0.1,x0.2.1,x0.2.2.1,x0.2.2.2.1,x0.t.1,x0.t.2.1,x0.t.q.1,x0.t.q.2.1,a0,x0.t.t.2.1,x0.t.t.q.1,a1,x0.t.t.t)
 let a3:=pD a2
 let a4:=CK a1 [87,72,69,82,69]
 let a5:=[68,69,76,69,84,69,32,70,82,79,77,32]++x0.2.1
 let a6:=[83,69,76,69,67,84,32,42,32,70,82,79,77,32]++x0.2.1
 let a7:=[77,73,71,82,65,84,69,32,67,79,80,89,32]++x0.2.1
 let a8:=a7++[32,70,82,79,77,32]
 let a9:=a8++x0.2.2.1
 let a10:=a9++[32,40,32]
 let a11:=Hp x0.2.2.2.1
 let a12:=a10++a11.1
 let a13:=a12++[32,41]
 let a14:=CK a0 []
 let a15:=dH x0.2.2.1
 let a16:=bu x0.2.2.1
 let a17:=[77,73,71,82,65,84,69,32,74,79,73,78,32]++x0.2.1
 let a18:=a17++[32,70,82,79,77,32]
 let a19:=a18++x0.2.2.1
 let a20:=a19++[32,44,32]
 let a21:=a20++x0.t.t.t
 let a22:=a21++[32,79,78,32]
 let a23:=a22++x0.t.2.1
 let a24:=dH x0.t.t.t
 let a25:=bu x0.t.t.t
 let a26:=[77,73,71,82,65,84,69,32,71,82,79,85,80,32]++x0.2.1
 let a27:=a26++[32,70,82,79,77,32]
 let a28:=a27++x0.2.2.1
 let a29:=zK 0 (length x0.2.2.2.1)
 let a30:=a28++[32,66,89,32]
 let a31:=getD x0.2.2.2.1 (Int.toNat 0) (zi Q6)
 let a32:=a30++a31
 let a33:=zK 1 (length x0.2.2.2.1)
 let a34:=a32++[32,83,85,77,32]
 let a35:=getD x0.2.2.2.1 (Int.toNat 1) (zi Q6)
 let a36:=a34++a35
 let a37:=[71,82,65,78,84,32,82,69,65,68,32,79,78,32]++x0.2.1
 let a38:=a37++[32,84,79,32]
 let a39:=[71,82,65,78,84,32,87,82,73,84,69,32,79,78,32]++x0.2.1
 let a40:=a39++[32,84,79,32]
 let a41:=[82,69,86,79,75,69,32,82,69,65,68,32,79,78,32]++x0.2.1
 let a42:=a41++[32,70,82,79,77,32]
 let a43:=[82,69,86,79,75,69,32,87,82,73,84,69,32,79,78,32]++x0.2.1
 let a44:=a43++[32,70,82,79,77,32]
 Qc (uH a0 [])
 (Qc (uH a1 [87,72,69,82,69])
  (br (x0.1==[99,114,101,97,116,101]) (Qc (qM a2) (re (Qe [str a3.1,Qd [str x0.1,str x0.2.1,str [],Qb,sl zj x0.t.1,str x0.t.2.1,sl Q6 x0.t.q.1,sl (Sh.str.pr Q6) x0.t.q.2.1,str (zf.op x0.t.t.1),ai (zf.v x0.t.t.1).1,
  ai (zf.v x0.t.t.1).2.1,str (zf.v x0.t.t.1).2.2,str (zf.s x0.t.t.1),sl Q5 (zf.l x0.t.t.1),Qb,Qb,str [],ai 0,ai 0,str [],str [],Qb,str []],AV.bool a3.2]) [])) (br (x0.1==[100,114,111,112])
  (Qc (Q0 ([68,82,79,80,32,84,65,66,76,69,32].length+length x0.2.1<=1099511627776)) (re (Qe [str ([68,82,79,80,32,84,65,66,76,69,32]++x0.2.1),Qd [str x0.1,str x0.2.1,str [],Qb,Qb,str [],Qb,Qb,str [],ai 0,
  ai 0,str [],str [],Qb,Qb,Qb,str [],ai 0,ai 0,str [],str [],Qb,str []],kb Q3]) [])) (br (x0.1==[105,110,115,101,114,116]) (Q9 (AJ.h15 [] 0 (x0,()) ([],[],[],[],[],0,0,[],[],[],0,0,[],[],[],())
  (x0.1,x0.2.1,[],[],[],0,0,[],[],x0.t.t.2.1,[],0,0,[],[],[],()))) (br (x0.1==[117,112,100,97,116,101]) (Q9 (AJ.h27 a4.1 a4.2 [] 0 (x0,()) ([],[],[],[],[],0,0,[],[],[],0,0,[],[],[],()) (x0.1,x0.2.1,[],[],[],0,0,[],[],x0.t.t.q.1,x0.t.t.q.2.1,[],()))) (br (x0.1==[100,101,108,101,116,101])
  (Qc (Q0 ([68,69,76,69,84,69,32,70,82,79,77,32].length+length x0.2.1<=1099511627776)) (Qc (Q0 (length a5+length a4.1<=1099511627776)) (re (Qe [str (a5++a4.1),Qd [str x0.1,str x0.2.1,str [],Qb,Qb,str [],Qb,Qb,str [],ai 0,
  ai 0,str [],str [],Qb,Qb,Qb,str (zf.op x0.t.t.q.2.1),ai (zf.v x0.t.t.q.2.1).1,ai (zf.v x0.t.t.q.2.1).2.1,str (zf.v x0.t.t.q.2.1).2.2,str (zf.s x0.t.t.q.2.1),sl Q5 (zf.l x0.t.t.q.2.1),str []],AV.bool a4.2]) [])))
  (br (x0.1==[115,101,108,101,99,116]) (Qc (Q0 ([83,69,76,69,67,84,32,42,32,70,82,79,77,32].length+length x0.2.1<=1099511627776)) (Qc (Q0 (length a6+length a4.1<=1099511627776)) (re (Qe [str (a6++a4.1),Qd [str x0.1,str x0.2.1,str [],Qb,Qb,str [],Qb,Qb,str [],ai 0,
  ai 0,str [],str [],Qb,Qb,Qb,str (zf.op x0.t.t.q.2.1),ai (zf.v x0.t.t.q.2.1).1,ai (zf.v x0.t.t.q.2.1).2.1,str (zf.v x0.t.t.q.2.1).2.2,str (zf.s x0.t.t.q.2.1),sl Q5 (zf.l x0.t.t.q.2.1),str []],AV.bool a4.2]) [])))
  (br (x0.1==[99,111,112,121]) (Qc (CL x0.2.2.2.1) (Qc (Q0 ([77,73,71,82,65,84,69,32,67,79,80,89,32].length+length x0.2.1<=1099511627776)) (Qc (Q0 (length a7+[32,70,82,79,77,32].length<=1099511627776)) (Qc (Q0 (length a8+length x0.2.2.1<=1099511627776))
  (Qc (Q0 (length a9+[32,40,32].length<=1099511627776)) (Qc (Q0 (length a10+length a11.1<=1099511627776)) (Qc (Q0 (length a12+[32,41].length<=1099511627776)) (Qc (Q0 (length a13+length a14.1<=1099511627776)) (br a11.2 (br a14.2 (Qc a15 (re (Qe [str (a13++a14.1),Qd
  [str x0.1,str x0.2.1,str x0.2.2.1,sl Q6 x0.2.2.2.1,Qb,str [],Qb,Qb,str (zf.op x0.t.t.1),ai (zf.v x0.t.t.1).1,ai (zf.v x0.t.t.1).2.1,str (zf.v x0.t.t.1).2.2,str (zf.s x0.t.t.1),
  sl Q5 (zf.l x0.t.t.1),Qb,Qb,str [],ai 0,ai 0,str [],str [],Qb,str []],AV.bool a16]) [])) (re (Qe [str (a13++a14.1),Qd [str x0.1,str x0.2.1,str x0.2.2.1,sl Q6 x0.2.2.2.1,Qb,str [],Qb,Qb,str (zf.op x0.t.t.1),
  ai (zf.v x0.t.t.1).1,ai (zf.v x0.t.t.1).2.1,str (zf.v x0.t.t.1).2.2,str (zf.s x0.t.t.1),sl Q5 (zf.l x0.t.t.1),Qb,Qb,str [],ai 0,ai 0,str [],str [],Qb,str []],kb Q4]) [])) (re (Qe [str (a13++a14.1),Qd
  [str x0.1,str x0.2.1,str x0.2.2.1,sl Q6 x0.2.2.2.1,Qb,str [],Qb,Qb,str (zf.op x0.t.t.1),ai (zf.v x0.t.t.1).1,ai (zf.v x0.t.t.1).2.1,str (zf.v x0.t.t.1).2.2,str (zf.s x0.t.t.1),
  sl Q5 (zf.l x0.t.t.1),Qb,Qb,str [],ai 0,ai 0,str [],str [],Qb,str []],kb Q4]) [])))))))))) (br (x0.1==[106,111,105,110]) (Qc (Q0 ([77,73,71,82,65,84,69,32,74,79,73,78,32].length+length x0.2.1<=1099511627776))
  (Qc (Q0 (length a17+[32,70,82,79,77,32].length<=1099511627776)) (Qc (Q0 (length a18+length x0.2.2.1<=1099511627776)) (Qc (Q0 (length a19+[32,44,32].length<=1099511627776)) (Qc (Q0 (length a20+length x0.t.t.t<=1099511627776))
  (Qc (Q0 (length a21+[32,79,78,32].length<=1099511627776)) (Qc (Q0 (length a22+length x0.t.2.1<=1099511627776)) (Qc (Q0 (length a23+length a14.1<=1099511627776)) (br a14.2 (Qc a15 (br a16 (Qc a24 (br a25 (Qc (dH x0.t.2.1) (re (Qe [str (a23++a14.1),Qd
  [str x0.1,str x0.2.1,str x0.2.2.1,Qb,Qb,str x0.t.2.1,Qb,Qb,str (zf.op x0.t.t.1),ai (zf.v x0.t.t.1).1,ai (zf.v x0.t.t.1).2.1,str (zf.v x0.t.t.1).2.2,str (zf.s x0.t.t.1),sl Q5 (zf.l x0.t.t.1),Qb,Qb,str [],
  ai 0,ai 0,str [],str [],Qb,str x0.t.t.t],AV.bool (bu x0.t.2.1)]) [])) (re (Qe [str (a23++a14.1),Qd [str x0.1,str x0.2.1,str x0.2.2.1,Qb,Qb,str x0.t.2.1,Qb,Qb,str (zf.op x0.t.t.1),ai (zf.v x0.t.t.1).1,
  ai (zf.v x0.t.t.1).2.1,str (zf.v x0.t.t.1).2.2,str (zf.s x0.t.t.1),sl Q5 (zf.l x0.t.t.1),Qb,Qb,str [],ai 0,ai 0,str [],str [],Qb,str x0.t.t.t],kb Q4]) []))) (re (Qe [str (a23++a14.1),Qd
  [str x0.1,str x0.2.1,str x0.2.2.1,Qb,Qb,str x0.t.2.1,Qb,Qb,str (zf.op x0.t.t.1),ai (zf.v x0.t.t.1).1,ai (zf.v x0.t.t.1).2.1,str (zf.v x0.t.t.1).2.2,str (zf.s x0.t.t.1),sl Q5 (zf.l x0.t.t.1),Qb,Qb,str [],
  ai 0,ai 0,str [],str [],Qb,str x0.t.t.t],kb Q4]) []))) (re (Qe [str (a23++a14.1),Qd [str x0.1,str x0.2.1,str x0.2.2.1,Qb,Qb,str x0.t.2.1,Qb,Qb,str (zf.op x0.t.t.1),ai (zf.v x0.t.t.1).1,
  ai (zf.v x0.t.t.1).2.1,str (zf.v x0.t.t.1).2.2,str (zf.s x0.t.t.1),sl Q5 (zf.l x0.t.t.1),Qb,Qb,str [],ai 0,ai 0,str [],str [],Qb,str x0.t.t.t],kb Q4]) [])))))))))) (br (x0.1==[103,114,111,117,112])
  (br ((↑(length x0.2.2.2.1):Int)!=2) (re (Qe [str [],Qd [str x0.1,str x0.2.1,str x0.2.2.1,sl Q6 x0.2.2.2.1,Qb,str [],Qb,Qb,str (zf.op x0.t.t.1),ai (zf.v x0.t.t.1).1,ai (zf.v x0.t.t.1).2.1,
  str (zf.v x0.t.t.1).2.2,str (zf.s x0.t.t.1),sl Q5 (zf.l x0.t.t.1),Qb,Qb,str [],ai 0,ai 0,str [],str [],Qb,str []],kb Q4]) []) (Qc (Q0 ([77,73,71,82,65,84,69,32,71,82,79,85,80,32].length+length x0.2.1<=1099511627776))
  (Qc (Q0 (length a26+[32,70,82,79,77,32].length<=1099511627776)) (Qc (Q0 (length a27+length x0.2.2.1<=1099511627776)) (Qc (Q0 (length a28+[32,66,89,32].length<=1099511627776)) (Qc a29 (Qc (Q0 (length a30+length a31<=1099511627776))
  (Qc (Q0 (length a32+[32,83,85,77,32].length<=1099511627776)) (Qc a33 (Qc (Q0 (length a34+length a35<=1099511627776)) (Qc (Q0 (length a36+length a14.1<=1099511627776)) (br a14.2 (Qc a15 (br a16 (Qc a29 (Qc (dH a31) (br (bu a31) (Qc a33 (Qc (dH a35) (re (Qe [str (a36++a14.1),
  Qd [str x0.1,str x0.2.1,str x0.2.2.1,sl Q6 x0.2.2.2.1,Qb,str [],Qb,Qb,str (zf.op x0.t.t.1),ai (zf.v x0.t.t.1).1,ai (zf.v x0.t.t.1).2.1,str (zf.v x0.t.t.1).2.2,str (zf.s x0.t.t.1),sl Q5 (zf.l x0.t.t.1),Qb,Qb,
  str [],ai 0,ai 0,str [],str [],Qb,str []],AV.bool (bu a35)]) []))) (re (Qe [str (a36++a14.1),Qd [str x0.1,str x0.2.1,str x0.2.2.1,sl Q6 x0.2.2.2.1,Qb,str [],Qb,Qb,str (zf.op x0.t.t.1),ai (zf.v x0.t.t.1).1,
  ai (zf.v x0.t.t.1).2.1,str (zf.v x0.t.t.1).2.2,str (zf.s x0.t.t.1),sl Q5 (zf.l x0.t.t.1),Qb,Qb,str [],ai 0,ai 0,str [],str [],Qb,str []],kb Q4]) [])))) (re (Qe [str (a36++a14.1),Qd
  [str x0.1,str x0.2.1,str x0.2.2.1,sl Q6 x0.2.2.2.1,Qb,str [],Qb,Qb,str (zf.op x0.t.t.1),ai (zf.v x0.t.t.1).1,ai (zf.v x0.t.t.1).2.1,str (zf.v x0.t.t.1).2.2,str (zf.s x0.t.t.1),
  sl Q5 (zf.l x0.t.t.1),Qb,Qb,str [],ai 0,ai 0,str [],str [],Qb,str []],kb Q4]) []))) (re (Qe [str (a36++a14.1),Qd [str x0.1,str x0.2.1,str x0.2.2.1,sl Q6 x0.2.2.2.1,Qb,str [],Qb,Qb,str (zf.op x0.t.t.1),
  ai (zf.v x0.t.t.1).1,ai (zf.v x0.t.t.1).2.1,str (zf.v x0.t.t.1).2.2,str (zf.s x0.t.t.1),sl Q5 (zf.l x0.t.t.1),Qb,Qb,str [],ai 0,ai 0,str [],str [],Qb,str []],kb Q4]) []))))))))))))) (br (x0.1==[114,101,97,100])
  (Qc (Q0 ([71,82,65,78,84,32,82,69,65,68,32,79,78,32].length+length x0.2.1<=1099511627776)) (Qc (Q0 (length a37+[32,84,79,32].length<=1099511627776)) (Qc (Q0 (length a38+length x0.t.t.t<=1099511627776)) (Qc a24 (re (Qe [str (a38++x0.t.t.t),Qd
  [str x0.1,str x0.2.1,str [],Qb,Qb,str [],Qb,Qb,str [],ai 0,ai 0,str [],str [],Qb,Qb,Qb,str [],ai 0,ai 0,str [],str [],Qb,str x0.t.t.t],AV.bool a25]) []))))) (br (x0.1==[119,114,105,116,101])
  (Qc (Q0 ([71,82,65,78,84,32,87,82,73,84,69,32,79,78,32].length+length x0.2.1<=1099511627776)) (Qc (Q0 (length a39+[32,84,79,32].length<=1099511627776)) (Qc (Q0 (length a40+length x0.t.t.t<=1099511627776)) (Qc a24 (re (Qe [str (a40++x0.t.t.t),Qd
  [str x0.1,str x0.2.1,str [],Qb,Qb,str [],Qb,Qb,str [],ai 0,ai 0,str [],str [],Qb,Qb,Qb,str [],ai 0,ai 0,str [],str [],Qb,str x0.t.t.t],AV.bool a25]) []))))) (br (x0.1==[117,110,114,101,97,100])
  (Qc (Q0 ([82,69,86,79,75,69,32,82,69,65,68,32,79,78,32].length+length x0.2.1<=1099511627776)) (Qc (Q0 (length a41+[32,70,82,79,77,32].length<=1099511627776)) (Qc (Q0 (length a42+length x0.t.t.t<=1099511627776)) (Qc a24 (re (Qe [str (a42++x0.t.t.t),Qd
  [str x0.1,str x0.2.1,str [],Qb,Qb,str [],Qb,Qb,str [],ai 0,ai 0,str [],str [],Qb,Qb,Qb,str [],ai 0,ai 0,str [],str [],Qb,str x0.t.t.t],AV.bool a25]) []))))) (br (x0.1==[117,110,119,114,105,116,101]) (Qc
  (Q0 ([82,69,86,79,75,69,32,87,82,73,84,69,32,79,78,32].length+length x0.2.1<=1099511627776)) (Qc (Q0 (length a43+[32,70,82,79,77,32].length<=1099511627776)) (Qc (Q0 (length a44+length x0.t.t.t<=1099511627776)) (Qc a24 (re (Qe [str (a44++x0.t.t.t),Qd
  [str x0.1,str x0.2.1,str [],Qb,Qb,str [],Qb,Qb,str [],ai 0,ai 0,str [],str [],Qb,Qb,Qb,str [],ai 0,ai 0,str [],str [],Qb,str x0.t.t.t],AV.bool a25]) []))))) (re (Qe [str [],Qd
  [str x0.1,str x0.2.1,str [],Qb,Qb,str [],Qb,Qb,str [],ai 0,ai 0,str [],str [],Qb,Qb,Qb,str [],ai 0,ai 0,str [],str [],Qb,str []],kb Q4]) [])))))))))))))))
def mg:AJ->Tr (AJ⊕aw)
 | .h15 s12 i13 z0 z1 z2=>
  let a0:=(↑(length z0.1.t.t.2.1):Int)
  let a1:=zK i13 (length z0.1.t.t.2.1)
  let a2:=getD z0.1.t.t.2.1 i13.toNat (zi ze)
  let a3:=ut a2
  let a4:=s12++[32,44,32]
  let a5:=Cp a2
  let a6:=IntKind.i64.wrap (i13+1)
  let a7:=[73,78,83,69,82,84,32,73,78,84,79,32]++z0.1.2.1
  let a8:=a7++[32,86,65,76,85,69,83,32,40,32]
  let a9:=a8++s12
  br (Q0 (i13<a0))
  (Qc a1
   (Qc (kW a2) (br (!py a2) (re (Qe [str [],Qd [str z2.1,str z2.2.1,str z2.2.2.1,Qb,Qb,str z2.2.2.2.1,Qb,Qb,str z2.t.1,ai z2.t.2.1,ai z2.t.q.1,str z2.t.q.2.1,str z2.t.t.1,Qb,sl ze z2.t.t.2.1,Qb,
   str z2.t.t.q.1,ai z2.t.t.q.2.1,ai z2.t.t.t.1,str z2.t.t.t.2.1,str z2.t.t.t.q.1,Qb,str z2.t.t.t.q.2.1],kb Q4]) []) (br (Q0 (i13>0)) (Qc (Q0 (s12.length+[32,44,32].length<=1099511627776))
   (Qc a1 (Qc a3 (Qc (Q0 (length a4+length a5<=1099511627776)) (Q9 (AJ.h15 (a4++a5) a6 z0 z1 z2)))))) (Qc a1 (Qc a3 (Qc (Q0 (s12.length+length a5<=1099511627776)) (Q9 (AJ.h15 (s12++a5) a6 z0 z1 z2)))))))))
  (Qc (Q0 ([73,78,83,69,82,84,32,73,78,84,79,32].length+length z0.1.2.1<=1099511627776))
   (Qc (Q0 (length a7+[32,86,65,76,85,69,83,32,40,32].length<=1099511627776)) (Qc (Q0 (length a8+s12.length<=1099511627776)) (Qc (Q0 (length a9+[32,41].length<=1099511627776)) (br (Q0 (1<=a0)) (re (Qe [str (a9++[32,41]),Qd
   [str z2.1,str z2.2.1,str z2.2.2.1,Qb,Qb,str z2.2.2.2.1,Qb,Qb,str z2.t.1,ai z2.t.2.1,ai z2.t.q.1,str z2.t.q.2.1,str z2.t.t.1,Qb,sl ze z2.t.t.2.1,Qb,str z2.t.t.q.1,ai z2.t.t.q.2.1,
   ai z2.t.t.t.1,str z2.t.t.t.2.1,str z2.t.t.t.q.1,Qb,str z2.t.t.t.q.2.1],AV.bool (Q0 (a0<=12))]) []) (re (Qe [str (a9++[32,41]),Qd [str z2.1,str z2.2.1,str z2.2.2.1,Qb,Qb,str z2.2.2.2.1,Qb,Qb,
   str z2.t.1,ai z2.t.2.1,ai z2.t.q.1,str z2.t.q.2.1,str z2.t.t.1,Qb,sl ze z2.t.t.2.1,Qb,str z2.t.t.q.1,ai z2.t.t.q.2.1,ai z2.t.t.t.1,str z2.t.t.t.2.1,str z2.t.t.t.q.1,
   Qb,str z2.t.t.t.q.2.1],kb Q4]) []))))))
 | .h27 s8 b9 s14 i15 z0 z1 z2=>
  let a0:=(↑(length z0.1.t.t.q.1):Int)
  let a1:=zK i15 (length z0.1.t.t.q.1)
  let a2:=getD z0.1.t.t.q.1 i15.toNat (zi ic)
  let a3:=!bu a2.1
  let a4:=zn a2.2
  let a5:=Q0 (length a2.1+[32,61,32].length<=1099511627776)
  let a6:=qJ a4
  let a7:=a2.1++[32,61,32]
  let a8:=pC a4
  let a9:=Q0 (length a7+length a8<=1099511627776)
  let a10:=s14++[32,44,32]
  let a11:=a7++a8
  let a12:=IntKind.i64.wrap (i15+1)
  let a13:=[85,80,68,65,84,69,32]++z0.1.2.1
  let a14:=a13++[32,83,69,84,32]
  let a15:=a14++s14
  br (Q0 (i15<a0))
  (Qc (a1&&(dH a2.1&&bif a3 then Q3 else a1&&wN a4))
   (br (bif a3 then Q3 else !Ft a4) (re (Qe [str [],Qd [str z2.1,str z2.2.1,str z2.2.2.1,Qb,Qb,str z2.2.2.2.1,Qb,Qb,str z2.t.1,ai z2.t.2.1,ai z2.t.q.1,str z2.t.q.2.1,str z2.t.t.1,Qb,Qb,
   sl (Sh.str.pr Q5) z2.t.t.2.1,str (zf.op z2.t.t.q.1),ai (zf.v z2.t.t.q.1).1,ai (zf.v z2.t.t.q.1).2.1,str (zf.v z2.t.t.q.1).2.2,str (zf.s z2.t.t.q.1),sl Q5 (zf.l z2.t.t.q.1),str z2.t.t.q.2.1],kb Q4]) [])
   (br (Q0 (i15>0)) (Qc (Q0 (s14.length+[32,44,32].length<=1099511627776)) (Qc a1 (Qc a5 (Qc a1 (Qc a6 (Qc a9 (Qc (Q0 (length a10+length a11<=1099511627776)) (Q9 (AJ.h27 s8 b9 (a10++a11) a12 z0 z1 z2))))))))) (Qc a1 (Qc a5 (Qc a1
   (Qc a6 (Qc a9 (Qc (Q0 (s14.length+length a11<=1099511627776)) (Q9 (AJ.h27 s8 b9 (s14++a11) a12 z0 z1 z2)))))))))))
  (Qc (Q0 ([85,80,68,65,84,69,32].length+length z0.1.2.1<=1099511627776))
   (Qc (Q0 (length a13+[32,83,69,84,32].length<=1099511627776)) (Qc (Q0 (length a14+s14.length<=1099511627776)) (Qc (Q0 (length a15+length s8<=1099511627776)) (br b9 (br (Q0 (1<=a0)) (re (Qe [str (a15++s8),Qd [str z2.1,str z2.2.1,str z2.2.2.1,Qb,Qb,str z2.2.2.2.1,Qb,Qb,
   str z2.t.1,ai z2.t.2.1,ai z2.t.q.1,str z2.t.q.2.1,str z2.t.t.1,Qb,Qb,sl (Sh.str.pr Q5) z2.t.t.2.1,str (zf.op z2.t.t.q.1),ai (zf.v z2.t.t.q.1).1,ai (zf.v z2.t.t.q.1).2.1,str (zf.v z2.t.t.q.1).2.2,
   str (zf.s z2.t.t.q.1),sl Q5 (zf.l z2.t.t.q.1),str z2.t.t.q.2.1],AV.bool (Q0 (a0<=8))]) []) (re (Qe [str (a15++s8),Qd [str z2.1,str z2.2.1,str z2.2.2.1,Qb,Qb,str z2.2.2.2.1,Qb,Qb,str z2.t.1,ai z2.t.2.1,ai z2.t.q.1,
   str z2.t.q.2.1,str z2.t.t.1,Qb,Qb,sl (Sh.str.pr Q5) z2.t.t.2.1,str (zf.op z2.t.t.q.1),ai (zf.v z2.t.t.q.1).1,ai (zf.v z2.t.t.q.1).2.1,str (zf.v z2.t.t.q.1).2.2,
   str (zf.s z2.t.t.q.1),sl Q5 (zf.l z2.t.t.q.1),str z2.t.t.q.2.1],kb Q4]) [])) (re (Qe [str (a15++s8),Qd [str z2.1,str z2.2.1,str z2.2.2.1,Qb,Qb,str z2.2.2.2.1,Qb,Qb,str z2.t.1,ai z2.t.2.1,ai z2.t.q.1,
   str z2.t.q.2.1,str z2.t.t.1,Qb,Qb,sl (Sh.str.pr Q5) z2.t.t.2.1,str (zf.op z2.t.t.q.1),ai (zf.v z2.t.t.q.1).1,ai (zf.v z2.t.t.q.1).2.1,str (zf.v z2.t.t.q.1).2.2,str (zf.s z2.t.t.q.1),
   sl Q5 (zf.l z2.t.t.q.1),str z2.t.t.q.2.1],kb Q4]) []))))))
def dD(x0:Sem zl):=al [Q6,zl,Q7] mg 100000000 (gS x0)
def uJ(x0:Sem zl):=(dD x0).isSome
def Ao(x0:Sem zl):=o3 (dD x0)
def zfU:=FT [zl] [Q6,zl,Q7] λx=>dD x.1
theorem zbR:FK 72 zfU:=Bk.T1 (f:=Tryz.f72) (keep:=zjj) (e:=zlT)
def Zh:=RI.add 72 zfU
theorem EM:zy Zh:=Bk.add zbR
def zc3(x0:Sem zl):Tr (Empty⊕aw):=
 let a0:=(x0.1,x0.2.1,x0.2.2.1,x0.2.2.2.1,x0.t.1,x0.t.2.1,x0.t.q.1,x0.t.q.2.1,zn x0.t.t.1,x0.t.t.2.1,x0.t.t.q.1,zn x0.t.t.q.2.1,x0.t.t.t)
 let a1:=Ao a0
 let a2:=!a1.2.2
 let a3:=!bu x0.2.1
 let a4:=(a1.2.1.1,a1.2.1.2.1,a1.2.1.2.2.1,a1.2.1.2.2.2.1,a1.2.1.t.1,a1.2.1.t.2.1,a1.2.1.t.q.1,a1.2.1.t.q.2.1,zn a1.2.1.t.t.1,a1.2.1.t.t.2.1,a1.2.1.t.t.q.1,zn a1.2.1.t.t.q.2.1,a1.2.1.t.t.t)
 let a5:=xT a1.1
 Qc (uJ a0)
 (Qc (bif a2 then Q3 else dH x0.2.1&&bif a3 then Q3 else Am a4 a0)
  (br (bif a2 then Q3 else bif a3 then Q3 else !ff a4 a0) (re (Qe [str [],kb Q4]) []) (Qc (Hk a1.1) (br (!a5.2) (re (Qe [str [],kb Q4]) []) (re (Qe [str a1.1,kb Q3]) [])))))
def nT(x0:Sem zl):=al [Q6,Q7] t0 100000000 (zc3 x0)
def iG(x0:Sem zl):=(nT x0).isSome
def kZ(x0:Sem zl):=o2 (nT x0)
def zfm:=FT [zl] [Q6,Q7] λx=>nT x.1
theorem zbh:FK 42 zfm:=EM.T1 (f:=Tryz.f42) (keep:=k0) (e:=e0)
def IY:=Zh.add 42 zfm
theorem EN:zy IY:=EM.add zbh
abbrev mu:List CP:=[.d .str,.d .str,.d .str,.vec .str,.nil,.d .str,.nil,.nil,.d .expr,.nil,.nil,.d .str,.d zg,.d zg,.d .str,.d .str,.nil,.d .str]
abbrev Wv:List CP:=[.d .str,.d .str,.d .str,.vec .str,.nil,.d .str,.nil,.nil,.d .str,.d zg,.d zg,.d .str,.d .str,.nil,.nil,.nil,.d .str,.d zg,.d zg,.d .str,.d .str,.nil,.d .str]
abbrev Ly:Nat->aO:=λj=>if j=14 then{slots:=[0,1,4],prom:=[(1,some 3,.str)]}else if j=1000000 then{prom:=[(1,some 3,.str)]}else{ }
inductive rC where
 |h14 (z0:zm aJ) (z1:zm Wv)
 |h14b (b4:Sem Q7) (z0:zm aJ) (z1:zm Wv)
abbrev ID:rC->Nat×St
 |.h14 z0 z1=>(14,⟨tm 117 [(0,ptr 0 0),(1,ptr 1 0),(4,kb Q3)],[Qa (bv [] aJ z0),Qa (bv [2] Wv z1),AO.vec Q6 z1.2.2.2.1]⟩)
 |.h14b b4 z0 z1=>(14,⟨tm 117 [(0,ptr 0 0),(1,ptr 1 0),(4,AV.bool b4)],[Qa (bv [] aJ z0),Qa (bv [2] Wv z1),AO.vec Q6 z1.2.2.2.1]⟩)
theorem zdF:zL IY.P 90 Tryz.f90 2:=bS kw
def Sq(y:zm aJ)(z:zm iW):Tr (rC⊕aw):=
 let a0:=(y.1,y.2.1,y.2.2.1,())
 let a1:=fg a0 [67,79,80,89]
 let a2:=(a1.2.1,a1.2.2.1,a1.2.2.2.1,())
 let a3:=bQ a2
 let a4:=(a3.2.1,a3.2.2.1,a3.2.2.2.1,())
 let a5:=bJ a4 [70,82,79,77]
 let a6:=(a5.1,a5.2.1,a5.2.2.1,())
 let a7:=bQ a6
 let a8:=(a7.2.1,a7.2.2.1,a7.2.2.2.1,())
 let a9:=([],z.2.2.2)
 let a10:=bJ a8 [44]
 let a11:=(a10.1,a10.2.1,a10.2.2.1,())
 let a12:=bQ a11
 let a13:=(a12.2.1,a12.2.2.1,a12.2.2.2.1,())
 let a14:=bJ a13 [79,78]
 let a15:=(a14.1,a14.2.1,a14.2.2.1,())
 let a16:=bQ a15
 let a17:=(a16.2.1,a16.2.2.1,a16.2.2.2.1,())
 let a18:=eM a17 [67,72,69,67,75]
 let a19:=bJ a8 [66,89]
 let a20:=(a19.1,a19.2.1,a19.2.2.1,())
 let a21:=bQ a20
 let a22:=[a21.1]
 let a23:=(a21.2.1,a21.2.2.1,a21.2.2.2.1,())
 let a24:=bJ a23 [83,85,77]
 let a25:=(a24.1,a24.2.1,a24.2.2.1,())
 let a26:=bQ a25
 let a27:=[a26.1]
 let a28:=(a26.2.1,a26.2.2.1,a26.2.2.2.1,())
 let a29:=eM a28 [67,72,69,67,75]
 let a30:=eM a8 [67,72,69,67,75]
 let a31:=fg a2 [74,79,73,78]
 let a32:=(a31.2.1,a31.2.2.1,a31.2.2.2.1,())
 let a33:=bQ a32
 let a34:=(a33.2.1,a33.2.2.1,a33.2.2.2.1,())
 let a35:=bJ a34 [70,82,79,77]
 let a36:=(a35.1,a35.2.1,a35.2.2.1,())
 let a37:=bQ a36
 let a38:=(a37.2.1,a37.2.2.1,a37.2.2.2.1,())
 let a39:=bJ a38 [44]
 let a40:=(a39.1,a39.2.1,a39.2.2.1,())
 let a41:=bQ a40
 let a42:=(a41.2.1,a41.2.2.1,a41.2.2.2.1,())
 let a43:=bJ a42 [79,78]
 let a44:=(a43.1,a43.2.1,a43.2.2.1,())
 let a45:=bQ a44
 let a46:=(a45.2.1,a45.2.2.1,a45.2.2.2.1,())
 let a47:=eM a46 [67,72,69,67,75]
 let a48:=bJ a38 [66,89]
 let a49:=(a48.1,a48.2.1,a48.2.2.1,())
 let a50:=bQ a49
 let a51:=[a50.1]
 let a52:=(a50.2.1,a50.2.2.1,a50.2.2.2.1,())
 let a53:=bJ a52 [83,85,77]
 let a54:=(a53.1,a53.2.1,a53.2.2.1,())
 let a55:=bQ a54
 let a56:=[a55.1]
 let a57:=(a55.2.1,a55.2.2.1,a55.2.2.2.1,())
 let a58:=eM a57 [67,72,69,67,75]
 let a59:=eM a38 [67,72,69,67,75]
 let a60:=fg a32 [71,82,79,85,80]
 let a61:=(a60.2.1,a60.2.2.1,a60.2.2.2.1,())
 let a62:=bQ a61
 let a63:=(a62.2.1,a62.2.2.1,a62.2.2.2.1,())
 let a64:=bJ a63 [70,82,79,77]
 let a65:=(a64.1,a64.2.1,a64.2.2.1,())
 let a66:=bQ a65
 let a67:=(a66.2.1,a66.2.2.1,a66.2.2.2.1,())
 let a68:=bJ a67 [44]
 let a69:=(a68.1,a68.2.1,a68.2.2.1,())
 let a70:=bQ a69
 let a71:=(a70.2.1,a70.2.2.1,a70.2.2.2.1,())
 let a72:=bJ a71 [79,78]
 let a73:=(a72.1,a72.2.1,a72.2.2.1,())
 let a74:=bQ a73
 let a75:=(a74.2.1,a74.2.2.1,a74.2.2.2.1,())
 let a76:=eM a75 [67,72,69,67,75]
 let a77:=bJ a67 [66,89]
 let a78:=(a77.1,a77.2.1,a77.2.2.1,())
 let a79:=bQ a78
 let a80:=[a79.1]
 let a81:=(a79.2.1,a79.2.2.1,a79.2.2.2.1,())
 let a82:=bJ a81 [83,85,77]
 let a83:=(a82.1,a82.2.1,a82.2.2.1,())
 let a84:=bQ a83
 let a85:=[a84.1]
 let a86:=(a84.2.1,a84.2.2.1,a84.2.2.2.1,())
 let a87:=eM a86 [67,72,69,67,75]
 let a88:=eM a67 [67,72,69,67,75]
 let a89:=(a60.2.1,a60.2.2.1,Q4,())
 let a90:=bQ a89
 let a91:=(a90.2.1,a90.2.2.1,a90.2.2.2.1,())
 let a92:=bJ a91 [70,82,79,77]
 let a93:=(a92.1,a92.2.1,a92.2.2.1,())
 let a94:=bQ a93
 let a95:=(a94.2.1,a94.2.2.1,a94.2.2.2.1,())
 let a96:=bJ a95 [44]
 let a97:=(a96.1,a96.2.1,a96.2.2.1,())
 let a98:=bQ a97
 let a99:=(a98.2.1,a98.2.2.1,a98.2.2.2.1,())
 let a100:=bJ a99 [79,78]
 let a101:=(a100.1,a100.2.1,a100.2.2.1,())
 let a102:=bQ a101
 let a103:=(a102.2.1,a102.2.2.1,a102.2.2.2.1,())
 let a104:=eM a103 [67,72,69,67,75]
 let a105:=bJ a95 [66,89]
 let a106:=(a105.1,a105.2.1,a105.2.2.1,())
 let a107:=bQ a106
 let a108:=[a107.1]
 let a109:=(a107.2.1,a107.2.2.1,a107.2.2.2.1,())
 let a110:=bJ a109 [83,85,77]
 let a111:=(a110.1,a110.2.1,a110.2.2.1,())
 let a112:=bQ a111
 let a113:=[a112.1]
 let a114:=(a112.2.1,a112.2.2.1,a112.2.2.2.1,())
 let a115:=eM a114 [67,72,69,67,75]
 let a116:=eM a95 [67,72,69,67,75]
 Qc (dN a0 [67,79,80,89])
 (br a1.1
  (Qc (bt a2) (Qc (aY a4 [70,82,79,77]) (Qc (bt a6) (br Q3 (Qc (aY a8 [40]) (Q9 (rC.h14 (bJ a8 [40]) ([99,111,112,121],a3.1,a7.1,a9)))) (br Q4 (Qc (aY a8 [44]) (Qc (bt a11) (Qc (aY a13 [79,78]) (Qc (bt a15) (Qc (dI a17 [67,72,69,67,75]) (re (Qe []) (cm aJ mu a18.2
  ([99,111,112,121],a3.1,a7.1,[],a16.1,a18.1,z.t.t.2.1,z.t.t.q.1,z.t.t.q.2.1,z.t.t.t.1,z.t.t.t.2.1,a12.1,())))))))) (br Q4 (Qc (aY a8 [66,89]) (Qc (bt a20) (Qc (Q0 (a22.length<=1073741824)) (Qc (aY a23 [83,85,77]) (Qc (bt a25)
  (Qc (Q0 (a22.length+a27.length<=1073741824)) (Qc (dI a28 [67,72,69,67,75]) (re (Qe []) (cm aJ mu a29.2 ([99,111,112,121],a3.1,a7.1,a22++a27,z.2.2.2.1,a29.1,z.t.t.2)))))))))) (Qc (dI a8 [67,72,69,67,75]) (re (Qe []) (cm aJ mu a30.2
  ([99,111,112,121],a3.1,a7.1,[],z.2.2.2.1,a30.1,z.t.t.2))))))))))
  (Qc (dN a2 [74,79,73,78]) (br a31.1 (Qc (bt a32) (Qc (aY a34 [70,82,79,77]) (Qc (bt a36) (br Q4 (Qc (aY a38 [40]) (Q9 (rC.h14 (bJ a38 [40]) ([106,111,105,110],a33.1,a37.1,a9)))) (br Q3 (Qc (aY a38 [44]) (Qc (bt a40) (Qc (aY a42 [79,78]) (Qc (bt a44)
  (Qc (dI a46 [67,72,69,67,75]) (re (Qe []) (cm aJ mu a47.2 ([106,111,105,110],a33.1,a37.1,[],a45.1,a47.1,z.t.t.2.1,z.t.t.q.1,z.t.t.q.2.1,z.t.t.t.1,z.t.t.t.2.1,a41.1,())))))))) (br Q4 (Qc (aY a38 [66,89]) (Qc (bt a49)
  (Qc (Q0 (a51.length<=1073741824)) (Qc (aY a52 [83,85,77]) (Qc (bt a54) (Qc (Q0 (a51.length+a56.length<=1073741824)) (Qc (dI a57 [67,72,69,67,75]) (re (Qe []) (cm aJ mu a58.2 ([106,111,105,110],a33.1,a37.1,a51++a56,z.2.2.2.1,a58.1,z.t.t.2)))))))))) (Qc (dI a38 [67,72,69,67,75])
  (re (Qe []) (cm aJ mu a59.2 ([106,111,105,110],a33.1,a37.1,[],z.2.2.2.1,a59.1,z.t.t.2)))))))))) (Qc (dN a32 [71,82,79,85,80]) (br a60.1 (Qc (bt a61) (Qc (aY a63 [70,82,79,77]) (Qc (bt a65) (br Q4 (Qc (aY a67 [40]) (Q9 (rC.h14 (bJ a67 [40]) ([103,114,111,117,112],a62.1,a66.1,a9))))
  (br Q4 (Qc (aY a67 [44]) (Qc (bt a69) (Qc (aY a71 [79,78]) (Qc (bt a73) (Qc (dI a75 [67,72,69,67,75]) (re (Qe []) (cm aJ mu a76.2 ([103,114,111,117,112],a62.1,a66.1,[],a74.1,a76.1,z.t.t.2.1,z.t.t.q.1,z.t.t.q.2.1,
  z.t.t.t.1,z.t.t.t.2.1,a70.1,())))))))) (br Q3 (Qc (aY a67 [66,89]) (Qc (bt a78) (Qc (Q0 (a80.length<=1073741824)) (Qc (aY a81 [83,85,77]) (Qc (bt a83) (Qc (Q0 (a80.length+a85.length<=1073741824)) (Qc (dI a86 [67,72,69,67,75]) (re (Qe []) (cm aJ mu a87.2
  ([103,114,111,117,112],a62.1,a66.1,a80++a85,z.2.2.2.1,a87.1,z.t.t.2)))))))))) (Qc (dI a67 [67,72,69,67,75]) (re (Qe []) (cm aJ mu a88.2 ([103,114,111,117,112],a62.1,a66.1,[],z.2.2.2.1,a88.1,z.t.t.2)))))))))) (Qc (bt a89) (Qc (aY a91 [70,82,79,77]) (Qc (bt a93)
  (br (z.1==[99,111,112,121]) (Qc (aY a95 [40]) (Q9 (rC.h14 (bJ a95 [40]) (z.1,a90.1,a94.1,a9)))) (br (z.1==[106,111,105,110]) (Qc (aY a95 [44]) (Qc (bt a97) (Qc (aY a99 [79,78]) (Qc (bt a101) (Qc (dI a103 [67,72,69,67,75]) (re (Qe []) (cm aJ mu a104.2
  (z.1,a90.1,a94.1,[],a102.1,a104.1,z.t.t.2.1,z.t.t.q.1,z.t.t.q.2.1,z.t.t.t.1,z.t.t.t.2.1,a98.1,())))))))) (br (z.1==[103,114,111,117,112]) (Qc (aY a95 [66,89]) (Qc (bt a106) (Qc (Q0 (a108.length<=1073741824)) (Qc (aY a109 [83,85,77]) (Qc (bt a111)
  (Qc (Q0 (a108.length+a113.length<=1073741824)) (Qc (dI a114 [67,72,69,67,75]) (re (Qe []) (cm aJ mu a115.2 (z.1,a90.1,a94.1,a108++a113,z.2.2.2.1,a115.1,z.t.t.2)))))))))) (Qc (dI a95 [67,72,69,67,75]) (re (Qe []) (cm aJ mu a116.2 (z.1,a90.1,a94.1,[],z.2.2.2.1,a116.1,z.t.t.2)))))))))))))))
theorem zcE(y:zm aJ)(z:zm iW):rn IY 2 Ly Tryz.f90 [ptr 0 0,ptr 1 0] (cm aJ iW y z)=(Sq y z).map (lf Tryz.f90 ID):=kw
def UF:rC->Tr (rC⊕aw)
 | .h14 z0 z1=>
  let a0:=(z0.1,z0.2.1,z0.2.2.1,())
  let a1:=bQ a0
  let a2:=[a1.1]
  let a3:=(a1.2.1,a1.2.2.1,a1.2.2.2.1,())
  let a4:=fg a3 [44]
  let a5:=bJ a0 [41]
  let a6:=(a5.1,a5.2.1,a5.2.2.1,())
  let a7:=eM a6 [67,72,69,67,75]
  br z0.2.2.1
  (Qc (bt a0)
   (Qc (Q0 (z1.2.2.2.1.length+a2.length<=1073741824)) (Qc (dN a3 [44]) (Q9 (rC.h14b a4.1 a4.2 (z1.1,z1.2.1,z1.2.2.1,z1.2.2.2.1++a2,z1.t))))))
  (Qc (aY a0 [41])
   (Qc (dI a6 [67,72,69,67,75]) (re (Qe []) (cm aJ mu a7.2 (z1.1,z1.2.1,z1.2.2.1,z1.2.2.2.1,z1.t.1,a7.1,z1.t.t.q)))))
 | .h14b b4 z0 z1=>
  let a0:=(z0.1,z0.2.1,z0.2.2.1,())
  let a1:=bQ a0
  let a2:=[a1.1]
  let a3:=(a1.2.1,a1.2.2.1,a1.2.2.2.1,())
  let a4:=fg a3 [44]
  let a5:=bJ a0 [41]
  let a6:=(a5.1,a5.2.1,a5.2.2.1,())
  let a7:=eM a6 [67,72,69,67,75]
  br (bif b4 then z0.2.2.1 else Q4)
  (Qc (bt a0)
   (Qc (Q0 (z1.2.2.2.1.length+a2.length<=1073741824)) (Qc (dN a3 [44]) (Q9 (rC.h14b a4.1 a4.2 (z1.1,z1.2.1,z1.2.2.1,z1.2.2.2.1++a2,z1.t))))))
  (Qc (aY a0 [41])
   (Qc (dI a6 [67,72,69,67,75]) (re (Qe []) (cm aJ mu a7.2 (z1.1,z1.2.1,z1.2.2.1,z1.2.2.2.1,z1.t.1,a7.1,z1.t.t.q)))))
theorem zdN:∀s,run IY 2 Ly (Func.results Tryz.f90).toList 400 (ag Tryz.f90 (ID s).1) (ID s).2=(UF s).map (lf Tryz.f90 ID)
 |.h14 z0 z1=>by kernel_rfl
 |.h14b b4 z0 z1=>by kernel_rfl
def Ur(y:zm aJ)(z:zm iW):Option (zz (List.map some [])×zm aJ×zm mu):=NH [] aJ mu UF 100000000 (Sq y z)
def Uq(y:zm aJ)(z:zm iW):Bool:=(Ur y z).isSome
def Z5(y:zm aJ)(z:zm iW):zm aJ×zm mu:=(λr:zz (List.map some [])×zm aJ×zm mu=>r.2) ((Ur y z).getD (cg [],fY aJ,fY mu))
def Yd:ac:=Rb aJ iW [] [] aJ mu (λy z _=>Uq y z) λy z _=>((),Z5 y z)
theorem Vq:FK 90 Yd:=zb5 (ps:=aJ) (qs:=iW) (ks:=[]) (outs:=[]) (keep:=Ly) (gas:=400) (n:=100000000) (e:=ID) (t:=UF) (i:=λy z x=>Sq y z) EN zdF (λy z x=>zcE y z) zdN (λ_ _ _=>by kernel_rfl) (λ_ _ _=>by kernel_rfl)
def Zi:=IY.add 90 Yd
theorem EO:zy Zi:=EN.add Vq
abbrev zjb:=lx [(17,[2,4,6,7,8]),(25,[2,4,6,7,9])]
inductive OB where
 |h17 (l4:LF) (z0:zm iW) (z1:zm aJ) (z2:zm iW)
 |h25 (l4:LF) (z0:zm iW) (z1:zm aJ) (z2:zm iW)
abbrev zlO:OB->Nat×St
 |.h17 l4 z0 z1 z2=>(17,⟨tm 172 [(2,ptr 0 0),(4,sl zu l4),(6,ptr 1 0),(7,ptr 2 0),(8,kb Q3)],[Qa (bv [] iW z0),Qa (bv [] aJ z1),Qa (bv [] iW z2)]⟩)
 |.h25 l4 z0 z1 z2=>(25,⟨tm 172 [(2,ptr 0 0),(4,sl zu l4),(6,ptr 1 0),(7,ptr 2 0),(9,kb Q3)],[Qa (bv [] iW z0),Qa (bv [] aJ z1),Qa (bv [] iW z2)]⟩)
def zm2(x0:TS):Tr (OB⊕aw):=
 let a0:=((xT x0).1,0,Q3,())
 let a1:=fg a0 [67,82,69,65,84,69]
 let a2:=(a1.2.1,a1.2.2.1,a1.2.2.2.1,())
 let a3:=fg a2 [68,82,79,80]
 let a4:=(a3.2.1,a3.2.2.1,a3.2.2.2.1,())
 let a5:=bJ a4 [84,65,66,76,69]
 let a6:=(a5.1,a5.2.1,a5.2.2.1,())
 let a7:=bQ a6
 let a8:=(↑(length (xT x0).1):Int)
 let a9:=([100,114,111,112],a7.1,[],[],[],[],[],[],zf.mk [] (0,0,[]) [] [],[],[],zf.mk [] (0,0,[]) [] [],[])
 let a10:=kZ a9
 let a11:=fg a4 [73,78,83,69,82,84]
 let a12:=(a11.2.1,a11.2.2.1,a11.2.2.2.1,())
 let a13:=bJ a12 [73,78,84,79]
 let a14:=(a13.1,a13.2.1,a13.2.2.1,())
 let a15:=bQ a14
 let a16:=(a15.2.1,a15.2.2.1,a15.2.2.2.1,())
 let a17:=bJ a16 [86,65,76,85,69,83]
 let a18:=(a17.1,a17.2.1,a17.2.2.1,())
 let a19:=fg a12 [85,80,68,65,84,69]
 let a20:=(a19.2.1,a19.2.2.1,a19.2.2.2.1,())
 let a21:=bQ a20
 let a22:=(a21.2.1,a21.2.2.1,a21.2.2.2.1,())
 let a23:=fg a20 [68,69,76,69,84,69]
 let a24:=(a23.2.1,a23.2.2.1,a23.2.2.2.1,())
 let a25:=bJ a24 [70,82,79,77]
 let a26:=(a25.1,a25.2.1,a25.2.2.1,())
 let a27:=bQ a26
 let a28:=(a27.2.1,a27.2.2.1,a27.2.2.2.1,())
 let a29:=eM a28 [87,72,69,82,69]
 let a30:=([100,101,108,101,116,101],a27.1,[],[],[],[],[],[],zf.mk [] (0,0,[]) [] [],[],[],zn a29.1,[])
 let a31:=kZ a30
 let a32:=fg a24 [83,69,76,69,67,84]
 let a33:=(a32.2.1,a32.2.2.1,a32.2.2.2.1,())
 let a34:=bJ a33 [42]
 let a35:=(a34.1,a34.2.1,a34.2.2.1,())
 let a36:=bJ a35 [70,82,79,77]
 let a37:=(a36.1,a36.2.1,a36.2.2.1,())
 let a38:=bQ a37
 let a39:=(a38.2.1,a38.2.2.1,a38.2.2.2.1,())
 let a40:=eM a39 [87,72,69,82,69]
 let a41:=([115,101,108,101,99,116],a38.1,[],[],[],[],[],[],zf.mk [] (0,0,[]) [] [],[],[],zn a40.1,[])
 let a42:=kZ a41
 let a43:=fg a33 [71,82,65,78,84]
 let a44:=(a43.2.1,a43.2.2.1,a43.2.2.2.1,())
 let a45:=Kc a44 [82,69,65,68]
 let a46:=fg a44 [82,69,86,79,75,69]
 let a47:=(a46.2.1,a46.2.2.1,a46.2.2.2.1,())
 let a48:=Kc a47 [82,69,65,68]
 let a49:=fg a47 [77,73,71,82,65,84,69]
 let a50:=(a49.2.1,a49.2.2.1,a49.2.2.2.1,())
 let a51:=Z5 a50 ([],[],[],[],[],0,0,[],[],[],0,0,[],[],[],())
 let a52:=(a51.2.1,a51.2.2.1,a51.2.2.2.1,a51.t.1,[],a51.t.2.1,[],[],zn a51.t.q.1,[],[],zf.mk a51.t.q.2.1 (a51.t.t.1,a51.t.t.2.1,a51.t.t.q.1) a51.t.t.q.2.1 [],a51.t.t.t.1)
 let a53:=kZ a52
 Qc (Hk x0)
 (br (!(xT x0).2)
  (re (Qe [Qd [str [],str [],str [],Qb,Qb,str [],Qb,Qb,str [],ai 0,ai 0,str [],str [],Qb,Qb,Qb,str [],ai 0,ai 0,str [],str [],Qb,str []],kb Q4]) [])
  (Qc (dN a0 [67,82,69,65,84,69]) (br a1.1 Tr.err (Qc (dN a2 [68,82,79,80]) (br a3.1 (Qc (aY a4 [84,65,66,76,69]) (Qc (bt a6) (br (bif !a7.2.2.2.1 then Q3 else a7.2.2.1!=a8) (re (Qe [Qd [str [],str [],str [],Qb,Qb,str [],Qb,Qb,str [],ai 0,
  ai 0,str [],str [],Qb,Qb,Qb,str [],ai 0,ai 0,str [],str [],Qb,str []],kb Q4]) []) (Qc (iG a9) (br (!a10.2) (re (Qe [Qd [str [],str [],str [],Qb,Qb,str [],Qb,Qb,str [],ai 0,
  ai 0,str [],str [],Qb,Qb,Qb,str [],ai 0,ai 0,str [],str [],Qb,str []],kb Q4]) []) (re (Qe [Qd [str [100,114,111,112],str a7.1,str [],Qb,Qb,str [],Qb,Qb,str [],
  ai 0,ai 0,str [],str [],Qb,Qb,Qb,str [],ai 0,ai 0,str [],str [],Qb,str []],kb Q3]) [])))))) (Qc (dN a4 [73,78,83,69,82,84]) (br a11.1 (Qc (aY a12 [73,78,84,79]) (Qc (bt a14) (Qc (aY a16 [86,65,76,85,69,83]) (Qc (aY a18 [40]) (Q9
  (OB.h17 (xT x0).1 ([],[],[],[],[],0,0,[],[],[],0,0,[],[],[],()) (bJ a18 [40]) ([105,110,115,101,114,116],a15.1,[],[],[],0,0,[],[],[],0,0,[],[],[],()))))))) (Qc (dN a12 [85,80,68,65,84,69]) (br a19.1 (Qc (bt a20) (Qc (aY a22 [83,69,84]) (Q9
  (OB.h25 (xT x0).1 ([],[],[],[],[],0,0,[],[],[],0,0,[],[],[],()) (bJ a22 [83,69,84]) ([117,112,100,97,116,101],a21.1,[],[],[],0,0,[],[],[],0,0,[],[],[],()))))) (Qc (dN a20 [68,69,76,69,84,69]) (br a23.1 (Qc (aY a24 [70,82,79,77]) (Qc (bt a26) (Qc (dI a28 [87,72,69,82,69])
  (br (bif !a29.2.2.2.1 then Q3 else a29.2.2.1!=a8) (re (Qe [Qd [str [],str [],str [],Qb,Qb,str [],Qb,Qb,str [],ai 0,ai 0,str [],str [],Qb,Qb,Qb,str [],ai 0,ai 0,str [],str [],Qb,str []],kb Q4]) []) (Qc (iG a30) (br (!a31.2)
  (re (Qe [Qd [str [],str [],str [],Qb,Qb,str [],Qb,Qb,str [],ai 0,ai 0,str [],str [],Qb,Qb,Qb,str [],ai 0,ai 0,str [],str [],Qb,str []],kb Q4]) []) (re (Qe [Qd
  [str [100,101,108,101,116,101],str a27.1,str [],Qb,Qb,str [],Qb,Qb,str [],ai 0,ai 0,str [],str [],Qb,Qb,Qb,str (zf.op a29.1),ai (zf.v a29.1).1,ai (zf.v a29.1).2.1,str (zf.v a29.1).2.2,str (zf.s a29.1),sl Q5 (zf.l a29.1),str []],
  kb Q3]) []))))))) (Qc (dN a24 [83,69,76,69,67,84]) (br a32.1 (Qc (aY a33 [42]) (Qc (aY a35 [70,82,79,77]) (Qc (bt a37) (Qc (dI a39 [87,72,69,82,69]) (br (bif !a40.2.2.2.1 then Q3 else a40.2.2.1!=a8) (re (Qe [Qd
  [str [],str [],str [],Qb,Qb,str [],Qb,Qb,str [],ai 0,ai 0,str [],str [],Qb,Qb,Qb,str [],ai 0,ai 0,str [],str [],Qb,str []],kb Q4]) []) (Qc (iG a41) (br (!a42.2) (re (Qe [Qd
  [str [],str [],str [],Qb,Qb,str [],Qb,Qb,str [],ai 0,ai 0,str [],str [],Qb,Qb,Qb,str [],ai 0,ai 0,str [],str [],Qb,str []],kb Q4]) []) (re (Qe [Qd
  [str [115,101,108,101,99,116],str a38.1,str [],Qb,Qb,str [],Qb,Qb,str [],ai 0,ai 0,str [],str [],Qb,Qb,Qb,str (zf.op a40.1),ai (zf.v a40.1).1,ai (zf.v a40.1).2.1,str (zf.v a40.1).2.2,str (zf.s a40.1),sl Q5 (zf.l a40.1),str []],
  kb Q3]) [])))))))) (Qc (dN a33 [71,82,65,78,84]) (br a43.1 (Qc (Ht a44 [82,69,65,68]) (br a45.1 Tr.err Tr.err)) (Qc (dN a44 [82,69,86,79,75,69]) (br a46.1 (Qc (Ht a47 [82,69,65,68]) (br a48.1 Tr.err Tr.err)) (Qc (dN a47 [77,73,71,82,65,84,69]) (br a49.1
  (Qc (Uq a50 ([],[],[],[],[],0,0,[],[],[],0,0,[],[],[],())) (br (bif !a51.1.2.2.1 then Q3 else a51.1.2.1!=a8) (re (Qe [Qd [str [],str [],str [],Qb,Qb,str [],Qb,Qb,str [],ai 0,ai 0,str [],str [],Qb,Qb,Qb,str [],
  ai 0,ai 0,str [],str [],Qb,str []],kb Q4]) []) (Qc (iG a52) (br (!a53.2) (re (Qe [Qd [str [],str [],str [],Qb,Qb,str [],Qb,Qb,str [],ai 0,ai 0,str [],str [],Qb,Qb,Qb,
  str [],ai 0,ai 0,str [],str [],Qb,str []],kb Q4]) []) (re (Qe [Qd [str a51.2.1,str a51.2.2.1,str a51.2.2.2.1,AV.vec 0,Qb,str a51.t.2.1,Qb,Qb,str (zf.op a51.t.q.1),ai (zf.v a51.t.q.1).1,ai (zf.v a51.t.q.1).2.1,
  str (zf.v a51.t.q.1).2.2,str (zf.s a51.t.q.1),sl Q5 (zf.l a51.t.q.1),Qb,Qb,str a51.t.q.2.1,ai a51.t.t.1,ai a51.t.t.2.1,str a51.t.t.q.1,str a51.t.t.q.2.1,Qb,str a51.t.t.t.1],kb Q3])
  [AO.vec Q6 a51.t.1]))))) (br (bif !a49.2.2.2.1 then Q3 else a49.2.2.1!=a8) (re (Qe [Qd [str [],str [],str [],Qb,Qb,str [],Qb,Qb,str [],ai 0,ai 0,str [],str [],Qb,Qb,Qb,str [],ai 0,ai 0,str [],str [],Qb,str []],kb Q4]) [])
  (Qc Q3 (br Q3 (re (Qe [Qd [str [],str [],str [],Qb,Qb,str [],Qb,Qb,str [],ai 0,ai 0,str [],str [],Qb,Qb,Qb,str [],ai 0,ai 0,str [],str [],Qb,str []],kb Q4]) []) (re (Qe [Qd
  [str [],str [],str [],Qb,Qb,str [],Qb,Qb,str [],ai 0,ai 0,str [],str [],Qb,Qb,Qb,str [],ai 0,ai 0,str [],str [],Qb,str []],kb Q3]) [])))))))))))))))))))))))
def znA:OB->Tr (OB⊕aw)
 | .h17 l4 _ z1 z2=>
  let a0:=(z1.1,z1.2.1,z1.2.2.1,())
  let a1:=bJ a0 [41]
  let a2:=(z2.1,z2.2.1,z2.2.2.1,[],[],z2.2.2.2.1,[],[],zf.mk z2.t.1 (z2.t.2.1,z2.t.q.1,z2.t.q.2.1) z2.t.t.1 [],[],[],zf.mk z2.t.t.2.1 (z2.t.t.q.1,z2.t.t.q.2.1,z2.t.t.t.1) z2.t.t.t.2.1 [],z2.t.t.t.q.1)
  let a3:=kZ a2
  br z1.2.2.1 Tr.err
  (Qc (aY a0 [41])
   (br (bif !a1.2.2.1 then Q3 else a1.2.1!=(↑l4.length:Int)) (re (Qe [Qd [str [],str [],str [],Qb,Qb,str [],Qb,Qb,str [],ai 0,ai 0,str [],str [],Qb,Qb,Qb,str [],ai 0,ai 0,str [],str [],Qb,str []],kb Q4]) []) (Qc (iG a2)
   (br (!a3.2) (re (Qe [Qd [str [],str [],str [],Qb,Qb,str [],Qb,Qb,str [],ai 0,ai 0,str [],str [],Qb,Qb,Qb,str [],ai 0,ai 0,str [],str [],Qb,str []],kb Q4]) []) (re (Qe [Qd
   [str z2.1,str z2.2.1,str z2.2.2.1,Qb,Qb,str z2.2.2.2.1,Qb,Qb,str z2.t.1,ai z2.t.2.1,ai z2.t.q.1,str z2.t.q.2.1,str z2.t.t.1,Qb,Qb,Qb,str z2.t.t.2.1,ai z2.t.t.q.1,
   ai z2.t.t.q.2.1,str z2.t.t.t.1,str z2.t.t.t.2.1,Qb,str z2.t.t.t.q.1],kb Q3]) [])))))
 | .h25 l4 _ z1 z2=>
  let a0:=(z1.1,z1.2.1,z1.2.2.1,())
  let a1:=bQ a0
  let a2:=eM a0 [87,72,69,82,69]
  let a3:=(z2.1,z2.2.1,z2.2.2.1,[],[],z2.2.2.2.1,[],[],zf.mk z2.t.1 (z2.t.2.1,z2.t.q.1,z2.t.q.2.1) z2.t.t.1 [],[],[],zn a2.1,z2.t.t.t.q.1)
  let a4:=kZ a3
  br z1.2.2.1 (Qc (bt a0) (Qc (aY (a1.2.1,a1.2.2.1,a1.2.2.2.1,()) [61]) Tr.err))
  (Qc (dI a0 [87,72,69,82,69])
   (br (bif !a2.2.2.2.1 then Q3 else a2.2.2.1!=(↑l4.length:Int)) (re (Qe [Qd [str [],str [],str [],Qb,Qb,str [],Qb,Qb,str [],ai 0,ai 0,str [],str [],Qb,Qb,Qb,str [],ai 0,ai 0,str [],str [],Qb,str []],kb Q4]) []) (Qc (iG a3)
   (br (!a4.2) (re (Qe [Qd [str [],str [],str [],Qb,Qb,str [],Qb,Qb,str [],ai 0,ai 0,str [],str [],Qb,Qb,Qb,str [],ai 0,ai 0,str [],str [],Qb,str []],kb Q4]) []) (re (Qe [Qd
   [str z2.1,str z2.2.1,str z2.2.2.1,Qb,Qb,str z2.2.2.2.1,Qb,Qb,str z2.t.1,ai z2.t.2.1,ai z2.t.q.1,str z2.t.q.2.1,str z2.t.t.1,Qb,Qb,Qb,str (zf.op a2.1),ai (zf.v a2.1).1,ai (zf.v a2.1).2.1,
   str (zf.v a2.1).2.2,str (zf.s a2.1),sl Q5 (zf.l a2.1),str z2.t.t.t.q.1],kb Q3]) [])))))
def CJ(x0:TS):=al [zl,Q7] znA 100000000 (zm2 x0)
def Um(x0:TS):=(CJ x0).isSome
def cH(x0:TS):=o2 (CJ x0)
def zfG:=FT [Q6] [zl,Q7] λx=>CJ x.1
theorem zbE:FK 51 zfG:=EO.T1 (f:=Tryz.f51) (keep:=zjb) (e:=zlO)
def Zj:=Zi.add 51 zfG
theorem EP:zy Zj:=EO.add zbE
def zmY(x0:TS):Tr (Empty⊕aw):=
 Qc (Um x0)
 (re
  (Qd [str (cH x0).1.1,str (cH x0).1.2.1,str (cH x0).1.2.2.1,sl Q6 (cH x0).1.2.2.2.1,sl zj (cH x0).1.t.1,str (cH x0).1.t.2.1,sl Q6 (cH x0).1.t.q.1,sl (Sh.str.pr Q6) (cH x0).1.t.q.2.1,str (zf.op (cH x0).1.t.t.1),
  ai (zf.v (cH x0).1.t.t.1).1,ai (zf.v (cH x0).1.t.t.1).2.1,str (zf.v (cH x0).1.t.t.1).2.2,str (zf.s (cH x0).1.t.t.1),sl Q5 (zf.l (cH x0).1.t.t.1),sl ze (cH x0).1.t.t.2.1,sl (Sh.str.pr Q5) (cH x0).1.t.t.q.1,
  str (zf.op (cH x0).1.t.t.q.2.1),ai (zf.v (cH x0).1.t.t.q.2.1).1,ai (zf.v (cH x0).1.t.t.q.2.1).2.1,str (zf.v (cH x0).1.t.t.q.2.1).2.2,str (zf.s (cH x0).1.t.t.q.2.1),sl Q5 (zf.l (cH x0).1.t.t.q.2.1),
  str (cH x0).1.t.t.t])
  [])
def zjq(x0:TS):=al [zl] t0 100000000 (zmY x0)
def ze8:=FT [Q6] [zl] λx=>zjq x.1
theorem za1:FK 28 ze8:=EP.T1 (f:=Tryz.f28) (keep:=k0) (e:=e0)
def Zk:=Zj.add 28 ze8
theorem kl:zy Zk:=EP.add za1
def ZD(x0:Sem ze)(x1:Sem ze):Tr (Empty⊕aw):=
 let a0:=x0.1==x1.1&&(x0.2.1==x1.2.1&&(x0.2.2==x1.2.2&&Q3))
 let a1:=aX a0
 Qc (mL x0 x1)
 (br (qB x0 x1) (re (Qd [ai 0,ai 0,str []]) [])
  (Qc (kX a0) (re (Qd [ai a1.1,ai a1.2.1,str a1.2.2]) [])))
def pt(x0:Sem ze)(x1:Sem ze):=al [ze] t0 100000000 (ZD x0 x1)
def uo(x0:Sem ze)(x1:Sem ze):=(pt x0 x1).isSome
def qy(x0:Sem ze)(x1:Sem ze):=o1 (pt x0 x1)
def YC:=FT [ze,ze] [ze] λx=>pt x.1 x.2.1
theorem VP:FK 214 YC:=kl.T1 (f:=Tryz.f214) (keep:=k0) (e:=e0)
def ZE(x0:Sem ze)(x1:Sem ze):Tr (Empty⊕aw):=
 let a0:=Op.bytesLess x0.2.2 x1.2.2
 let a1:=aX a0
 Qc (mL x0 x1)
 (br (qB x0 x1) (re (Qd [ai 0,ai 0,str []]) [])
  (br (Q0 (x0.2.1<x1.2.1)) (Qc Q3 (re (Qd [ai (aX Q3).1,ai (aX Q3).2.1,str (aX Q3).2.2]) [])) (Qc (kX a0) (re (Qd [ai a1.1,ai a1.2.1,str a1.2.2]) []))))
def up(x0:Sem ze)(x1:Sem ze):=al [ze] t0 100000000 (ZE x0 x1)
def yV(x0:Sem ze)(x1:Sem ze):=(up x0 x1).isSome
def wK(x0:Sem ze)(x1:Sem ze):=o1 (up x0 x1)
def YD:=FT [ze,ze] [ze] λx=>up x.1 x.2.1
theorem VQ:FK 215 YD:=kl.T1 (f:=Tryz.f215) (keep:=k0) (e:=e0)
def ZF(x0:Sem ze)(x1:Sem ze):Tr (Empty⊕aw):=
 let a0:=IntKind.i64.wrap (9223372036854775807-x1.2.1)
 let a1:=IntKind.i64.wrap (-9223372036854775808-x1.2.1)
 let a2:=bif Q0 (x1.2.1<0)then Q0 (x0.2.1<a1)else Q4
 Qc (mL x0 x1)
 (br (bif qB x0 x1 then Q3 else x0.1!=1) (re (Qd [ai 0,ai 0,str []]) [])
  (br (bif Q0 (x1.2.1>0)then bif Q0 (x0.2.1>a0)then Q3 else a2 else a2) (re (Qd [ai 0,ai 0,str []]) []) (re (Qd [ai 1,ai (IntKind.i64.wrap (x0.2.1+x1.2.1)),str []]) [])))
def us(x0:Sem ze)(x1:Sem ze):=al [ze] t0 100000000 (ZF x0 x1)
def yW(x0:Sem ze)(x1:Sem ze):=(us x0 x1).isSome
def wM(x0:Sem ze)(x1:Sem ze):=o1 (us x0 x1)
def YE:=FT [ze,ze] [ze] λx=>us x.1 x.2.1
theorem VR:FK 216 YE:=kl.T1 (f:=Tryz.f216) (keep:=k0) (e:=e0)
def ZG(x0:Sem ze)(x1:Sem ze):Tr (Empty⊕aw):=
 let a0:=IntKind.i64.wrap (-9223372036854775808+x1.2.1)
 let a1:=IntKind.i64.wrap (9223372036854775807+x1.2.1)
 let a2:=bif Q0 (x1.2.1<0)then Q0 (x0.2.1>a1)else Q4
 Qc (mL x0 x1)
 (br (bif qB x0 x1 then Q3 else x0.1!=1) (re (Qd [ai 0,ai 0,str []]) [])
  (br (bif Q0 (x1.2.1>0)then bif Q0 (x0.2.1<a0)then Q3 else a2 else a2) (re (Qd [ai 0,ai 0,str []]) []) (re (Qd [ai 1,ai (IntKind.i64.wrap (x0.2.1-x1.2.1)),str []]) [])))
def pz(x0:Sem ze)(x1:Sem ze):=al [ze] t0 100000000 (ZG x0 x1)
def ur(x0:Sem ze)(x1:Sem ze):=(pz x0 x1).isSome
def qz(x0:Sem ze)(x1:Sem ze):=o1 (pz x0 x1)
def YF:=FT [ze,ze] [ze] λx=>pz x.1 x.2.1
theorem VS:FK 217 YF:=kl.T1 (f:=Tryz.f217) (keep:=k0) (e:=e0)
def Zs(x0:Sem Q5)(x1:Sem zj.sl):Tr (Empty⊕aw):=
 br (zf.op x0==[])
 (Qc (gK (zn x0) (zf.mk [] (0,0,[]) [] []))
  (br (!fe (zn x0) (zf.mk [] (0,0,[]) [] [])) (re (ai 1) []) (re (ai 0) [])))
 (Qc (wN (zn x0))
  (br (!Ft (zn x0)) (re (ai 1) []) (Qc (nO (zn x0) x1) (br ((iD (zn x0) x1).2!=0) (re (ai (iD (zn x0) x1).2) []) (br (bif (iD (zn x0) x1).1!=0 then(iD (zn x0) x1).1!=3 else Q4) (re (ai 5) []) (re (ai 0) []))))))
def pE(x0:Sem Q5)(x1:Sem zj.sl):=al [zg] t0 100000000 (Zs x0 x1)
def Cy(x0:Sem Q5)(x1:Sem zj.sl):=(pE x0 x1).isSome
def Ha(x0:Sem Q5)(x1:Sem zj.sl):=o1 (pE x0 x1)
def X2:=FT [Q5,zj.sl] [zg] λx=>pE x.1 x.2.1
theorem Ve:FK 172 X2:=kl.T1 (f:=Tryz.f172) (keep:=k0) (e:=e0)
def Ge:=Zk.addL [(214,YC),(215,YD),(216,YE),(217,YF),(172,X2)]
theorem sx:zy Ge:=kl.addL<|fc VP<|fc VQ<|fc VR<|fc VS<|fc Ve iM
open Go
theorem IA{n b0 b1 b2 b3:Nat}(h:b0<128):Lib.decodeN n b0 b1 b2 b3=(b0,1):=by
 unfold Lib.decodeN;rw[if_pos h]
theorem F3{n b0 b1 b2 b3:Nat}(h:¬b0<128):128<=(Lib.decodeN n b0 b1 b2 b3).1:=by
 unfold Lib.decodeN;rw[if_neg h];repeat' split
 all_goals(simp only;omega)
theorem JC{p:Nat->Bool}(hp:∀c:Nat,p c=Q3↔(c<32\/c>126))(s:List UInt8):∀(f pos:Nat),s.length<=pos+f->(Lib.idxFuncFrom p Q3 ⟨s.toArray⟩ f pos<0↔∀(i:Nat)(h:i<s.length),pos<=i->32<=s[i].toNat/\s[i].toNat<=126)
 | 0,pos,h=>by
  simp only[Lib.idxFuncFrom];exact⟨λ_ i hi hpi=>absurd hi (by omega),λ_=>by decide⟩
 | f + 1,pos,h=>by
  have hsz:(⟨s.toArray⟩:ByteArray).size=s.length:=by simp[ByteArray.size]
  rw[Lib.idxFuncFrom,hsz];by_cases hlt:pos<s.length
  ·have hb:((⟨s.toArray⟩:ByteArray).get! pos)=s[pos]:=by
    simp[ByteArray.get!,hlt]
   rw[if_pos hlt,Lib.decode_at,hb];by_cases h8:s[pos].toNat<128
   ·rw[IA h8];simp only;by_cases ho:p s[pos].toNat=Q3
    ·rw[if_pos ho];have:=(hp _).1 ho;exact⟨λh=>absurd h (by omega),λh=>by have:=h pos hlt (aA _);omega⟩
    ·rw[if_neg ho,JC hp s f (pos+1) (by omega)];have hn:¬(s[pos].toNat<32\/s[pos].toNat>126):=λh=>ho ((hp _).2 h)
     refine⟨λh i hi hpi=>?_,λh i hi hpi=>h i hi (by omega)⟩;by_cases e:i=pos
     ·subst e;omega
     ·exact h i hi (by omega)
   ·have hh:=F3 (n:=(⟨s.toArray⟩:ByteArray).size-pos) (b1:=((⟨s.toArray⟩:ByteArray).get! (pos+1)).toNat) (b2:=((⟨s.toArray⟩:ByteArray).get! (pos+2)).toNat) (b3:=((⟨s.toArray⟩:ByteArray).get! (pos+3)).toNat) h8;rw[if_pos ((hp _).2 (by omega))];exact⟨λh=>absurd h (by omega),λh=>by have:=h pos hlt (aA _);omega⟩
  ·rw[if_neg hlt];exact⟨λ_ i hi hpi=>absurd hi (by omega),λ_=>by decide⟩
theorem Ts{p:Nat->Bool}(hp:∀c:Nat,p c=Q3↔(c<32\/c>126))(s:List UInt8):Lib.idxFunc p Q3 ⟨s.toArray⟩<0↔∀b∈s,32<=b.toNat/\b.toNat<=126:=by
 have hsz:(⟨s.toArray⟩:ByteArray).size=s.length:=by simp[ByteArray.size]
 unfold Lib.idxFunc;rw[JC hp s _ 0 (by omega)];constructor
 ·intro h b hb;obtain⟨i,hi,rfl⟩:=fW hb;exact h i hi (be _)
 ·intro h i hi _;exact h _ (bd hi)
theorem gi{c g:Bool}(h1:c=Q3)(h2:g=Q3):(if c=Q3 then g else Q4)=Q3:=by rw[if_pos h1];exact h2
theorem eo{a b:Nat}(h:a<=b):Q0 (a<=b)=Q3:=zx h
theorem FN{v:Sem ze}(h:aR v=Q3)(h2:(v.1==2)=Q3):v.2.2.length<=40:=by
 have e:v.1=2:=by simpa using h2
 unfold aR at h;rw[e]at h;simp only[show((2:Int)==0)=Q4 from rfl,show((2:Int)==1)=Q4 from rfl,show((2:Int)==2)=Q3 from rfl,zB,if_false,if_true]at h;cases h1:v.2.1==0
 ·rw[h1]at h;simp at h
 ·rw[h1]at h;cases h3:Q0 ((v.2.2.length:Int)<=40)
  ·rw[h3]at h;simp at h
  ·have:=lC h3;omega
theorem KA(v:Sem ze):xf v=Q3:=by
 unfold xf;split
 ·rfl
 ·rename_i hm;have hm:aR v=Q3:=by simpa using hm
  split
  ·rfl
  ·split
   ·rename_i h2;have hl:=FN hm h2;have hr:=ld v.2.2 [39] [39,39];have hr2:(Lib.replaceAll v.2.2 [39] [39,39]).length<=200:=by
     simp only[fj,om]at hr;omega
    refine gi ?_ (gi (eo ?_) (gi (eo ?_) rfl))
    ·unfold uK;simp;omega
    ·simp;omega
    ·simp;omega
   ·rfl
theorem xg(v:Sem ze):(ig v).length<=300:=by
 unfold ig;split
 ·simp
 ·rename_i hm;have hm:aR v=Q3:=by simpa using hm
  split
  ·have:=E4 v.2.1;omega
  ·split
   ·rename_i h2;have hl:=FN hm h2;have hr:=ld v.2.2 [39] [39,39];simp only[fj,om]at hr;simp;omega
   ·split
    ·split<;>simp
    ·simp
theorem FR{s:zD}(h:dU s=Q3):s.length<=16:=by
 have h:pS s=Q3:=h;unfold pS at h;by_cases h2:(s.length:Int)<=16
 ·omega
 ·exfalso;rw[aj h2]at h;cases h1:Q0 ((s.length:Int)>=1)<;>rw[h1]at h<;>simp at h
theorem Tg{g:zf->Int->Int->Bool×Int}{e:zf}{d n:Int}(h:(yp g e d n).1=Q3)(hc:e.op=[99,111,108]):e.s.length<=16:=by
 unfold yp at h;split at h
 ·cases h
 ·split at h
  ·rename_i h1;rw[hc]at h1;simp at h1
  ·split at h
   ·cases h1:ba e.v
    ·rw[h1]at h;simp at h
    ·rw[h1]at h;cases h2:dU e.s
     ·rw[h2]at h;simp at h
     ·exact FR h2
   ·rename_i h1;rw[hc]at h1;simp at h1
theorem HX(s:zD):(Lib.toUpperA s).length=s.length:=by simp[Lib.toUpperA]
theorem A8:∀(N:Nat)(e:zf)(d n:Int),N<=16->(ii N e d n).1=Q3->gH N e=Q3/\(aQ N e).length<=400*2^N-100
 |0,_,_,_,_,h=>by cases h
 | N + 1,e,d,n,hN,h=>by
  rw[ii]at h;obtain⟨hl,h2⟩:=wC h;have hp:2^N<=2^15:=D8 ow ow;have hp1:1<=2^N:=Nat.one_le_two_pow;have hpp:2^(N+1)=2*2^N:=by rw[AS];omega
  have hparts:∀x∈e.l,gH N x=Q3/\(aQ N x).length<=400*2^N-100:=by
   intro x hx;rcases h2 with h2|h2
   ·exfalso;have:cO e.op=0:=by
     rcases h2 with h2|h2<;>rw[h2]<;>decide
    rw[this]at hl;have:e.l=[]:=yk ow;rw[this]at hx;simp at hx
   ·obtain⟨m,hm⟩:=ue e.l _ h2 x hx;exact A8 N x _ _ ow hm
  have hget:∀i,i<e.l.length->e.l.getD i (zi Q5)∈e.l:=by
   intro i hi;rw[bc,zS hi];exact bd hi
  rw[gH,aQ];unfold yF su;rcases lP e.op with⟨hp0,hop|hop⟩|⟨hp0,hop|hop⟩|⟨hp0,hop⟩|hp0
  ·rw[hop];simp only[beq_self_eq_true,if_true];refine⟨gi (KA _) rfl,?_⟩;have:=xg e.v;omega
  ·have hs:=Tg h hop;rw[hop];refine⟨rfl,?_⟩;show e.s.length<=_;omega
  ·rw[hp0]at hl;have hlen:e.l.length=1:=by omega
   obtain⟨k1,k2⟩:=hparts _ (hget 0 ow);rw[hop];refine⟨gi ?_ (gi k1 (gi (eo ?_) (gi (eo ?_) rfl))),?_⟩
   ·simp[zK,hlen]
   ·simp at k2⊢;omega
   ·simp at k2⊢;omega
   ·show([40,78,79,84,32]++aQ N (e.l.getD 0 (zi Q5))++[41]).length<=_;simp at k2⊢;omega
  ·rw[hp0]at hl;have hlen:e.l.length=1:=by omega
   obtain⟨k1,k2⟩:=hparts _ (hget 0 ow);rw[hop];refine⟨gi ?_ (gi k1 (gi (eo ?_) (gi (eo ?_) rfl))),?_⟩
   ·simp[zK,hlen]
   ·simp at k2⊢;omega
   ·simp at k2⊢;omega
   ·show([40]++aQ N (e.l.getD 0 (zi Q5))++[32,73,83,32,78,85,76,76,41]).length<=_;simp at k2⊢;omega
  ·rw[hp0]at hl;have hlen:e.l.length=2:=by omega
   obtain⟨k1,k2⟩:=hparts _ (hget 0 ow);obtain⟨k3,k4⟩:=hparts _ (hget 1 ow);have hu:(Q0 (e.op.length<=140737488355328)&&e.op.all λb=>Q0 (b.toNat<128))=Q3:=by
    rcases hop with hop|hop|hop|hop|hop|hop<;>rw[hop]<;>decide
   have hol:e.op.length<=3:=by
    rcases hop with hop|hop|hop|hop|hop|hop<;>rw[hop]<;>simp
   have hul:=HX e.op;have n1:(e.op==[108,105,116])=Q4:=by rcases hop with hop|hop|hop|hop|hop|hop<;>rw[hop]<;>rfl
   have n2:(e.op==[99,111,108])=Q4:=by rcases hop with hop|hop|hop|hop|hop|hop<;>rw[hop]<;>rfl
   have n3:(e.op==[110,111,116])=Q4:=by rcases hop with hop|hop|hop|hop|hop|hop<;>rw[hop]<;>rfl
   have n4:(e.op==[110,117,108,108])=Q4:=by rcases hop with hop|hop|hop|hop|hop|hop<;>rw[hop]<;>rfl
   simp only[n1,n2,n3,n4,zB,if_false];refine⟨gi ?_ (gi k1 (gi (eo ?_) (gi (eo ?_) (gi hu (gi (eo ?_) (gi (eo ?_) (gi ?_ (gi k3 (gi (eo ?_) (gi (eo ?_) rfl)))))))))),?_⟩
   ·simp[zK,hlen]
   all_goals first
    |(simp[zK,hlen];done)
    |(simp at k2 k4⊢;omega)
  ·rw[hp0]at hl;omega
theorem Gq(e:zf):qf e=Q3:=by
 unfold qf;split
 ·rfl
 ·rename_i h;exact gi (A8 16 e 1 0 ow (by simpa[de]using h)).1 rfl
theorem Lh(e:zf):(nA e).1.length<=30000000:=by
 unfold nA;split
 ·simp
 ·rename_i h;have:=(A8 16 e 1 0 ow (by simpa[de]using h)).2;show(aQ 16 e).length<=_;omega
theorem yL(p:Int->Bool):∀s:zD,cK p s<=s.length
 |[]=>by simp[cK]
 | c::r=>by
  have:=yL p r;rw[cK];split<;>simp<;>omega
theorem qV(f m:Int->Bool)(s:zD):aN f m s<=s.length:=by
 cases s with
 |nil=>simp[aN]
 | cons c r=>
  have:=yL m r;rw[aN];split<;>simp<;>omega
theorem UZ(i:Nat)(h:i<=4000000000):IntKind.i64.wrap (i:Int)=(i:Int):=by
 have:=zp (i-1) um;cases i with
 |zero=>rfl
 |succ i=>simpa using this
theorem pT(i:Nat)(h:i<=4000000000):IntKind.i64.wrap ((i:Int)+1)=((i+1:Nat):Int):=zp i um
theorem nR:∀(n:Nat)(s:zD)(i:Nat)(a:Int)(b:zD),1<=i->i<=s.length->s.length+2<=n+i->s.length<=1000000000->jf n s (i:Int) a b=Q3
 |0,s,i,a,b,h1,h2,h3,h4=>by omega
 | n + 1,s,i,a,b,h1,h2,h3,h4=>by
  rw[jf];split
  ·rename_i hlt;have hlt:i<s.length:=by have:=lC hlt;omega
   refine gi (zt hlt) ?_;rw[pT i ow];split
   ·exact nR n s (i+1) a b ow ow ow h4
   ·refine gi ?_ ?_
    ·cases hd:Q0 (((i+1:Nat):Int)<(s.length:Int))
     ·rfl
     ·exact zt (by have:=lC hd;omega)
    ·split
     ·rename_i hh;have h5:i+1<s.length:=by
       cases hd:Q0 (((i+1:Nat):Int)<(s.length:Int))
       ·rw[hd]at hh;simp at hh
       ·have:=lC hd;omega
      rw[pT (i+1) ow];exact nR n s (i+1+1) a b ow ow ow h4
     ·refine gi ?_ (gi ?_ rfl)
      ·simp;omega
      ·unfold uK;simp;omega
  ·rfl
theorem sY:∀(n:Nat)(s:zD)(i:Nat)(a:Int)(b:zD),1<=i->i<=s.length->s.length+2<=n+i->s.length<=1000000000->
  (eS n s (i:Int) a b=((0,[]),0))\/∃k:Nat,(eS n s (i:Int) a b).2=(k:Int)/\1<=k/\k<=s.length
 |0,s,i,a,b,h1,h2,h3,h4=>by omega
 | n + 1,s,i,a,b,h1,h2,h3,h4=>by
  rw[eS];split
  ·rename_i hlt;have hlt:i<s.length:=by have:=lC hlt;omega
   rw[pT i ow];split
   ·exact sY n s (i+1) a b ow ow ow h4
   ·split
    ·rename_i hh;have h5:i+1<s.length:=by
      cases hd:Q0 (((i+1:Nat):Int)<(s.length:Int))
      ·rw[hd]at hh;simp at hh
      ·have:=lC hd;omega
     rw[pT (i+1) ow];exact sY n s (i+1+1) a b ow ow ow h4
    ·exact .inr ⟨i+1,rfl,ow,ow⟩
  ·exact .inl rfl
theorem HY(t:Sem bZ):rb t=Q3:=by
 unfold rb;split
 ·rfl
 ·split
  ·refine gi ?_ rfl;cases h:((t.2.length:Int)==1)
   ·rfl
   ·have:(t.2.length:Int)=1:=by simpa using h
    simp only[ae,bf];omega
  ·simp
theorem Do(s:zD)(h0:s≠[])(h1:s.length<=1000000000):kx s=Q3:=by
 have hl:1<=s.length:=by cases s with|nil=>exact absurd rfl h0|cons _ _=>simp
 have r1:=qV aK bw s;have r2:=qV zY zY s;have hq:j9 s=Q3:=nR (s.length+1) s 1 _ _ ow hl ow h1;have hb:zK 0 s.length=Q3:=zt hl;have d1:(Q0 ((0:Int)<=0)&&Q0 (0<=(↑(aN aK bw s):Int))&&Q0 ((↑(aN aK bw s):Int)<=(↑(length s):Int)))=Q3:=by simp;omega
 have d2:(Q0 ((0:Int)<=0)&&Q0 (0<=(↑(aN zY zY s):Int))&&Q0 ((↑(aN zY zY s):Int)<=(↑(length s):Int)))=Q3:=by simp;omega
 have d3:(Q0 ((0:Int)<=0)&&Q0 ((0:Int)<=1)&&Q0 (1<=(↑(length s):Int)))=Q3:=by simp;omega
 unfold kx;simp only[hq,hb,if_true,zB,if_false];repeat' split
 all_goals first
  |rfl
  |(rename_i h;exfalso;apply h;simp;omega)
theorem vp(s:zD)(h0:s≠[])(h1:s.length<=1000000000)(hm:ck (bF s).1=Q3):∃k:Nat,(bF s).2=(k:Int)/\1<=k/\k<=s.length:=by
 have hl:1<=s.length:=by cases s with|nil=>exact absurd rfl h0|cons _ _=>simp
 have r1:=qV aK bw s;have r2:=qV zY zY s;have hq:=sY (s.length+1) s 1 0 [] ow hl ow h1;unfold bF at hm⊢;simp only[if_true,zB,if_false]at hm⊢;split
 ·rename_i h;have:=lC h;exact⟨_,rfl,ow,ow⟩
 ·rename_i h;rw[if_neg h]at hm;split
  ·rename_i h2;have:=lC h2;exact⟨_,rfl,ow,ow⟩
  ·rename_i h2;rw[if_neg h2]at hm;split
   ·rename_i h3;rw[if_pos h3]at hm;rcases hq with hq|⟨k,hk,hk1,hk2⟩
    ·exfalso;have hqq:dW s=((0,[]),0):=hq;rw[hqq]at hm;revert hm;decide
    ·exact⟨k,hk,hk1,hk2⟩
   ·exact⟨1,rfl,ow,ow⟩
theorem vK:∀(n:Nat)(s:zD)(i:Nat)(l:List (Sem zu)),i<=s.length->s.length+1<=n+i->s.length<=1000000000->l.length<=400->sm n s (i:Int) l=true
 |0,s,i,l,h1,h2,h3,h4=>by omega
 | n + 1,s,i,l,h1,h2,h3,h4=>by
  rw[sm];split
  ·rename_i hlt;have hlt:i<s.length:=by have:=lC hlt;omega
   have e1:Qg ((s.length:Int).toNat-(i:Int).toNat) (Qh (i:Int).toNat s)=s.drop i:=by
    simp only[aG];exact MR sw
   rw[e1];refine gi ?_ ?_
   ·rw[zt hlt];cases(((s.getD (i:Int).toNat 0).toNat:Int)==32)<;>rfl
   ·split
    ·rw[pT i ow];exact vK n s (i+1) l ow ow h3 h4
    ·have hne:s.drop i≠[]:=by
      intro h;have:=congrArg length h;simp at this;omega
     have hdl:(s.drop i).length<=1000000000:=by simp;omega
     refine gi ?_ (gi (Do _ hne hdl) (gi (HY _) ?_))
     ·simp;omega
     ·split
      ·rfl
      ·rename_i hh;have hm:ck (bF (s.drop i)).1=Q3:=by
        cases hq:ck (bF (s.drop i)).1
        ·rw[hq]at hh;simp at hh
        ·rfl
       have hl4:l.length≠400:=by
        intro h5;rw[hm,h5]at hh;simp at hh
       obtain⟨k,hk,hk1,hk2⟩:=vp _ hne hdl hm;have hk3:k<=s.length-i:=by simpa using hk2
       refine gi (eo ?_) ?_
       ·simp;omega
       ·rw[hk,show((i:Int)+(k:Int))=((i+k:Nat):Int) by omega,UZ (i+k) ow];exact vK n s (i+k) _ ow ow h3 sg
  ·rfl
theorem Rk(s:zD)(h:s.length<=1000000000):Rj s=Q3:=vK (s.length+1) s 0 [] ow ow h sw
structure l5 (s:Sem zl):Prop where
 op:s.1.length<=1000
 table:s.2.1.length<=1000
 other:s.2.2.1.length<=1000
 names:s.2.2.2.1.length<=20/\∀x∈s.2.2.2.1,length x<=1000
 cols:s.t.1.length<=20/\∀x∈s.t.1,length x.1<=1000
 key:s.t.2.1.length<=1000
 uniques:s.t.q.1.length<=20/\∀x∈s.t.q.1,length x<=1000
 refs:s.t.q.2.1.length<=20/\∀x∈s.t.q.2.1,length x.1<=1000/\length x.2<=1000
 row:s.t.t.2.1.length<=20
 sets:s.t.t.q.1.length<=20/\∀x∈s.t.t.q.1,length x.1<=1000
 role:s.t.t.t.length<=1000
theorem ua(sep:zD)(B:Nat):∀l:List zD,(∀x∈l,x.length<=B)->(Lib.join l sep).length<=l.length*(B+sep.length)
 |[],_=>by simp[Lib.join,List.intercalate]
 | [x],h=>by
  rw[Lib.join_one];have:=h x sw;simp;omega
 | x::y::r,h=>by
  have ih:=ua sep B (y::r) (λz hz=>h z (tk _ hz));have hx:=h x sw;have e:Lib.join (x::y::r) sep=x++sep++Lib.join (y::r) sep:=by simp[Lib.join,List.intercalate,List.intersperse]
  rw[e];simp only[jW,fj]at ih⊢;rw[kB];omega
theorem pj{α:Type}(p:α->Bool):∀(l:List α)(i:Nat),(!Q0 (zW p l i>=0))=Q3->∀x∈l,p x=Q4
 |[],_,_,x,hx=>by simp at hx
 | y::r,i,h,x,hx=>by
  rw[zW]at h;cases hy:p y
  ·rw[hy]at h;rcases cu.1 hx with rfl|hx
   ·exact hy
   ·exact pj p r (i+1) (by simpa using h) x hx
  ·exfalso;rw[hy]at h;simp at h
   try omega
theorem DX(e:zf):pV e=Q3:=gi (Gq e) rfl
theorem yh(e:zf):(iL e).length<=30000000:=Lh e
theorem ni(s:zD)(h:s.length<=10)(e:zf):tw s e=Q3:=by
 unfold tw;have:=yh e;split
 ·rfl
 ·refine gi (eo ?_) (gi (DX e) (gi (eo ?_) (gi (eo ?_) rfl)))
  all_goals(simp;omega)
theorem sk(s:zD)(h:s.length<=10)(e:zf):(kD s e).length<=30000030:=by
 unfold kD;have:=yh e;split
 ·simp
 ·simp;omega
theorem pJ:∀(l:List (Sem Q6))(i:Int)(acc:List zD),dF l i acc=Lib.join (acc++l.map lU) [32,44,32]
 |[],i,acc=>by simp[dF]
 |x::r,i,acc=>by rw[dF,pJ r];simp
theorem HG(B:Nat)(l:List (Sem Q6))(h:∀x∈l,(lU x).length<=B):(gD l).length<=l.length*(B+3):=by
 unfold gD;rw[pJ];have:=ua [32,44,32] B ([]++l.map lU) (λy hy=>by
  simp only[Ec,bq]at hy;obtain⟨x,hx,rfl⟩:=hy;exact h x hx)
 simpa using this
theorem uY(B:Nat)(hB:B<=100000000):∀(l:List (Sem Q6))(i:Int)(acc:List zD),(∀x∈l,(lU x).length<=B)->(∀x∈acc,x.length<=B)->acc.length+l.length<=40->dR l i acc=Q3
 | [],i,acc,_,ha,hl=>by
  rw[dR];refine gi ?_ rfl;have h1:=ua [32,44,32] B acc ha;have h2:acc.length*(B+3)<=40*100000003:=Eh (by simpa using hl) ow
  replace h1:(Lib.join acc [32,44,32]).length<=acc.length*(B+3):=h1
  simp only[aC,aP];simp at hl;exact⟨ow,ow⟩
 | x::r,i,acc,h,ha,hl=>by
  rw[dR];have hx:=h x sw;simp at hl;refine gi (eo ?_) ?_
  ·simp;omega
  ·refine uY B hB r (i+1) _ (λy hy=>h y (tk _ hy)) (λy hy=>?_) sg;rcases cR.1 hy with hy|hy
   ·exact ha y hy
   ·simp at hy;subst hy;exact hx
theorem eC{s:Sem zl}{g b:Bool}(hv:(tV s).val=if g=Q3 then some (.inr (.bool b,[]))else none):uS s=g/\fh s=(g&&b):=by
 unfold uS fh Av al cT;rw[hv];cases g<;>cases b<;>exact⟨rfl,rfl⟩
theorem Xn{x:zD}(o:x=[99,111,112,121]):(x==[99,114,101,97,116,101])=Q4/\(x==[100,114,111,112])=Q4/\(x==[105,110,115,101,114,116])=Q4/\(x==[117,112,100,97,116,101])=Q4/\(x==[100,101,108,101,116,101])=Q4/\(x==[115,101,108,101,99,116])=Q4/\(x==[114,101,97,100])=Q4/\(x==[119,114,105,116,101])=Q4/\(x==[117,110,114,101,97,100])=Q4/\(x==[117,110,119,114,105,116,101])=Q4/\(x==[99,111,112,121])=Q3:=by rw[o];exact⟨rfl,rfl,rfl,rfl,rfl,rfl,rfl,rfl,rfl,rfl,rfl⟩
theorem Xo{x:zD}(o:x=[106,111,105,110]):(x==[99,114,101,97,116,101])=Q4/\(x==[100,114,111,112])=Q4/\(x==[105,110,115,101,114,116])=Q4/\(x==[117,112,100,97,116,101])=Q4/\(x==[100,101,108,101,116,101])=Q4/\(x==[115,101,108,101,99,116])=Q4/\(x==[114,101,97,100])=Q4/\(x==[119,114,105,116,101])=Q4/\(x==[117,110,114,101,97,100])=Q4/\(x==[117,110,119,114,105,116,101])=Q4/\(x==[99,111,112,121])=Q4/\(x==[106,111,105,110])=Q3:=by rw[o];exact⟨rfl,rfl,rfl,rfl,rfl,rfl,rfl,rfl,rfl,rfl,rfl,rfl⟩
theorem TP{x:zD}(o:x=[103,114,111,117,112]):(x==[99,114,101,97,116,101])=Q4/\(x==[100,114,111,112])=Q4/\(x==[105,110,115,101,114,116])=Q4/\(x==[117,112,100,97,116,101])=Q4/\(x==[100,101,108,101,116,101])=Q4/\(x==[115,101,108,101,99,116])=Q4/\(x==[114,101,97,100])=Q4/\(x==[119,114,105,116,101])=Q4/\(x==[117,110,114,101,97,100])=Q4/\(x==[117,110,119,114,105,116,101])=Q4/\(x==[99,111,112,121])=Q4/\(x==[106,111,105,110])=Q4/\(x==[103,114,111,117,112])=Q3:=by rw[o];exact⟨rfl,rfl,rfl,rfl,rfl,rfl,rfl,rfl,rfl,rfl,rfl,rfl,rfl⟩
abbrev jC(op:zD):Prop:=op=[99,111,112,121]\/op=[106,111,105,110]\/op=[103,114,111,117,112]
theorem fQ{x:Sem zl}(h1:x.2.1.length<=1000)(h2:x.2.2.1.length<=1000)(h3:x.2.2.2.2.2.1.length<=1000)(h4:x.2.2.2.2.2.2.2.2.2.2.2.2.length<=1000):ee x=Q3:=by
 unfold ee;refine gi (eo ?_) (gi (eo ?_) (gi (eo ?_) rfl))
 all_goals first|omega|(simp;omega)
theorem AX{c g:Bool}(h:g=Q3):(bif c then g else Q3)=Q3:=by cases c<;>simp[h]
def tC(s:Sem zl):zD:=[77,73,71,82,65,84,69,32]++[67,79,80,89]++[32]++s.2.1++[32,70,82,79,77,32]++s.2.2.1++[32,40,32]++gD s.2.2.2.1++[32,41]++kD [32] s.t.t.1
def tJ(s:Sem zl):zD:=[77,73,71,82,65,84,69,32]++[74,79,73,78]++[32]++s.2.1++[32,70,82,79,77,32]++s.2.2.1++[32,44,32]++s.t.t.t++[32,79,78,32]++s.t.2.1++kD [32] s.t.t.1
def tG(s:Sem zl):zD:=[77,73,71,82,65,84,69,32]++[71,82,79,85,80]++[32]++s.2.1++[32,70,82,79,77,32]++s.2.2.1++[32,66,89,32]++s.2.2.2.1.getD 0 []++[32,83,85,77,32]++s.2.2.2.1.getD 1 []++kD [32] s.t.t.1
theorem Z8{s:Sem zl}(h:l5 s)(o:s.1=[99,111,112,121]):(xJ s).val=some (.inr (.str (tC s),[]))/\(tC s).length<=1000000000:=by
 obtain⟨p0,p1,p2,p3,p4,p5,p6,p7,p8,p9,p10⟩:=Xn o;have hU:Lib.toUpperA s.1=[67,79,80,89]:=by rw[o];rfl
 have ha:(Q0 (length s.1<=140737488355328)&&List.all s.1 λb=>Q0 (b.toNat<128))=Q3:=by rw[o];decide
 have ht:=h.table;have ho:=h.other;have hr:=h.role;have hk:=h.key;have hcC:=ni [32] sw s.t.t.1;have hcl:=sk [32] sw s.t.t.1;have hsC:mX s.2.2.2.1=Q3:=uY 1000 ow s.2.2.2.1 0 [] h.names.2 sw (by have:=h.names.1;simp;omega);have hsl:=HG 1000 s.2.2.2.1 h.names.2;have hsl:(gD s.2.2.2.1).length<=20*1003:=cD hsl (Eh h.names.1 ow);refine⟨?_,by unfold tC;simp only[jW,fj,om];omega⟩;unfold tC;simp only[xJ,Tr.val,zk,ha,hU,p0,p1,p2,p3,p4,p5,p6,p7,p8,p9,p10,hsC,hcC,if_true,zB,if_false]
 iterate 9 rw[if_pos (zx (by simp<;>omega))]
theorem zaa{s:Sem zl}(h:l5 s)(o:s.1=[106,111,105,110]):(xJ s).val=some (.inr (.str (tJ s),[]))/\(tJ s).length<=1000000000:=by
 obtain⟨p0,p1,p2,p3,p4,p5,p6,p7,p8,p9,p10,p11⟩:=Xo o;have hU:Lib.toUpperA s.1=[74,79,73,78]:=by rw[o];rfl
 have ha:(Q0 (length s.1<=140737488355328)&&List.all s.1 λb=>Q0 (b.toNat<128))=Q3:=by rw[o];decide
 have ht:=h.table;have ho:=h.other;have hr:=h.role;have hk:=h.key;have hcC:=ni [32] sw s.t.t.1;have hcl:=sk [32] sw s.t.t.1;refine⟨?_,by unfold tJ;simp only[jW,fj,om];omega⟩;unfold tJ;simp only[xJ,Tr.val,zk,ha,hU,p0,p1,p2,p3,p4,p5,p6,p7,p8,p9,p10,p11,hcC,if_true,zB,if_false]
 iterate 10 rw[if_pos (zx (by simp<;>omega))]
theorem Z9{s:Sem zl}(h:l5 s)(o:s.1=[103,114,111,117,112])(hl:s.2.2.2.1.length=2):(xJ s).val=some (.inr (.str (tG s),[]))/\(tG s).length<=1000000000:=by
 obtain⟨p0,p1,p2,p3,p4,p5,p6,p7,p8,p9,p10,p11,_⟩:=TP o;have hU:Lib.toUpperA s.1=[71,82,79,85,80]:=by rw[o];rfl
 have ha:(Q0 (length s.1<=140737488355328)&&List.all s.1 λb=>Q0 (b.toNat<128))=Q3:=by rw[o];decide
 have ht:=h.table;have ho:=h.other;have hr:=h.role;have hk:=h.key;have hcC:=ni [32] sw s.t.t.1;have hcl:=sk [32] sw s.t.t.1;have n0:(s.2.2.2.1.getD 0 []).length<=1000:=by
  rw[bc,zS ow,dw];exact h.names.2 _ (bd _)
 have n1:(s.2.2.2.1.getD 1 []).length<=1000:=by
  rw[bc,zS ow,dw];exact h.names.2 _ (bd _)
 have i0:zK 0 (length s.2.2.2.1)=Q3:=by rw[hl];rfl
 have i1:zK 1 (length s.2.2.2.1)=Q3:=by rw[hl];rfl
 have g0:getD s.2.2.2.1 (Int.toNat 0) (zi Q6)=s.2.2.2.1.getD 0 []:=rfl;have g1:getD s.2.2.2.1 (Int.toNat 1) (zi Q6)=s.2.2.2.1.getD 1 []:=rfl;refine⟨?_,by unfold tG;simp only[jW,fj,om];omega⟩;unfold tG;simp only[xJ,Tr.val,zk,ha,hU,p0,p1,p2,p3,p4,p5,p6,p7,p8,p9,p10,p11,g0,g1,i0,i1,hcC,if_true,zB,if_false];generalize s.2.2.2.1.getD 0 []=a0 at n0;generalize s.2.2.2.1.getD 1 []=a1 at n1
 iterate 10 rw[if_pos (zx (by simp<;>omega))]
theorem iK{s:Sem zl}{t:zD}(h:(xJ s).val=some (.inr (.str t,[]))/\t.length<=1000000000):C4 s=Q3/\iJ s=t:=by
 unfold C4 iJ Hy al cT;rw[h.1];exact⟨rfl,rfl⟩
theorem Hx{s:Sem zl}(hs:l5 s)(hm:jC s.1):uS s=Q3:=by
 have t2:=hs.other;have t3:=hs.key;have t4:=hs.role;rcases hm with o|o|o
 ·obtain⟨p0,p1,p2,p3,p4,p5,p6,p7,p8,p9,p10⟩:=Xn o;obtain⟨hc,_⟩:=eC (s:=s) (g:=_) (b:=_) (by simp only[tV,Tr.val,p0,p1,p2,p3,p4,p5,p6,p7,p8,p9,p10,if_true,if_false,zB,zk];exact rfl);rw[hc];exact AX (fQ (by simp) (by first|exact t2|simp) (by first|exact t3|simp) (by first|exact t4|simp))
 ·obtain⟨p0,p1,p2,p3,p4,p5,p6,p7,p8,p9,p10,p11⟩:=Xo o;obtain⟨hc,_⟩:=eC (s:=s) (g:=_) (b:=_) (by simp only[tV,Tr.val,p0,p1,p2,p3,p4,p5,p6,p7,p8,p9,p10,p11,if_true,if_false,zB,zk];exact rfl);rw[hc];exact AX (fQ (by simp) (by first|exact t2|simp) (by first|exact t3|simp) (by first|exact t4|simp))
 ·obtain⟨p0,p1,p2,p3,p4,p5,p6,p7,p8,p9,p10,p11,p12⟩:=TP o;obtain⟨hc,_⟩:=eC (s:=s) (g:=_) (b:=_) (by simp only[tV,Tr.val,p0,p1,p2,p3,p4,p5,p6,p7,p8,p9,p10,p11,p12,if_true,if_false,zB,zk];exact rfl);rw[hc];exact AX (fQ (by simp) (by first|exact t2|simp) (by first|exact t3|simp) (by first|exact t4|simp))
theorem lL{s:Sem zl}(h:fh s=Q3)(o:s.1=[103,114,111,117,112]):s.2.2.2.1.length=2:=by
 obtain⟨p0,p1,p2,p3,p4,p5,p6,p7,p8,p9,p10,p11,p12⟩:=TP o;obtain⟨_,hp⟩:=eC (s:=s) (g:=_) (b:=_) (by simp only[tV,Tr.val,p0,p1,p2,p3,p4,p5,p6,p7,p8,p9,p10,p11,p12,if_true,if_false,zB,zk];exact rfl);rw[hp]at h;by_cases hl:s.2.2.2.1.length=2
 ·exact hl
 ·exfalso;have hd:(bif Q0 ((s.2.2.2.1.length:Int)<2)then Q3 else Q0 ((s.2.2.2.1.length:Int)>2))=Q3:=by
   rcases Nat.lt_or_gt_of_ne hl with h2|h2
   ·have:Q0 ((s.2.2.2.1.length:Int)<2)=Q3:=zx ow;rw[this];rfl
   ·have:Q0 ((s.2.2.2.1.length:Int)>2)=Q3:=zx ow;rw[this];cases Q0 ((s.2.2.2.1.length:Int)<2)<;>rfl
  rw[hd]at h;cases h1:bR s.2.1<;>cases h2:bR s.2.2.1<;>rw[h1,h2]at h<;>simp at h
theorem Kr{s:Sem zl}(hs:l5 s)(hm:jC s.1):nY s=Q3:=by
 unfold nY;refine gi ?_ rfl;unfold uX;refine gi (Hx hs hm) ?_;split
 ·rfl
 ·rename_i h;have hp:fh s=Q3:=by simpa using h
  have:C4 s=Q3/\(iJ s).length<=1000000000:=by
   rcases hm with o|o|o
   ·have:=Z8 hs o;exact⟨(iK this).1,(iK this).2▸this.2⟩
   ·have:=zaa hs o;exact⟨(iK this).1,(iK this).2▸this.2⟩
   ·have:=Z9 hs o (lL hp o);exact⟨(iK this).1,(iK this).2▸this.2⟩
  exact gi this.1 (gi (Rk _ this.2) rfl)
theorem Dt:∀(es:List ((Int×Int×zD)×Int))(n:Nat)(x:Int),(jV es n x).length=es.length
 |[],_,_=>rfl
 |_::_,0,_=>rfl
 |_::r,n+1,x=>by simp[jV,Dt r n x]
theorem UX(es:List ((Int×Int×zD)×Int))(k:Int×Int×zD):(jM es k).length<=es.length+1:=by
 unfold jM;cases m7 es k<;>simp
theorem FP:∀(es:List ((Int×Int×zD)×Int))(k:Int×Int×zD),(m7 es k=Q3->lv es k<es.length)/\lv es k<=es.length
 |[],k=>⟨λh=>by simp[m7]at h,aA _⟩
 | p::r,k=>by
  obtain⟨h1,h2⟩:=FP r k;constructor
  ·intro h;rw[lv];cases hk:(k==p.1)with
   |true=>simp
   | false=>
    have:m7 r k=Q3:=by simpa[m7,hk]using h
    have:=h1 this;simp;omega
  ·rw[lv];cases(k==p.1)<;>simp<;>omega
theorem XW(es:List ((Int×Int×zD)×Int))(k:Int×Int×zD):lv es k<(jM es k).length:=by
 obtain⟨h1,h2⟩:=FP es k;unfold jM;cases h:m7 es k with
 |true=>exact h1 h
 |false=>simp;omega
def Dx(c:Int)(n:Nat):Prop:=0<=c/\c<n
theorem tX{c:Int}{n:Nat}(h:Dx c n):zK c n=Q3:=by
 simp[zK,h.1,h.2]
theorem pf(x:Int)(n:Nat):wt x n=Q3↔Dx x n:=by
 unfold Dx wt;by_cases h:x>=0
 ·rw[zx h];simp;omega
 ·rw[aj h];simp;omega
theorem wT{α:Type}{l:List α}{d:α}{p:α->Bool}:((List.range l.length).all λi=>p (l.getD i d))=Q3↔∀x∈l,p x=Q3:=by
 rw[dX];constructor
 ·intro h x hx;obtain⟨i,hi,rfl⟩:=fW hx;have:=h i (oR.2 hi)
  rwa [bc,zS hi]at this
 ·intro h i hi;have hi:=oR.1 hi;rw[bc,zS hi];exact h _ (bd hi)
theorem Ke{t:Sem zo}:(List.range (length t.t.1)).all (XA t)=Q3↔∀f∈t.t.1,Dx f.1 (length t.2.1)/\zO f.2=Q3:=by
 have h:=wT (l:=t.t.1) (d:=zi zu) (p:=λf:Sem zu=>wt f.1 (length t.2.1)&&zO f.2);simp only[aC,pf]at h;exact h
theorem g8{t:Sem zo}(h:eD t=Q3):Dx t.2.2.1 t.2.1.length/\(∀f∈t.t.1,Dx f.1 t.2.1.length)/\(∀u∈t.2.2.2.1,Dx u t.2.1.length)/\t.2.1.length<=8/\1<=t.2.1.length:=by
 have h8:=Nt h;unfold eD at h;simp only[aC,pf]at h;obtain⟨h0,_,h2,h3,h4,_⟩:=h;have h3:=Ke.1 h3;have h2:=(wT (l:=t.2.2.2.1) (d:=zi zg) (p:=λu=>wt u (length t.2.1))).1 h2;simp only[pf]at h2;refine⟨h4,λf hf=>(h3 f hf).1,h2,h8,?_⟩;cases hn:zO t.1
 ·rw[hn]at h0;simp at h0
 ·rw[hn]at h0;simp at h0;omega
theorem BD{t:Sem zo}{row:List (Sem ze)}(h:(eb t row !=0)≠Q3):row.length=t.2.1.length:=by
 simp at h;unfold eb at h;split at h
 ·cases h
 ·rename_i h1;cases hm:eD t with
  |false=>rw[hm]at h1;simp at h1
  | true=>
   rw[hm]at h1;simp at h1;omega
end
end Cad
