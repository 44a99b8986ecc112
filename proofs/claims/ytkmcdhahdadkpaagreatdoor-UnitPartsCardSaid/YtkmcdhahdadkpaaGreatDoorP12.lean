/- The document's reader: cut; names. The document's writer: creates; columns, sources. The document's writer. The document's statements: texts. -/
import Derived.Test.YtkmcdhahdadkpaaGreatDoorP11
import Derived.Test.YtkmcdhahdadkpaaGreatDoorP08
import Derived.Shelf.GgClosure.StringsIndexFunc
import Derived.Lib.DecodeN
import Derived.Test.YtkmcdhahdadkpaaGreatDoorP10
namespace Cad
open Go Go.Proofs
open List renaming drop→Qh,take→Qg
open AV renaming tup→Qe,agg→Qd,nils→Qb
open Tr renaming chk→Qc,«to»→Q9
open AO renaming box→Qa
open Sh renaming bool→Q7,str→Q6,expr→Q5
open Bool renaming false→Q4,true→Q3
open Decidable renaming decide→Q0
open List (getD length)
open Tr (chk br re)
open AV (nils agg tup ptr kb str sl)
noncomputable section
set_option maxHeartbeats 4000000
abbrev zhs:=mM [(3,[0,4,5]),(11,[0,4,5,6,7,8]),(15,[0,4,5,6,7,8]),(20,[0,4,5,8])]
inductive dY where
 |h3 (s0:TS) (i5:Int)
 |h11 (s0:TS) (i5:Int) (i6:Int) (i7:Int) (z0:zn [CP.d zr])
 |h15 (s0:TS) (i5:Int) (i6:Int) (i7:Int) (z0:zn [CP.d zr])
 |h20 (s0:TS) (i5:Int) (z0:zn [CP.d zr])
 |h3b (s0:TS) (i5:Int) (lh_0:LF)
 |h11b (s0:TS) (i5:Int) (i6:Int) (i7:Int) (z1:zn [CP.d zr]) (lh_0:LF)
 |h15b (s0:TS) (i5:Int) (i6:Int) (i7:Int) (z1:zn [CP.d zr]) (lh_0:LF)
 |h20b (s0:TS) (i5:Int) (z1:zn [CP.d zr]) (lh_0:LF)
abbrev zjY:dY->Nat×St
 |.h3 s0 i5=>(3,⟨tm 131 [(0,str s0),(4,Qb),(5,ai i5)],[]⟩)
 |.h11 s0 i5 i6 i7 z0=>(11,⟨tm 131 [(0,str s0),(4,Qb),(5,ai i5),(6,AV.int IntKind.u8 i6),(7,ai i7),(8,ptr 0 0)],[Qa (bC [] [CP.d zr] z0)]⟩)
 |.h15 s0 i5 i6 i7 z0=>(15,⟨tm 131 [(0,str s0),(4,Qb),(5,ai i5),(6,AV.int IntKind.u8 i6),(7,ai i7),(8,ptr 0 0)],[Qa (bC [] [CP.d zr] z0)]⟩)
 |.h20 s0 i5 z0=>(20,⟨tm 131 [(0,str s0),(4,Qb),(5,ai i5),(8,ptr 0 0)],[Qa (bC [] [CP.d zr] z0)]⟩)
 |.h3b s0 i5 lh_0=>(3,⟨tm 131 [(0,str s0),(4,AV.vec 0),(5,ai i5)],[AO.vec zr lh_0]⟩)
 |.h11b s0 i5 i6 i7 z1 lh_0=>(11,⟨tm 131 [(0,str s0),(4,AV.vec 0),(5,ai i5),(6,AV.int IntKind.u8 i6),(7,ai i7),(8,ptr 1 0)],[AO.vec zr lh_0,Qa (bC [] [CP.d zr] z1)]⟩)
 |.h15b s0 i5 i6 i7 z1 lh_0=>(15,⟨tm 131 [(0,str s0),(4,AV.vec 0),(5,ai i5),(6,AV.int IntKind.u8 i6),(7,ai i7),(8,ptr 1 0)],[AO.vec zr lh_0,Qa (bC [] [CP.d zr] z1)]⟩)
 |.h20b s0 i5 z1 lh_0=>(20,⟨tm 131 [(0,str s0),(4,AV.vec 0),(5,ai i5),(8,ptr 1 0)],[AO.vec zr lh_0,Qa (bC [] [CP.d zr] z1)]⟩)
def zk6(x0:TS):Tr (dY⊕aw):=
 Q9 (dY.h3 x0 0)
def cL:dY->Tr (dY⊕aw)
 | .h3 s0 i5=>
  let a0:=(↑(getD s0 i5.toNat 0).toNat:Int)
  let a1:=IntKind.i64.wrap (i5+1)
  let a2:=Qg (a1.toNat-i5.toNat) (Qh i5.toNat s0)
  let a3:=((4,a2),())
  let a4:=(4,a2)
  let a5:=[a4]
  br (Q0 (i5<(↑(length s0):Int)))
  (Qc (zM i5 (length s0))
   (br (bif a0==32 then Q3 else a0==10) (Q9 (dY.h3 s0 a1)) (Qc (Q0 (0<=i5)&&Q0 (i5<=a1)&&Q0 (a1<=(↑(length s0):Int))) (Qc (j9 a0) (br (my a0) (Q9 (dY.h11 s0 a1 a0 i5 a3)) (Qc (fx a0) (br (gA a0) (Q9 (dY.h15 s0 a1 a0 i5 a3)) (br (a0==39) (Q9 (dY.h20 s0 a1 ((3,[]),()))) (Qc (io a4)
   (br (!lA a4) (re (Qe [Qb,kb Q4]) []) (Qc (Q0 (a5.length<=1073741824)) (Q9 (dY.h3b s0 a1 a5)))))))))))))
  (re (Qe [Qb,AV.bool Q3]) [])
 | .h11 s0 i5 i6 i7 z0=>
  let a0:=Q0 (i5<(↑(length s0):Int))
  let a1:=(↑(getD s0 i5.toNat 0).toNat:Int)
  let a2:=Qg (i5.toNat-i7.toNat) (Qh i7.toNat s0)
  let a3:=(1,a2)
  let a4:=[a3]
  Qc (bif a0 then zM i5 (length s0)&&qw a1 else Q3)
  (br (bif a0 then wn a1 else Q4) (Q9 (dY.h11 s0 (IntKind.i64.wrap (i5+1)) i6 i7 z0))
   (Qc (Q0 (0<=i7)&&Q0 (i7<=i5)&&Q0 (i5<=(↑(length s0):Int))) (Qc (fx i6) (br (gA i6) (Q9 (dY.h15 s0 i5 i6 i7 ((1,a2),()))) (br (i6==39) (Q9 (dY.h20 s0 i5 ((3,[]),()))) (Qc (io a3) (br (!lA a3) (re (Qe [Qb,kb Q4]) []) (Qc (Q0 (a4.length<=1073741824)) (Q9 (dY.h3b s0 i5 a4))))))))))
 | .h15 s0 i5 i6 i7 z0=>
  let a0:=Q0 (i5<(↑(length s0):Int))
  let a1:=(↑(getD s0 i5.toNat 0).toNat:Int)
  let a2:=(2,Qg (i5.toNat-i7.toNat) (Qh i7.toNat s0))
  let a3:=[a2]
  Qc (bif a0 then zM i5 (length s0)&&fx a1 else Q3)
  (br (bif a0 then gA a1 else Q4) (Q9 (dY.h15 s0 (IntKind.i64.wrap (i5+1)) i6 i7 z0))
   (Qc (Q0 (0<=i7)&&Q0 (i7<=i5)&&Q0 (i5<=(↑(length s0):Int))) (br (i6==39) (Q9 (dY.h20 s0 i5 ((3,[]),()))) (Qc (io a2) (br (!lA a2) (re (Qe [Qb,kb Q4]) []) (Qc (Q0 (a3.length<=1073741824)) (Q9 (dY.h3b s0 i5 a3))))))))
 | .h20 s0 i5 z0=>
  let a0:=Q0 (i5<(↑(length s0):Int))
  let a1:=(↑(getD s0 i5.toNat 0).toNat:Int)
  let a2:=a1 !=39
  let a3:=IntKind.i64.wrap (i5+1)
  let a4:=Q0 (a3<(↑(length s0):Int))
  let a5:=Qg (a3.toNat-i5.toNat) (Qh i5.toNat s0)
  let a6:=((z0.1.1,z0.1.2++a5),())
  Qc (bif a0 then zM i5 (length s0)&&bif a2 then Q3 else bif a4 then zM a3 (length s0)else Q3 else Q3)
  (br (bif a0 then bif a2 then Q3 else bif a4 then(↑(getD s0 a3.toNat 0).toNat:Int)==39 else Q4 else Q4)
   (Qc (Q0 (0<=i5)&&Q0 (i5<=a3)&&Q0 (a3<=(↑(length s0):Int))) (Qc (Q0 (length z0.1.2+a5.length<=1099511627776)) (Qc (zM i5 (length s0)) (br (a1==39) (Q9 (dY.h20 s0 (IntKind.i64.wrap (a3+1)) a6)) (Q9 (dY.h20 s0 a3 a6))))))
   (br (Q0 (i5>=(↑(length s0):Int))) (re (Qe [Qb,kb Q4]) []) (Qc (io z0.1) (br (!lA z0.1) (re (Qe [Qb,kb Q4]) []) (Qc (Q0 ([z0.1].length<=1073741824)) (Q9 (dY.h3b s0 a3 [z0.1])))))))
 | .h3b s0 i5 lh_0=>
  let a0:=(↑(getD s0 i5.toNat 0).toNat:Int)
  let a1:=IntKind.i64.wrap (i5+1)
  let a2:=Qg (a1.toNat-i5.toNat) (Qh i5.toNat s0)
  let a3:=((4,a2),())
  let a4:=(4,a2)
  let a5:=[a4]
  br (Q0 (i5<(↑(length s0):Int)))
  (Qc (zM i5 (length s0))
   (br (bif a0==32 then Q3 else a0==10) (Q9 (dY.h3b s0 a1 lh_0)) (Qc (Q0 (0<=i5)&&Q0 (i5<=a1)&&Q0 (a1<=(↑(length s0):Int))) (Qc (j9 a0) (br (my a0) (Q9 (dY.h11b s0 a1 a0 i5 a3 lh_0)) (Qc (fx a0) (br (gA a0) (Q9 (dY.h15b s0 a1 a0 i5 a3 lh_0)) (br (a0==39) (Q9 (dY.h20b s0 a1 ((3,[]),()) lh_0))
   (Qc (io a4) (br (!lA a4) (re (Qe [Qb,kb Q4]) []) (Qc (Q0 (lh_0.length+a5.length<=1073741824)) (Q9 (dY.h3b s0 a1 (lh_0++a5))))))))))))))
  (re (Qe [AV.vec 0,AV.bool (Q0 ((↑lh_0.length:Int)<=400))]) [AO.vec zr lh_0])
 | .h11b s0 i5 i6 i7 z1 lh_0=>
  let a0:=Q0 (i5<(↑(length s0):Int))
  let a1:=(↑(getD s0 i5.toNat 0).toNat:Int)
  let a2:=Qg (i5.toNat-i7.toNat) (Qh i7.toNat s0)
  let a3:=(1,a2)
  let a4:=[a3]
  Qc (bif a0 then zM i5 (length s0)&&qw a1 else Q3)
  (br (bif a0 then wn a1 else Q4) (Q9 (dY.h11b s0 (IntKind.i64.wrap (i5+1)) i6 i7 z1 lh_0))
   (Qc (Q0 (0<=i7)&&Q0 (i7<=i5)&&Q0 (i5<=(↑(length s0):Int))) (Qc (fx i6) (br (gA i6) (Q9 (dY.h15b s0 i5 i6 i7 ((1,a2),()) lh_0)) (br (i6==39) (Q9 (dY.h20b s0 i5 ((3,[]),()) lh_0)) (Qc (io a3) (br (!lA a3) (re (Qe [Qb,kb Q4]) [])
   (Qc (Q0 (lh_0.length+a4.length<=1073741824)) (Q9 (dY.h3b s0 i5 (lh_0++a4)))))))))))
 | .h15b s0 i5 i6 i7 z1 lh_0=>
  let a0:=Q0 (i5<(↑(length s0):Int))
  let a1:=(↑(getD s0 i5.toNat 0).toNat:Int)
  let a2:=(2,Qg (i5.toNat-i7.toNat) (Qh i7.toNat s0))
  let a3:=[a2]
  Qc (bif a0 then zM i5 (length s0)&&fx a1 else Q3)
  (br (bif a0 then gA a1 else Q4) (Q9 (dY.h15b s0 (IntKind.i64.wrap (i5+1)) i6 i7 z1 lh_0))
   (Qc (Q0 (0<=i7)&&Q0 (i7<=i5)&&Q0 (i5<=(↑(length s0):Int))) (br (i6==39) (Q9 (dY.h20b s0 i5 ((3,[]),()) lh_0)) (Qc (io a2) (br (!lA a2) (re (Qe [Qb,kb Q4]) []) (Qc (Q0 (lh_0.length+a3.length<=1073741824)) (Q9 (dY.h3b s0 i5 (lh_0++a3)))))))))
 | .h20b s0 i5 z1 lh_0=>
  let a0:=Q0 (i5<(↑(length s0):Int))
  let a1:=(↑(getD s0 i5.toNat 0).toNat:Int)
  let a2:=a1 !=39
  let a3:=IntKind.i64.wrap (i5+1)
  let a4:=Q0 (a3<(↑(length s0):Int))
  let a5:=Qg (a3.toNat-i5.toNat) (Qh i5.toNat s0)
  let a6:=((z1.1.1,z1.1.2++a5),())
  Qc (bif a0 then zM i5 (length s0)&&bif a2 then Q3 else bif a4 then zM a3 (length s0)else Q3 else Q3)
  (br (bif a0 then bif a2 then Q3 else bif a4 then(↑(getD s0 a3.toNat 0).toNat:Int)==39 else Q4 else Q4)
   (Qc (Q0 (0<=i5)&&Q0 (i5<=a3)&&Q0 (a3<=(↑(length s0):Int))) (Qc (Q0 (length z1.1.2+a5.length<=1099511627776)) (Qc (zM i5 (length s0)) (br (a1==39) (Q9 (dY.h20b s0 (IntKind.i64.wrap (a3+1)) a6 lh_0)) (Q9 (dY.h20b s0 a3 a6 lh_0))))))
   (br (Q0 (i5>=(↑(length s0):Int))) (re (Qe [Qb,kb Q4]) []) (Qc (io z1.1) (br (!lA z1.1) (re (Qe [Qb,kb Q4]) []) (Qc (Q0 (lh_0.length+[z1.1].length<=1073741824)) (Q9 (dY.h3b s0 a3 (lh_0++[z1.1]))))))))
def GB(x0:TS):=al [zr.sl,Q7] cL 100000000 (zk6 x0)
def GA(x0:TS):=(GB x0).isSome
def xq(x0:TS):=o2 (GB x0)
def zei:=FT [Q6] [zr.sl,Q7] λx=>GB x.1
theorem zaB:FK 75 zei:=pK.T1 (f:=Tryz.f75) (keep:=zhs) (e:=zjY)
def Iu(x0:Sem Q5)(x1:TS):Tr (Empty⊕aw):=
 let a0:=x1++[32,67,72,69,67,75,32,40,32]
 let a1:=a0++pg (zm x0)
 br (ze.op x0==[])
 (Qc (gy (zm x0) (ze.mk [] (0,0,[]) [] [])) (re (Qe [str [],AV.bool (eT (zm x0) (ze.mk [] (0,0,[]) [] []))]) []))
 (Qc (wj (zm x0))
  (br (!EP (zm x0)) (re (Qe [str [],kb Q4]) []) (br (x1==[87,72,69,82,69]) (Qc (qn (zm x0)) (Qc (Q0 ([32,87,72,69,82,69,32].length+length (pg (zm x0))<=1099511627776)) (re (Qe [str ([32,87,72,69,82,69,32]++pg (zm x0)),kb Q3]) [])))
  (Qc (Q0 (length x1+[32,67,72,69,67,75,32,40,32].length<=1099511627776)) (Qc (qn (zm x0)) (Qc (Q0 (length a0+length (pg (zm x0))<=1099511627776)) (Qc (Q0 (length a1+[32,41].length<=1099511627776)) (re (Qe [str (a1++[32,41]),kb Q3]) []))))))))
def yC(x0:Sem Q5)(x1:TS):=al [Q6,Q7] t0 100000000 (Iu x0 x1)
def uk(x0:Sem Q5)(x1:TS):=(yC x0 x1).isSome
def B2(x0:Sem Q5)(x1:TS):=o2 (yC x0 x1)
def Xf:=FT [Q5,Q6] [Q6,Q7] λx=>yC x.1 x.2.1
theorem Uq:FK 115 Xf:=pK.T1 (f:=Tryz.f115) (keep:=k0) (e:=e0)
abbrev zbY:=mM [(3,[0,4,5])]
inductive yW where
 |h3 (l0:LS) (s4:List UInt8) (i5:Int)
abbrev zfU:yW->Nat×St
 |.h3 l0 s4 i5=>(3,⟨tm 37 [(0,sl Q6 l0),(4,str s4),(5,ai i5)],[]⟩)
def zgw(x0:Sem Sh.str.sl):Tr (yW⊕aw):=
 Q9 (yW.h3 x0 [] 0)
def Cu:yW->Tr (yW⊕aw)
 | .h3 l0 s4 i5=>
  let a0:=l0.getD i5.toNat (zi Q6)
  let a1:=s4++[32,44,32]
  let a2:=IntKind.i64.wrap (i5+1)
  let a3:=Q0 (1<=(↑l0.length:Int))
  br (Q0 (i5<(↑l0.length:Int)))
  (Qc (zM i5 l0.length)
   (Qc (dB a0) (br (!bp a0) (re (Qe [str [],kb Q4]) []) (br (Q0 (i5>0)) (Qc (Q0 (s4.length+[32,44,32].length<=1099511627776)) (Qc (zM i5 l0.length) (Qc (Q0 (length a1+length a0<=1099511627776)) (Q9 (yW.h3 l0 (a1++a0) a2)))))
   (Qc (zM i5 l0.length) (Qc (Q0 (s4.length+length a0<=1099511627776)) (Q9 (yW.h3 l0 (s4++a0) a2))))))))
  (re (Qe [str (bif a3 then s4 else s4),AV.bool (bif a3 then Q0 ((↑l0.length:Int)<=8)else Q4)]) [])
def ul(x0:Sem Sh.str.sl):=al [Q6,Q7] Cu 100000000 (zgw x0)
def B3(x0:Sem Sh.str.sl):=(ul x0).isSome
def GG(x0:Sem Sh.str.sl):=o2 (ul x0)
def Xj:=FT [Sh.str.sl] [Q6,Q7] λx=>ul x.1
theorem Uu:FK 119 Xj:=pK.T1 (f:=Tryz.f119) (keep:=zbY) (e:=zfU)
def Ya:=X9.addL [(75,zei),(115,Xf),(119,Xj)]
theorem md:zw Ya:=pK.addL<|fc zaB<|fc Uq<|fc Uu jm
abbrev zbW:=mM [(4,[1,4,5,6]),(15,[1,4,5,8]),(20,[1,4,5,9])]
inductive oo where
 |h4 (b4:Bool) (s5:zB) (i6:Int) (z0:zn [CP.d zk])
 |h15 (b4:Bool) (s5:zB) (i8:Int) (z0:zn [CP.d zk])
 |h20 (b4:Bool) (s5:zB) (i9:Int) (z0:zn [CP.d zk])
abbrev zfS:oo->Nat×St
 |.h4 b4 s5 i6 z0=>(4,⟨tm 174 [(1,ptr 0 0),(4,AV.bool b4),(5,str s5),(6,ai i6)],[Qa (bC [] [CP.d zk] z0)]⟩)
 |.h15 b4 s5 i8 z0=>(15,⟨tm 174 [(1,ptr 0 0),(4,AV.bool b4),(5,str s5),(8,ai i8)],[Qa (bC [] [CP.d zk] z0)]⟩)
 |.h20 b4 s5 i9 z0=>(20,⟨tm 174 [(1,ptr 0 0),(4,AV.bool b4),(5,str s5),(9,ai i9)],[Qa (bC [] [CP.d zk] z0)]⟩)
def Ro(x0:Sem zk):Tr (oo⊕aw):=
 let a0:=[67,82,69,65,84,69,32,84,65,66,76,69,32]++x0.2.1
 let a1:=(↑(length x0.t.1):Int)
 let a2:=(↑(length x0.t.q.1):Int)
 let a3:=(↑(length x0.t.q.2.1):Int)
 Qc (dB x0.t.2.1)
 (Qc (Q0 ([67,82,69,65,84,69,32,84,65,66,76,69,32].length+length x0.2.1<=1099511627776))
  (Qc (Q0 (length a0+[32,40,32].length<=1099511627776)) (Q9 (oo.h4 (bif bp x0.t.2.1 then bif Q0 (1<=a1)then bif Q0 (a1<=8)then bif Q0 (a2<=8)then Q0 (a3<=8)else Q4 else Q4 else Q4 else Q4) (a0++[32,40,32]) 0 (x0,())))))
def fi:oo->Tr (oo⊕aw)
 | .h4 b4 s5 i6 z0=>
  let a0:=(↑(length z0.1.t.1):Int)
  let a1:=getD z0.1.t.1 i6.toNat (zi zj)
  let a2:=a1.1++[32]
  let a3:=[[],[73,78,84],[84,69,88,84],[66,79,79,76]].getD (Int.toNat a1.2.1) (zi Q6)
  let a4:=a2++a3
  let a5:=s5++a4
  let a6:=a5++[32,78,79,84,32,78,85,76,76]
  let a7:=IntKind.i64.wrap (i6+1)
  let a8:=[75,69,89,32,40,32]++z0.1.t.2.1
  let a9:=a8++[32,41]
  br (Q0 (i6<a0))
  (Qc (zM i6 (length z0.1.t.1))
   (Qc (dB a1.1) (br (bif !bp a1.1 then Q3 else bif Q0 (a1.2.1<1)then Q3 else Q0 (a1.2.1>3)) (re (Qe [str [],kb Q4]) []) (Qc (Q0 (length a1.1+[32].length<=1099511627776)) (Qc (zM a1.2.1 [[],[73,78,84],[84,69,88,84],[66,79,79,76]].length) (Qc (Q0 (length a2+length a3<=1099511627776))
   (Qc (Q0 (length s5+length a4<=1099511627776)) (br a1.2.2 (Qc (Q0 (length a5+[32,78,79,84,32,78,85,76,76].length<=1099511627776)) (Qc (Q0 (length a6+[32,44,32].length<=1099511627776)) (Q9 (oo.h4 b4 (a6++[32,44,32]) a7 z0))))
   (Qc (Q0 (length a5+[32,44,32].length<=1099511627776)) (Q9 (oo.h4 b4 (a5++[32,44,32]) a7 z0)))))))))))
  (Qc (Q0 ([75,69,89,32,40,32].length+length z0.1.t.2.1<=1099511627776))
   (Qc (Q0 (length a8+[32,41].length<=1099511627776)) (Qc (Q0 (length s5+length a9<=1099511627776)) (Q9 (oo.h15 b4 (s5++a9) 0 z0)))))
 | .h15 b4 s5 i8 z0=>
  let a0:=(↑(length z0.1.t.q.1):Int)
  let a1:=zM i8 (length z0.1.t.q.1)
  let a2:=getD z0.1.t.q.1 i8.toNat (zi Q6)
  let a3:=[32,44,32,85,78,73,81,85,69,32,40,32]++a2
  let a4:=a3++[32,41]
  br (Q0 (i8<a0))
  (Qc (bif b4 then a1&&dB a2 else Q3)
   (Qc a1 (Qc (Q0 ([32,44,32,85,78,73,81,85,69,32,40,32].length+length a2<=1099511627776)) (Qc (Q0 (length a3+[32,41].length<=1099511627776)) (Qc (Q0 (length s5+length a4<=1099511627776)) (Q9 (oo.h15 (bif b4 then bp a2 else Q4) (s5++a4) (IntKind.i64.wrap (i8+1)) z0)))))))
  (Q9 (oo.h20 b4 s5 0 z0))
 | .h20 b4 s5 i9 z0=>
  let a0:=(↑(length z0.1.t.q.2.1):Int)
  let a1:=zM i9 (length z0.1.t.q.2.1)
  let a2:=getD z0.1.t.q.2.1 i9.toNat (zi iD)
  let a3:=bp a2.1
  let a4:=[32,44,32,82,69,70,69,82,69,78,67,69,83,32,40,32]++a2.1
  let a5:=a4++[32,41,32]
  let a6:=a5++a2.2
  let a7:=zm z0.1.t.t.1
  let a8:=B2 a7 [32,44]
  let a9:=s5++a8.1
  let a10:=a9++[32,41]
  br (Q0 (i9<a0))
  (Qc (bif b4 then a1&&(dB a2.1&&bif a3 then a1&&dB a2.2 else Q3)else Q3)
   (Qc a1 (Qc (Q0 ([32,44,32,82,69,70,69,82,69,78,67,69,83,32,40,32].length+length a2.1<=1099511627776)) (Qc (Q0 (length a4+[32,41,32].length<=1099511627776)) (Qc a1 (Qc (Q0 (length a5+length a2.2<=1099511627776)) (Qc (Q0 (length s5+length a6<=1099511627776))
   (Q9 (oo.h20 (bif b4 then bif a3 then bp a2.2 else Q4 else Q4) (s5++a6) (IntKind.i64.wrap (i9+1)) z0)))))))))
  (Qc (uk a7 [32,44])
   (Qc (Q0 (length s5+length a8.1<=1099511627776)&&Q0 (length a9+[32,41].length<=1099511627776)) (re (Qe [str (bif b4 then a10 else a10),AV.bool (bif b4 then a8.2 else Q4)]) [])))
def ms(x0:Sem zk):=al [Q6,Q7] fi 100000000 (Ro x0)
def qr(x0:Sem zk):=(ms x0).isSome
def ph(x0:Sem zk):=o2 (ms x0)
def Xg:=FT [zk] [Q6,Q7] λx=>ms x.1
theorem Ur:FK 116 Xg:=md.T1 (f:=Tryz.f116) (keep:=zbW) (e:=zfS)
abbrev zg5:=mM [(2,[0,1,5]),(5,[0,1,5,6])]
inductive Hu where
 |h2 (l0:List (Sem zh)) (l1:List (Sem Q6)) (i5:Int)
 |h5 (l0:List (Sem zh)) (l1:List (Sem Q6)) (i5:Int) (i6:Int)
abbrev zjI:Hu->Nat×St
 |.h2 l0 l1 i5=>(2,⟨tm 47 [(0,sl zh l0),(1,sl Q6 l1),(5,ai i5)],[]⟩)
 |.h5 l0 l1 i5 i6=>(5,⟨tm 47 [(0,sl zh l0),(1,sl Q6 l1),(5,ai i5),(6,ai i6)],[]⟩)
def zk2(x0:Sem zh.sl)(x1:Sem Sh.str.sl):Tr (Hu⊕aw):=
 Q9 (Hu.h2 x0 x1 0)
def pp:Hu->Tr (Hu⊕aw)
 | .h2 l0 l1 i5=>
  br (Q0 (i5<(↑l0.length:Int))) (Q9 (Hu.h5 l0 l1 i5 0)) (re (kb Q4) [])
 | .h5 l0 l1 i5 i6=>
  let a0:=l0.getD i5.toNat (zi zh)
  let a1:=(↑(length a0.1.t.1):Int)
  let a2:=!Jr l1 a0.1.1
  let a3:=getD a0.1.t.1 i6.toNat (zi zr)
  Qc (zM i5 l0.length)
  (br (Q0 (i6<a1))
   (Qc (zM i5 l0.length&&(xt l1 a0.1.1&&bif a2 then zM i5 l0.length&&(zM i6 (length a0.1.t.1)&&xt l1 a3.2)else Q3)) (br (bif a2 then Jr l1 a3.2 else Q4) (re (kb Q3) []) (Q9 (Hu.h5 l0 l1 i5 (IntKind.i64.wrap (i6+1))))))
   (Q9 (Hu.h2 l0 l1 (IntKind.i64.wrap (i5+1)))))
def ni(x0:Sem zh.sl)(x1:Sem Sh.str.sl):=al [Q7] pp 100000000 (zk2 x0 x1)
def sA(x0:Sem zh.sl)(x1:Sem Sh.str.sl):=(ni x0 x1).isSome
def wg(x0:Sem zh.sl)(x1:Sem Sh.str.sl):=o1 (ni x0 x1)
def zdM:=FT [zh.sl,Sh.str.sl] [Q7] λx=>ni x.1 x.2.1
theorem Z3:FK 46 zdM:=md.T1 (f:=Tryz.f46) (keep:=zg5) (e:=zjI)
abbrev zg7:=mM [(3,[0,1,6,7]),(10,[6,9]),(13,[6,9,10])]
inductive oq where
 |h3 (l0:List (Sem zj)) (l1:List (Sem Q6)) (i7:Int)
 |h3b (l0:List (Sem zj)) (l1:List (Sem Q6)) (i7:Int) (lh_0:List (Sem zg))
 |h10 (i9:Int)
 |h10b (i9:Int) (lh_0:List (Sem zg))
 |h13 (i9:Int) (i10:Int)
 |h13b (i9:Int) (i10:Int) (lh_0:List (Sem zg))
abbrev zjK:oq->Nat×St
 |.h3 l0 l1 i7=>(3,⟨tm 50 [(0,sl zj l0),(1,sl Q6 l1),(6,Qb),(7,ai i7)],[]⟩)
 |.h3b l0 l1 i7 lh_0=>(3,⟨tm 50 [(0,sl zj l0),(1,sl Q6 l1),(6,AV.vec 0),(7,ai i7)],[AO.vec zg lh_0]⟩)
 |.h10 i9=>(10,⟨tm 50 [(6,Qb),(9,ai i9)],[]⟩)
 |.h10b i9 lh_0=>(10,⟨tm 50 [(6,AV.vec 0),(9,ai i9)],[AO.vec zg lh_0]⟩)
 |.h13 i9 i10=>(13,⟨tm 50 [(6,Qb),(9,ai i9),(10,ai i10)],[]⟩)
 |.h13b i9 i10 lh_0=>(13,⟨tm 50 [(6,AV.vec 0),(9,ai i9),(10,ai i10)],[AO.vec zg lh_0]⟩)
def zgD(x0:Sem zj.sl)(x1:Sem Sh.str.sl):Tr (oq⊕aw):=
 Q9 (oq.h3 x0 x1 0)
def ju:oq->Tr (oq⊕aw)
 | .h3 l0 l1 i7=>
  let a0:=l1.getD i7.toNat (zi Q6)
  let a1:=eB l0 a0
  let a2:=[a1]
  br (Q0 (i7<(↑l1.length:Int)))
  (Qc (zM i7 l1.length)
   (Qc (du l0 a0) (br (Q0 (a1<0)) (re (Qe [Qb,ai 4]) []) (Qc (Q0 (a2.length<=1073741824)) (Q9 (oq.h3b l0 l1 (IntKind.i64.wrap (i7+1)) a2))))))
  (Q9 (oq.h10 0))
 | .h3b l0 l1 i7 lh_0=>
  let a0:=l1.getD i7.toNat (zi Q6)
  let a1:=eB l0 a0
  let a2:=[a1]
  br (Q0 (i7<(↑l1.length:Int)))
  (Qc (zM i7 l1.length)
   (Qc (du l0 a0) (br (Q0 (a1<0)) (re (Qe [Qb,ai 4]) []) (Qc (Q0 (lh_0.length+a2.length<=1073741824)) (Q9 (oq.h3b l0 l1 (IntKind.i64.wrap (i7+1)) (lh_0++a2)))))))
  (Q9 (oq.h10b 0 lh_0))
 | .h10 i9=>
  br (Q0 (i9<0)) (Q9 (oq.h13 i9 0)) (re (Qe [Qb,ai 0]) [])
 | .h10b i9 lh_0=>
  br (Q0 (i9<(↑lh_0.length:Int))) (Q9 (oq.h13b i9 0 lh_0)) (re (Qe [AV.vec 0,ai 0]) [AO.vec zg lh_0])
 | .h13 i9 i10=>
  br (Q0 (i10<i9)) Tr.err (Q9 (oq.h10 (IntKind.i64.wrap (i9+1))))
 | .h13b i9 i10 lh_0=>
  br (Q0 (i10<i9))
  (Qc (zM i9 lh_0.length)
   (Qc (Q0 (i9.toNat<lh_0.length)) (Qc (zM i10 lh_0.length) (Qc (Q0 (i10.toNat<lh_0.length)) (br (lh_0.getD i9.toNat (zi zg)==lh_0.getD i10.toNat (zi zg)) (re (Qe [Qb,ai 7]) []) (Q9 (oq.h13b i9 (IntKind.i64.wrap (i10+1)) lh_0)))))))
  (Q9 (oq.h10b (IntKind.i64.wrap (i9+1)) lh_0))
def nh(x0:Sem zj.sl)(x1:Sem Sh.str.sl):=al [zg.sl,zg] ju 100000000 (zgD x0 x1)
def ng(x0:Sem zj.sl)(x1:Sem Sh.str.sl):=(nh x0 x1).isSome
def qb(x0:Sem zj.sl)(x1:Sem Sh.str.sl):=o2 (nh x0 x1)
def zdO:=FT [zj.sl,Sh.str.sl] [zg.sl,zg] λx=>nh x.1 x.2.1
theorem Z4:FK 47 zdO:=md.T1 (f:=Tryz.f47) (keep:=zg7) (e:=zjK)
def VL(x0:Sem Q5)(x1:Sem zj.sl):Tr (Empty⊕aw):=
 br (ze.op x0==[]) (re (ai 0) [])
 (Qc (wj (zm x0))
  (br (!EP (zm x0)) (re (ai 1) []) (Qc (nr (zm x0) x1) (br (bif (il (zm x0) x1).2==0 then bif (il (zm x0) x1).1!=0 then(il (zm x0) x1).1!=3 else Q4 else Q4) (re (ai 5) []) (re (ai (il (zm x0) x1).2) [])))))
def yw(x0:Sem Q5)(x1:Sem zj.sl):=al [zg] t0 100000000 (VL x0 x1)
def qu(x0:Sem Q5)(x1:Sem zj.sl):=(yw x0 x1).isSome
def wl(x0:Sem Q5)(x1:Sem zj.sl):=o1 (yw x0 x1)
def zdQ:=FT [Q5,zj.sl] [zg] λx=>yw x.1 x.2.1
theorem Z6:FK 49 zdQ:=md.T1 (f:=Tryz.f49) (keep:=k0) (e:=e0)
def QB:=Ya.addL [(116,Xg),(46,zdM),(47,zdO),(49,zdQ)]
theorem AI:zw QB:=md.addL<|fc Ur<|fc Z3<|fc Z4<|fc Z6 jm
abbrev zfM:List CP:=[.d .str,.d .str,.d .str,.nil,.nil,.d .str,.nil,.nil,.d .str,.d zg,.d zg,.d .str,.d .str,.nil,.d (.sl zf),.nil,.d .str,.d zg,.d zg,.d .str,.d .str,.nil,.d .str]
abbrev za8:List CP:=[.d .str,.d .str,.d .str,.nil,.nil,.d .str,.nil,.nil,.d .str,.d zg,.d zg,.d .str,.d .str,.nil,.nil,.d (.sl gU),.d .expr,.d .str]
abbrev zhq:=mM [(15,[1,3,5,12,13]),(27,[1,3,5,8,9,14,15])]
inductive yX where
 |h15 (s12:List UInt8) (i13:Int) (z0:zn om) (z1:zn iH) (z2:zn zfM)
 |h27 (s8:TS) (b9:Sem Q7) (s14:List UInt8) (i15:Int) (z0:zn om) (z1:zn iH) (z2:zn za8)
abbrev zjW:yX->Nat×St
 |.h15 s12 i13 z0 z1 z2=>(15,⟨tm 430 [(1,ptr 0 0),(3,ptr 1 0),(5,ptr 2 0),(12,str s12),(13,ai i13)],[Qa (bC [] om z0),Qa (bC [] iH z1),Qa (bC [] zfM z2)]⟩)
 |.h27 s8 b9 s14 i15 z0 z1 z2=>(27,⟨tm 430 [(1,ptr 0 0),(3,ptr 1 0),(5,ptr 2 0),(8,str s8),(9,AV.bool b9),(14,str s14),(15,ai i15)],[Qa (bC [] om z0),Qa (bC [] iH z1),Qa (bC [] za8 z2)]⟩)
def gG(x0:Sem zk):Tr (yX⊕aw):=
 let a0:=zm x0.t.t.1
 let a1:=zm x0.t.t.q.2.1
 let a2:=(x0.1,x0.2.1,x0.2.2.1,x0.2.2.2.1,x0.t.1,x0.t.2.1,x0.t.q.1,x0.t.q.2.1,a0,x0.t.t.2.1,x0.t.t.q.1,a1,x0.t.t.t)
 let a3:=ph a2
 let a4:=B2 a1 [87,72,69,82,69]
 let a5:=[68,69,76,69,84,69,32,70,82,79,77,32]++x0.2.1
 let a6:=[83,69,76,69,67,84,32,42,32,70,82,79,77,32]++x0.2.1
 let a7:=[77,73,71,82,65,84,69,32,67,79,80,89,32]++x0.2.1
 let a8:=a7++[32,70,82,79,77,32]
 let a9:=a8++x0.2.2.1
 let a10:=a9++[32,40,32]
 let a11:=GG x0.2.2.2.1
 let a12:=a10++a11.1
 let a13:=a12++[32,41]
 let a14:=B2 a0 []
 let a15:=dB x0.2.2.1
 let a16:=bp x0.2.2.1
 let a17:=[77,73,71,82,65,84,69,32,74,79,73,78,32]++x0.2.1
 let a18:=a17++[32,70,82,79,77,32]
 let a19:=a18++x0.2.2.1
 let a20:=a19++[32,44,32]
 let a21:=a20++x0.t.t.t
 let a22:=a21++[32,79,78,32]
 let a23:=a22++x0.t.2.1
 let a24:=dB x0.t.t.t
 let a25:=bp x0.t.t.t
 let a26:=[77,73,71,82,65,84,69,32,71,82,79,85,80,32]++x0.2.1
 let a27:=a26++[32,70,82,79,77,32]
 let a28:=a27++x0.2.2.1
 let a29:=zM 0 (length x0.2.2.2.1)
 let a30:=a28++[32,66,89,32]
 let a31:=getD x0.2.2.2.1 (Int.toNat 0) (zi Q6)
 let a32:=a30++a31
 let a33:=zM 1 (length x0.2.2.2.1)
 let a34:=a32++[32,83,85,77,32]
 let a35:=getD x0.2.2.2.1 (Int.toNat 1) (zi Q6)
 let a36:=a34++a35
 let a37:=[71,82,65,78,84,32,82,69,65,68,32,79,78,32]++x0.2.1
 let a38:=a37++[32,84,79,32]
 let a39:=[71,82,65,78,84,32,87,82,73,84,69,32,79,78,32]++x0.2.1
 let a40:=a39++[32,84,79,32]
 let a41:=[82,69,86,79,75,69,32,82,69,65,68,32,79,78,32]++x0.2.1
 let a42:=a41++[32,70,82,79,77,32]
 let a43:=[82,69,86,79,75,69,32,87,82,73,84,69,32,79,78,32]++x0.2.1
 let a44:=a43++[32,70,82,79,77,32]
 Qc (uk a0 [])
 (Qc (uk a1 [87,72,69,82,69])
  (br (x0.1==[99,114,101,97,116,101]) (Qc (qr a2) (re (Qe [str a3.1,Qd [str x0.1,str x0.2.1,str [],Qb,sl zj x0.t.1,str x0.t.2.1,sl Q6 x0.t.q.1,sl (Sh.str.pr Q6) x0.t.q.2.1,str (ze.op x0.t.t.1),ai (ze.v x0.t.t.1).1,
  ai (ze.v x0.t.t.1).2.1,str (ze.v x0.t.t.1).2.2,str (ze.s x0.t.t.1),sl Q5 (ze.l x0.t.t.1),Qb,Qb,str [],ai 0,ai 0,str [],str [],Qb,str []],AV.bool a3.2]) [])) (br (x0.1==[100,114,111,112])
  (Qc (Q0 ([68,82,79,80,32,84,65,66,76,69,32].length+length x0.2.1<=1099511627776)) (re (Qe [str ([68,82,79,80,32,84,65,66,76,69,32]++x0.2.1),Qd [str x0.1,str x0.2.1,str [],Qb,Qb,str [],Qb,Qb,str [],ai 0,
  ai 0,str [],str [],Qb,Qb,Qb,str [],ai 0,ai 0,str [],str [],Qb,str []],kb Q3]) [])) (br (x0.1==[105,110,115,101,114,116]) (Q9 (yX.h15 [] 0 (x0,()) ([],[],[],[],[],0,0,[],[],[],0,0,[],[],[],())
  (x0.1,x0.2.1,[],[],[],0,0,[],[],x0.t.t.2.1,[],0,0,[],[],[],()))) (br (x0.1==[117,112,100,97,116,101]) (Q9 (yX.h27 a4.1 a4.2 [] 0 (x0,()) ([],[],[],[],[],0,0,[],[],[],0,0,[],[],[],()) (x0.1,x0.2.1,[],[],[],0,0,[],[],x0.t.t.q.1,x0.t.t.q.2.1,[],()))) (br (x0.1==[100,101,108,101,116,101])
  (Qc (Q0 ([68,69,76,69,84,69,32,70,82,79,77,32].length+length x0.2.1<=1099511627776)) (Qc (Q0 (length a5+length a4.1<=1099511627776)) (re (Qe [str (a5++a4.1),Qd [str x0.1,str x0.2.1,str [],Qb,Qb,str [],Qb,Qb,str [],ai 0,
  ai 0,str [],str [],Qb,Qb,Qb,str (ze.op x0.t.t.q.2.1),ai (ze.v x0.t.t.q.2.1).1,ai (ze.v x0.t.t.q.2.1).2.1,str (ze.v x0.t.t.q.2.1).2.2,str (ze.s x0.t.t.q.2.1),sl Q5 (ze.l x0.t.t.q.2.1),str []],AV.bool a4.2]) [])))
  (br (x0.1==[115,101,108,101,99,116]) (Qc (Q0 ([83,69,76,69,67,84,32,42,32,70,82,79,77,32].length+length x0.2.1<=1099511627776)) (Qc (Q0 (length a6+length a4.1<=1099511627776)) (re (Qe [str (a6++a4.1),Qd [str x0.1,str x0.2.1,str [],Qb,Qb,str [],Qb,Qb,str [],ai 0,
  ai 0,str [],str [],Qb,Qb,Qb,str (ze.op x0.t.t.q.2.1),ai (ze.v x0.t.t.q.2.1).1,ai (ze.v x0.t.t.q.2.1).2.1,str (ze.v x0.t.t.q.2.1).2.2,str (ze.s x0.t.t.q.2.1),sl Q5 (ze.l x0.t.t.q.2.1),str []],AV.bool a4.2]) [])))
  (br (x0.1==[99,111,112,121]) (Qc (B3 x0.2.2.2.1) (Qc (Q0 ([77,73,71,82,65,84,69,32,67,79,80,89,32].length+length x0.2.1<=1099511627776)) (Qc (Q0 (length a7+[32,70,82,79,77,32].length<=1099511627776)) (Qc (Q0 (length a8+length x0.2.2.1<=1099511627776))
  (Qc (Q0 (length a9+[32,40,32].length<=1099511627776)) (Qc (Q0 (length a10+length a11.1<=1099511627776)) (Qc (Q0 (length a12+[32,41].length<=1099511627776)) (Qc (Q0 (length a13+length a14.1<=1099511627776)) (br a11.2 (br a14.2 (Qc a15 (re (Qe [str (a13++a14.1),Qd
  [str x0.1,str x0.2.1,str x0.2.2.1,sl Q6 x0.2.2.2.1,Qb,str [],Qb,Qb,str (ze.op x0.t.t.1),ai (ze.v x0.t.t.1).1,ai (ze.v x0.t.t.1).2.1,str (ze.v x0.t.t.1).2.2,str (ze.s x0.t.t.1),
  sl Q5 (ze.l x0.t.t.1),Qb,Qb,str [],ai 0,ai 0,str [],str [],Qb,str []],AV.bool a16]) [])) (re (Qe [str (a13++a14.1),Qd [str x0.1,str x0.2.1,str x0.2.2.1,sl Q6 x0.2.2.2.1,Qb,str [],Qb,Qb,str (ze.op x0.t.t.1),
  ai (ze.v x0.t.t.1).1,ai (ze.v x0.t.t.1).2.1,str (ze.v x0.t.t.1).2.2,str (ze.s x0.t.t.1),sl Q5 (ze.l x0.t.t.1),Qb,Qb,str [],ai 0,ai 0,str [],str [],Qb,str []],kb Q4]) [])) (re (Qe [str (a13++a14.1),Qd
  [str x0.1,str x0.2.1,str x0.2.2.1,sl Q6 x0.2.2.2.1,Qb,str [],Qb,Qb,str (ze.op x0.t.t.1),ai (ze.v x0.t.t.1).1,ai (ze.v x0.t.t.1).2.1,str (ze.v x0.t.t.1).2.2,str (ze.s x0.t.t.1),
  sl Q5 (ze.l x0.t.t.1),Qb,Qb,str [],ai 0,ai 0,str [],str [],Qb,str []],kb Q4]) [])))))))))) (br (x0.1==[106,111,105,110]) (Qc (Q0 ([77,73,71,82,65,84,69,32,74,79,73,78,32].length+length x0.2.1<=1099511627776))
  (Qc (Q0 (length a17+[32,70,82,79,77,32].length<=1099511627776)) (Qc (Q0 (length a18+length x0.2.2.1<=1099511627776)) (Qc (Q0 (length a19+[32,44,32].length<=1099511627776)) (Qc (Q0 (length a20+length x0.t.t.t<=1099511627776))
  (Qc (Q0 (length a21+[32,79,78,32].length<=1099511627776)) (Qc (Q0 (length a22+length x0.t.2.1<=1099511627776)) (Qc (Q0 (length a23+length a14.1<=1099511627776)) (br a14.2 (Qc a15 (br a16 (Qc a24 (br a25 (Qc (dB x0.t.2.1) (re (Qe [str (a23++a14.1),Qd
  [str x0.1,str x0.2.1,str x0.2.2.1,Qb,Qb,str x0.t.2.1,Qb,Qb,str (ze.op x0.t.t.1),ai (ze.v x0.t.t.1).1,ai (ze.v x0.t.t.1).2.1,str (ze.v x0.t.t.1).2.2,str (ze.s x0.t.t.1),sl Q5 (ze.l x0.t.t.1),Qb,Qb,str [],
  ai 0,ai 0,str [],str [],Qb,str x0.t.t.t],AV.bool (bp x0.t.2.1)]) [])) (re (Qe [str (a23++a14.1),Qd [str x0.1,str x0.2.1,str x0.2.2.1,Qb,Qb,str x0.t.2.1,Qb,Qb,str (ze.op x0.t.t.1),ai (ze.v x0.t.t.1).1,
  ai (ze.v x0.t.t.1).2.1,str (ze.v x0.t.t.1).2.2,str (ze.s x0.t.t.1),sl Q5 (ze.l x0.t.t.1),Qb,Qb,str [],ai 0,ai 0,str [],str [],Qb,str x0.t.t.t],kb Q4]) []))) (re (Qe [str (a23++a14.1),Qd
  [str x0.1,str x0.2.1,str x0.2.2.1,Qb,Qb,str x0.t.2.1,Qb,Qb,str (ze.op x0.t.t.1),ai (ze.v x0.t.t.1).1,ai (ze.v x0.t.t.1).2.1,str (ze.v x0.t.t.1).2.2,str (ze.s x0.t.t.1),sl Q5 (ze.l x0.t.t.1),Qb,Qb,str [],
  ai 0,ai 0,str [],str [],Qb,str x0.t.t.t],kb Q4]) []))) (re (Qe [str (a23++a14.1),Qd [str x0.1,str x0.2.1,str x0.2.2.1,Qb,Qb,str x0.t.2.1,Qb,Qb,str (ze.op x0.t.t.1),ai (ze.v x0.t.t.1).1,
  ai (ze.v x0.t.t.1).2.1,str (ze.v x0.t.t.1).2.2,str (ze.s x0.t.t.1),sl Q5 (ze.l x0.t.t.1),Qb,Qb,str [],ai 0,ai 0,str [],str [],Qb,str x0.t.t.t],kb Q4]) [])))))))))) (br (x0.1==[103,114,111,117,112])
  (br ((↑(length x0.2.2.2.1):Int)!=2) (re (Qe [str [],Qd [str x0.1,str x0.2.1,str x0.2.2.1,sl Q6 x0.2.2.2.1,Qb,str [],Qb,Qb,str (ze.op x0.t.t.1),ai (ze.v x0.t.t.1).1,ai (ze.v x0.t.t.1).2.1,
  str (ze.v x0.t.t.1).2.2,str (ze.s x0.t.t.1),sl Q5 (ze.l x0.t.t.1),Qb,Qb,str [],ai 0,ai 0,str [],str [],Qb,str []],kb Q4]) []) (Qc (Q0 ([77,73,71,82,65,84,69,32,71,82,79,85,80,32].length+length x0.2.1<=1099511627776))
  (Qc (Q0 (length a26+[32,70,82,79,77,32].length<=1099511627776)) (Qc (Q0 (length a27+length x0.2.2.1<=1099511627776)) (Qc (Q0 (length a28+[32,66,89,32].length<=1099511627776)) (Qc a29 (Qc (Q0 (length a30+length a31<=1099511627776))
  (Qc (Q0 (length a32+[32,83,85,77,32].length<=1099511627776)) (Qc a33 (Qc (Q0 (length a34+length a35<=1099511627776)) (Qc (Q0 (length a36+length a14.1<=1099511627776)) (br a14.2 (Qc a15 (br a16 (Qc a29 (Qc (dB a31) (br (bp a31) (Qc a33 (Qc (dB a35) (re (Qe [str (a36++a14.1),
  Qd [str x0.1,str x0.2.1,str x0.2.2.1,sl Q6 x0.2.2.2.1,Qb,str [],Qb,Qb,str (ze.op x0.t.t.1),ai (ze.v x0.t.t.1).1,ai (ze.v x0.t.t.1).2.1,str (ze.v x0.t.t.1).2.2,str (ze.s x0.t.t.1),sl Q5 (ze.l x0.t.t.1),Qb,Qb,
  str [],ai 0,ai 0,str [],str [],Qb,str []],AV.bool (bp a35)]) []))) (re (Qe [str (a36++a14.1),Qd [str x0.1,str x0.2.1,str x0.2.2.1,sl Q6 x0.2.2.2.1,Qb,str [],Qb,Qb,str (ze.op x0.t.t.1),ai (ze.v x0.t.t.1).1,
  ai (ze.v x0.t.t.1).2.1,str (ze.v x0.t.t.1).2.2,str (ze.s x0.t.t.1),sl Q5 (ze.l x0.t.t.1),Qb,Qb,str [],ai 0,ai 0,str [],str [],Qb,str []],kb Q4]) [])))) (re (Qe [str (a36++a14.1),Qd
  [str x0.1,str x0.2.1,str x0.2.2.1,sl Q6 x0.2.2.2.1,Qb,str [],Qb,Qb,str (ze.op x0.t.t.1),ai (ze.v x0.t.t.1).1,ai (ze.v x0.t.t.1).2.1,str (ze.v x0.t.t.1).2.2,str (ze.s x0.t.t.1),
  sl Q5 (ze.l x0.t.t.1),Qb,Qb,str [],ai 0,ai 0,str [],str [],Qb,str []],kb Q4]) []))) (re (Qe [str (a36++a14.1),Qd [str x0.1,str x0.2.1,str x0.2.2.1,sl Q6 x0.2.2.2.1,Qb,str [],Qb,Qb,str (ze.op x0.t.t.1),
  ai (ze.v x0.t.t.1).1,ai (ze.v x0.t.t.1).2.1,str (ze.v x0.t.t.1).2.2,str (ze.s x0.t.t.1),sl Q5 (ze.l x0.t.t.1),Qb,Qb,str [],ai 0,ai 0,str [],str [],Qb,str []],kb Q4]) []))))))))))))) (br (x0.1==[114,101,97,100])
  (Qc (Q0 ([71,82,65,78,84,32,82,69,65,68,32,79,78,32].length+length x0.2.1<=1099511627776)) (Qc (Q0 (length a37+[32,84,79,32].length<=1099511627776)) (Qc (Q0 (length a38+length x0.t.t.t<=1099511627776)) (Qc a24 (re (Qe [str (a38++x0.t.t.t),Qd
  [str x0.1,str x0.2.1,str [],Qb,Qb,str [],Qb,Qb,str [],ai 0,ai 0,str [],str [],Qb,Qb,Qb,str [],ai 0,ai 0,str [],str [],Qb,str x0.t.t.t],AV.bool a25]) []))))) (br (x0.1==[119,114,105,116,101])
  (Qc (Q0 ([71,82,65,78,84,32,87,82,73,84,69,32,79,78,32].length+length x0.2.1<=1099511627776)) (Qc (Q0 (length a39+[32,84,79,32].length<=1099511627776)) (Qc (Q0 (length a40+length x0.t.t.t<=1099511627776)) (Qc a24 (re (Qe [str (a40++x0.t.t.t),Qd
  [str x0.1,str x0.2.1,str [],Qb,Qb,str [],Qb,Qb,str [],ai 0,ai 0,str [],str [],Qb,Qb,Qb,str [],ai 0,ai 0,str [],str [],Qb,str x0.t.t.t],AV.bool a25]) []))))) (br (x0.1==[117,110,114,101,97,100])
  (Qc (Q0 ([82,69,86,79,75,69,32,82,69,65,68,32,79,78,32].length+length x0.2.1<=1099511627776)) (Qc (Q0 (length a41+[32,70,82,79,77,32].length<=1099511627776)) (Qc (Q0 (length a42+length x0.t.t.t<=1099511627776)) (Qc a24 (re (Qe [str (a42++x0.t.t.t),Qd
  [str x0.1,str x0.2.1,str [],Qb,Qb,str [],Qb,Qb,str [],ai 0,ai 0,str [],str [],Qb,Qb,Qb,str [],ai 0,ai 0,str [],str [],Qb,str x0.t.t.t],AV.bool a25]) []))))) (br (x0.1==[117,110,119,114,105,116,101]) (Qc
  (Q0 ([82,69,86,79,75,69,32,87,82,73,84,69,32,79,78,32].length+length x0.2.1<=1099511627776)) (Qc (Q0 (length a43+[32,70,82,79,77,32].length<=1099511627776)) (Qc (Q0 (length a44+length x0.t.t.t<=1099511627776)) (Qc a24 (re (Qe [str (a44++x0.t.t.t),Qd
  [str x0.1,str x0.2.1,str [],Qb,Qb,str [],Qb,Qb,str [],ai 0,ai 0,str [],str [],Qb,Qb,Qb,str [],ai 0,ai 0,str [],str [],Qb,str x0.t.t.t],AV.bool a25]) []))))) (re (Qe [str [],Qd
  [str x0.1,str x0.2.1,str [],Qb,Qb,str [],Qb,Qb,str [],ai 0,ai 0,str [],str [],Qb,Qb,Qb,str [],ai 0,ai 0,str [],str [],Qb,str []],kb Q4]) [])))))))))))))))
def lS:yX->Tr (yX⊕aw)
 | .h15 s12 i13 z0 z1 z2=>
  let a0:=(↑(length z0.1.t.t.2.1):Int)
  let a1:=zM i13 (length z0.1.t.t.2.1)
  let a2:=getD z0.1.t.t.2.1 i13.toNat (zi zf)
  let a3:=tW a2
  let a4:=s12++[32,44,32]
  let a5:=BH a2
  let a6:=IntKind.i64.wrap (i13+1)
  let a7:=[73,78,83,69,82,84,32,73,78,84,79,32]++z0.1.2.1
  let a8:=a7++[32,86,65,76,85,69,83,32,40,32]
  let a9:=a8++s12
  br (Q0 (i13<a0))
  (Qc a1
   (Qc (lO a2) (br (!ry a2) (re (Qe [str [],Qd [str z2.1,str z2.2.1,str z2.2.2.1,Qb,Qb,str z2.2.2.2.1,Qb,Qb,str z2.t.1,ai z2.t.2.1,ai z2.t.q.1,str z2.t.q.2.1,str z2.t.t.1,Qb,sl zf z2.t.t.2.1,Qb,
   str z2.t.t.q.1,ai z2.t.t.q.2.1,ai z2.t.t.t.1,str z2.t.t.t.2.1,str z2.t.t.t.q.1,Qb,str z2.t.t.t.q.2.1],kb Q4]) []) (br (Q0 (i13>0)) (Qc (Q0 (s12.length+[32,44,32].length<=1099511627776))
   (Qc a1 (Qc a3 (Qc (Q0 (length a4+length a5<=1099511627776)) (Q9 (yX.h15 (a4++a5) a6 z0 z1 z2)))))) (Qc a1 (Qc a3 (Qc (Q0 (s12.length+length a5<=1099511627776)) (Q9 (yX.h15 (s12++a5) a6 z0 z1 z2)))))))))
  (Qc (Q0 ([73,78,83,69,82,84,32,73,78,84,79,32].length+length z0.1.2.1<=1099511627776))
   (Qc (Q0 (length a7+[32,86,65,76,85,69,83,32,40,32].length<=1099511627776)) (Qc (Q0 (length a8+s12.length<=1099511627776)) (Qc (Q0 (length a9+[32,41].length<=1099511627776)) (br (Q0 (1<=a0)) (re (Qe [str (a9++[32,41]),Qd
   [str z2.1,str z2.2.1,str z2.2.2.1,Qb,Qb,str z2.2.2.2.1,Qb,Qb,str z2.t.1,ai z2.t.2.1,ai z2.t.q.1,str z2.t.q.2.1,str z2.t.t.1,Qb,sl zf z2.t.t.2.1,Qb,str z2.t.t.q.1,ai z2.t.t.q.2.1,
   ai z2.t.t.t.1,str z2.t.t.t.2.1,str z2.t.t.t.q.1,Qb,str z2.t.t.t.q.2.1],AV.bool (Q0 (a0<=12))]) []) (re (Qe [str (a9++[32,41]),Qd [str z2.1,str z2.2.1,str z2.2.2.1,Qb,Qb,str z2.2.2.2.1,Qb,Qb,
   str z2.t.1,ai z2.t.2.1,ai z2.t.q.1,str z2.t.q.2.1,str z2.t.t.1,Qb,sl zf z2.t.t.2.1,Qb,str z2.t.t.q.1,ai z2.t.t.q.2.1,ai z2.t.t.t.1,str z2.t.t.t.2.1,str z2.t.t.t.q.1,
   Qb,str z2.t.t.t.q.2.1],kb Q4]) []))))))
 | .h27 s8 b9 s14 i15 z0 z1 z2=>
  let a0:=(↑(length z0.1.t.t.q.1):Int)
  let a1:=zM i15 (length z0.1.t.t.q.1)
  let a2:=getD z0.1.t.t.q.1 i15.toNat (zi gU)
  let a3:=!bp a2.1
  let a4:=zm a2.2
  let a5:=Q0 (length a2.1+[32,61,32].length<=1099511627776)
  let a6:=qn a4
  let a7:=a2.1++[32,61,32]
  let a8:=pg a4
  let a9:=Q0 (length a7+length a8<=1099511627776)
  let a10:=s14++[32,44,32]
  let a11:=a7++a8
  let a12:=IntKind.i64.wrap (i15+1)
  let a13:=[85,80,68,65,84,69,32]++z0.1.2.1
  let a14:=a13++[32,83,69,84,32]
  let a15:=a14++s14
  br (Q0 (i15<a0))
  (Qc (a1&&(dB a2.1&&bif a3 then Q3 else a1&&wj a4))
   (br (bif a3 then Q3 else !EP a4) (re (Qe [str [],Qd [str z2.1,str z2.2.1,str z2.2.2.1,Qb,Qb,str z2.2.2.2.1,Qb,Qb,str z2.t.1,ai z2.t.2.1,ai z2.t.q.1,str z2.t.q.2.1,str z2.t.t.1,Qb,Qb,
   sl (Sh.str.pr Q5) z2.t.t.2.1,str (ze.op z2.t.t.q.1),ai (ze.v z2.t.t.q.1).1,ai (ze.v z2.t.t.q.1).2.1,str (ze.v z2.t.t.q.1).2.2,str (ze.s z2.t.t.q.1),sl Q5 (ze.l z2.t.t.q.1),str z2.t.t.q.2.1],kb Q4]) [])
   (br (Q0 (i15>0)) (Qc (Q0 (s14.length+[32,44,32].length<=1099511627776)) (Qc a1 (Qc a5 (Qc a1 (Qc a6 (Qc a9 (Qc (Q0 (length a10+length a11<=1099511627776)) (Q9 (yX.h27 s8 b9 (a10++a11) a12 z0 z1 z2))))))))) (Qc a1 (Qc a5 (Qc a1
   (Qc a6 (Qc a9 (Qc (Q0 (s14.length+length a11<=1099511627776)) (Q9 (yX.h27 s8 b9 (s14++a11) a12 z0 z1 z2)))))))))))
  (Qc (Q0 ([85,80,68,65,84,69,32].length+length z0.1.2.1<=1099511627776))
   (Qc (Q0 (length a13+[32,83,69,84,32].length<=1099511627776)) (Qc (Q0 (length a14+s14.length<=1099511627776)) (Qc (Q0 (length a15+length s8<=1099511627776)) (br b9 (br (Q0 (1<=a0)) (re (Qe [str (a15++s8),Qd [str z2.1,str z2.2.1,str z2.2.2.1,Qb,Qb,str z2.2.2.2.1,Qb,Qb,
   str z2.t.1,ai z2.t.2.1,ai z2.t.q.1,str z2.t.q.2.1,str z2.t.t.1,Qb,Qb,sl (Sh.str.pr Q5) z2.t.t.2.1,str (ze.op z2.t.t.q.1),ai (ze.v z2.t.t.q.1).1,ai (ze.v z2.t.t.q.1).2.1,str (ze.v z2.t.t.q.1).2.2,
   str (ze.s z2.t.t.q.1),sl Q5 (ze.l z2.t.t.q.1),str z2.t.t.q.2.1],AV.bool (Q0 (a0<=8))]) []) (re (Qe [str (a15++s8),Qd [str z2.1,str z2.2.1,str z2.2.2.1,Qb,Qb,str z2.2.2.2.1,Qb,Qb,str z2.t.1,ai z2.t.2.1,ai z2.t.q.1,
   str z2.t.q.2.1,str z2.t.t.1,Qb,Qb,sl (Sh.str.pr Q5) z2.t.t.2.1,str (ze.op z2.t.t.q.1),ai (ze.v z2.t.t.q.1).1,ai (ze.v z2.t.t.q.1).2.1,str (ze.v z2.t.t.q.1).2.2,
   str (ze.s z2.t.t.q.1),sl Q5 (ze.l z2.t.t.q.1),str z2.t.t.q.2.1],kb Q4]) [])) (re (Qe [str (a15++s8),Qd [str z2.1,str z2.2.1,str z2.2.2.1,Qb,Qb,str z2.2.2.2.1,Qb,Qb,str z2.t.1,ai z2.t.2.1,ai z2.t.q.1,
   str z2.t.q.2.1,str z2.t.t.1,Qb,Qb,sl (Sh.str.pr Q5) z2.t.t.2.1,str (ze.op z2.t.t.q.1),ai (ze.v z2.t.t.q.1).1,ai (ze.v z2.t.t.q.1).2.1,str (ze.v z2.t.t.q.1).2.2,str (ze.s z2.t.t.q.1),
   sl Q5 (ze.l z2.t.t.q.1),str z2.t.t.q.2.1],kb Q4]) []))))))
def dv(x0:Sem zk):=al [Q6,zk,Q7] lS 100000000 (gG x0)
def un(x0:Sem zk):=(dv x0).isSome
def yD(x0:Sem zk):=o3 (dv x0)
def zef:=FT [zk] [Q6,zk,Q7] λx=>dv x.1
theorem zay:FK 72 zef:=AI.T1 (f:=Tryz.f72) (keep:=zhq) (e:=zjW)
def Yb:=QB.add 72 zef
theorem Ea:zw Yb:=AI.add zay
def zbH(x0:Sem zk):Tr (Empty⊕aw):=
 let a0:=(x0.1,x0.2.1,x0.2.2.1,x0.2.2.2.1,x0.t.1,x0.t.2.1,x0.t.q.1,x0.t.q.2.1,zm x0.t.t.1,x0.t.t.2.1,x0.t.t.q.1,zm x0.t.t.q.2.1,x0.t.t.t)
 let a1:=yD a0
 let a2:=!a1.2.2
 let a3:=!bp x0.2.1
 let a4:=(a1.2.1.1,a1.2.1.2.1,a1.2.1.2.2.1,a1.2.1.2.2.2.1,a1.2.1.t.1,a1.2.1.t.2.1,a1.2.1.t.q.1,a1.2.1.t.q.2.1,zm a1.2.1.t.t.1,a1.2.1.t.t.2.1,a1.2.1.t.t.q.1,zm a1.2.1.t.t.q.2.1,a1.2.1.t.t.t)
 let a5:=xq a1.1
 Qc (un a0)
 (Qc (bif a2 then Q3 else dB x0.2.1&&bif a3 then Q3 else yB a4 a0)
  (br (bif a2 then Q3 else bif a3 then Q3 else !eU a4 a0) (re (Qe [str [],kb Q4]) []) (Qc (GA a1.1) (br (!a5.2) (re (Qe [str [],kb Q4]) []) (re (Qe [str a1.1,kb Q3]) [])))))
def nA(x0:Sem zk):=al [Q6,Q7] t0 100000000 (zbH x0)
def ip(x0:Sem zk):=(nA x0).isSome
def kK(x0:Sem zk):=o2 (nA x0)
def zdL:=FT [zk] [Q6,Q7] λx=>nA x.1
theorem Z2:FK 42 zdL:=Ea.T1 (f:=Tryz.f42) (keep:=k0) (e:=e0)
def Ic:=Yb.add 42 zdL
theorem Eb:zw Ic:=Ea.add Z2
abbrev l5:List CP:=[.d .str,.d .str,.d .str,.vec .str,.nil,.d .str,.nil,.nil,.d .expr,.nil,.nil,.d .str,.d zg,.d zg,.d .str,.d .str,.nil,.d .str]
abbrev Vn:List CP:=[.d .str,.d .str,.d .str,.vec .str,.nil,.d .str,.nil,.nil,.d .str,.d zg,.d zg,.d .str,.d .str,.nil,.nil,.nil,.d .str,.d zg,.d zg,.d .str,.d .str,.nil,.d .str]
abbrev KN:Nat->aM:=λj=>if j=14 then{slots:=[0,1,4],prom:=[(1,some 3,.str)]}else if j=1000000 then{prom:=[(1,some 3,.str)]}else{ }
inductive qY where
 |h14 (z0:zn aG) (z1:zn Vn)
 |h14b (b4:Sem Q7) (z0:zn aG) (z1:zn Vn)
abbrev HT:qY->Nat×St
 |.h14 z0 z1=>(14,⟨tm 117 [(0,ptr 0 0),(1,ptr 1 0),(4,kb Q3)],[Qa (bC [] aG z0),Qa (bC [2] Vn z1),AO.vec Q6 z1.2.2.2.1]⟩)
 |.h14b b4 z0 z1=>(14,⟨tm 117 [(0,ptr 0 0),(1,ptr 1 0),(4,AV.bool b4)],[Qa (bC [] aG z0),Qa (bC [2] Vn z1),AO.vec Q6 z1.2.2.2.1]⟩)
theorem zci:zI Ic.P 90 Tryz.f90 2:=bU kw
def Rn(y:zn aG)(z:zn iH):Tr (qY⊕aw):=
 let a0:=(y.1,y.2.1,y.2.2.1,())
 let a1:=eV a0 [67,79,80,89]
 let a2:=(a1.2.1,a1.2.2.1,a1.2.2.2.1,())
 let a3:=bM a2
 let a4:=(a3.2.1,a3.2.2.1,a3.2.2.2.1,())
 let a5:=bG a4 [70,82,79,77]
 let a6:=(a5.1,a5.2.1,a5.2.2.1,())
 let a7:=bM a6
 let a8:=(a7.2.1,a7.2.2.1,a7.2.2.2.1,())
 let a9:=([],z.2.2.2)
 let a10:=bG a8 [44]
 let a11:=(a10.1,a10.2.1,a10.2.2.1,())
 let a12:=bM a11
 let a13:=(a12.2.1,a12.2.2.1,a12.2.2.2.1,())
 let a14:=bG a13 [79,78]
 let a15:=(a14.1,a14.2.1,a14.2.2.1,())
 let a16:=bM a15
 let a17:=(a16.2.1,a16.2.2.1,a16.2.2.2.1,())
 let a18:=eD a17 [67,72,69,67,75]
 let a19:=bG a8 [66,89]
 let a20:=(a19.1,a19.2.1,a19.2.2.1,())
 let a21:=bM a20
 let a22:=[a21.1]
 let a23:=(a21.2.1,a21.2.2.1,a21.2.2.2.1,())
 let a24:=bG a23 [83,85,77]
 let a25:=(a24.1,a24.2.1,a24.2.2.1,())
 let a26:=bM a25
 let a27:=[a26.1]
 let a28:=(a26.2.1,a26.2.2.1,a26.2.2.2.1,())
 let a29:=eD a28 [67,72,69,67,75]
 let a30:=eD a8 [67,72,69,67,75]
 let a31:=eV a2 [74,79,73,78]
 let a32:=(a31.2.1,a31.2.2.1,a31.2.2.2.1,())
 let a33:=bM a32
 let a34:=(a33.2.1,a33.2.2.1,a33.2.2.2.1,())
 let a35:=bG a34 [70,82,79,77]
 let a36:=(a35.1,a35.2.1,a35.2.2.1,())
 let a37:=bM a36
 let a38:=(a37.2.1,a37.2.2.1,a37.2.2.2.1,())
 let a39:=bG a38 [44]
 let a40:=(a39.1,a39.2.1,a39.2.2.1,())
 let a41:=bM a40
 let a42:=(a41.2.1,a41.2.2.1,a41.2.2.2.1,())
 let a43:=bG a42 [79,78]
 let a44:=(a43.1,a43.2.1,a43.2.2.1,())
 let a45:=bM a44
 let a46:=(a45.2.1,a45.2.2.1,a45.2.2.2.1,())
 let a47:=eD a46 [67,72,69,67,75]
 let a48:=bG a38 [66,89]
 let a49:=(a48.1,a48.2.1,a48.2.2.1,())
 let a50:=bM a49
 let a51:=[a50.1]
 let a52:=(a50.2.1,a50.2.2.1,a50.2.2.2.1,())
 let a53:=bG a52 [83,85,77]
 let a54:=(a53.1,a53.2.1,a53.2.2.1,())
 let a55:=bM a54
 let a56:=[a55.1]
 let a57:=(a55.2.1,a55.2.2.1,a55.2.2.2.1,())
 let a58:=eD a57 [67,72,69,67,75]
 let a59:=eD a38 [67,72,69,67,75]
 let a60:=eV a32 [71,82,79,85,80]
 let a61:=(a60.2.1,a60.2.2.1,a60.2.2.2.1,())
 let a62:=bM a61
 let a63:=(a62.2.1,a62.2.2.1,a62.2.2.2.1,())
 let a64:=bG a63 [70,82,79,77]
 let a65:=(a64.1,a64.2.1,a64.2.2.1,())
 let a66:=bM a65
 let a67:=(a66.2.1,a66.2.2.1,a66.2.2.2.1,())
 let a68:=bG a67 [44]
 let a69:=(a68.1,a68.2.1,a68.2.2.1,())
 let a70:=bM a69
 let a71:=(a70.2.1,a70.2.2.1,a70.2.2.2.1,())
 let a72:=bG a71 [79,78]
 let a73:=(a72.1,a72.2.1,a72.2.2.1,())
 let a74:=bM a73
 let a75:=(a74.2.1,a74.2.2.1,a74.2.2.2.1,())
 let a76:=eD a75 [67,72,69,67,75]
 let a77:=bG a67 [66,89]
 let a78:=(a77.1,a77.2.1,a77.2.2.1,())
 let a79:=bM a78
 let a80:=[a79.1]
 let a81:=(a79.2.1,a79.2.2.1,a79.2.2.2.1,())
 let a82:=bG a81 [83,85,77]
 let a83:=(a82.1,a82.2.1,a82.2.2.1,())
 let a84:=bM a83
 let a85:=[a84.1]
 let a86:=(a84.2.1,a84.2.2.1,a84.2.2.2.1,())
 let a87:=eD a86 [67,72,69,67,75]
 let a88:=eD a67 [67,72,69,67,75]
 let a89:=(a60.2.1,a60.2.2.1,Q4,())
 let a90:=bM a89
 let a91:=(a90.2.1,a90.2.2.1,a90.2.2.2.1,())
 let a92:=bG a91 [70,82,79,77]
 let a93:=(a92.1,a92.2.1,a92.2.2.1,())
 let a94:=bM a93
 let a95:=(a94.2.1,a94.2.2.1,a94.2.2.2.1,())
 let a96:=bG a95 [44]
 let a97:=(a96.1,a96.2.1,a96.2.2.1,())
 let a98:=bM a97
 let a99:=(a98.2.1,a98.2.2.1,a98.2.2.2.1,())
 let a100:=bG a99 [79,78]
 let a101:=(a100.1,a100.2.1,a100.2.2.1,())
 let a102:=bM a101
 let a103:=(a102.2.1,a102.2.2.1,a102.2.2.2.1,())
 let a104:=eD a103 [67,72,69,67,75]
 let a105:=bG a95 [66,89]
 let a106:=(a105.1,a105.2.1,a105.2.2.1,())
 let a107:=bM a106
 let a108:=[a107.1]
 let a109:=(a107.2.1,a107.2.2.1,a107.2.2.2.1,())
 let a110:=bG a109 [83,85,77]
 let a111:=(a110.1,a110.2.1,a110.2.2.1,())
 let a112:=bM a111
 let a113:=[a112.1]
 let a114:=(a112.2.1,a112.2.2.1,a112.2.2.2.1,())
 let a115:=eD a114 [67,72,69,67,75]
 let a116:=eD a95 [67,72,69,67,75]
 Qc (dJ a0 [67,79,80,89])
 (br a1.1
  (Qc (bn a2) (Qc (aV a4 [70,82,79,77]) (Qc (bn a6) (br Q3 (Qc (aV a8 [40]) (Q9 (qY.h14 (bG a8 [40]) ([99,111,112,121],a3.1,a7.1,a9)))) (br Q4 (Qc (aV a8 [44]) (Qc (bn a11) (Qc (aV a13 [79,78]) (Qc (bn a15) (Qc (dC a17 [67,72,69,67,75]) (re (Qe []) (cd aG l5 a18.2
  ([99,111,112,121],a3.1,a7.1,[],a16.1,a18.1,z.t.t.2.1,z.t.t.q.1,z.t.t.q.2.1,z.t.t.t.1,z.t.t.t.2.1,a12.1,())))))))) (br Q4 (Qc (aV a8 [66,89]) (Qc (bn a20) (Qc (Q0 (a22.length<=1073741824)) (Qc (aV a23 [83,85,77]) (Qc (bn a25)
  (Qc (Q0 (a22.length+a27.length<=1073741824)) (Qc (dC a28 [67,72,69,67,75]) (re (Qe []) (cd aG l5 a29.2 ([99,111,112,121],a3.1,a7.1,a22++a27,z.2.2.2.1,a29.1,z.t.t.2)))))))))) (Qc (dC a8 [67,72,69,67,75]) (re (Qe []) (cd aG l5 a30.2
  ([99,111,112,121],a3.1,a7.1,[],z.2.2.2.1,a30.1,z.t.t.2))))))))))
  (Qc (dJ a2 [74,79,73,78]) (br a31.1 (Qc (bn a32) (Qc (aV a34 [70,82,79,77]) (Qc (bn a36) (br Q4 (Qc (aV a38 [40]) (Q9 (qY.h14 (bG a38 [40]) ([106,111,105,110],a33.1,a37.1,a9)))) (br Q3 (Qc (aV a38 [44]) (Qc (bn a40) (Qc (aV a42 [79,78]) (Qc (bn a44)
  (Qc (dC a46 [67,72,69,67,75]) (re (Qe []) (cd aG l5 a47.2 ([106,111,105,110],a33.1,a37.1,[],a45.1,a47.1,z.t.t.2.1,z.t.t.q.1,z.t.t.q.2.1,z.t.t.t.1,z.t.t.t.2.1,a41.1,())))))))) (br Q4 (Qc (aV a38 [66,89]) (Qc (bn a49)
  (Qc (Q0 (a51.length<=1073741824)) (Qc (aV a52 [83,85,77]) (Qc (bn a54) (Qc (Q0 (a51.length+a56.length<=1073741824)) (Qc (dC a57 [67,72,69,67,75]) (re (Qe []) (cd aG l5 a58.2 ([106,111,105,110],a33.1,a37.1,a51++a56,z.2.2.2.1,a58.1,z.t.t.2)))))))))) (Qc (dC a38 [67,72,69,67,75])
  (re (Qe []) (cd aG l5 a59.2 ([106,111,105,110],a33.1,a37.1,[],z.2.2.2.1,a59.1,z.t.t.2)))))))))) (Qc (dJ a32 [71,82,79,85,80]) (br a60.1 (Qc (bn a61) (Qc (aV a63 [70,82,79,77]) (Qc (bn a65) (br Q4 (Qc (aV a67 [40]) (Q9 (qY.h14 (bG a67 [40]) ([103,114,111,117,112],a62.1,a66.1,a9))))
  (br Q4 (Qc (aV a67 [44]) (Qc (bn a69) (Qc (aV a71 [79,78]) (Qc (bn a73) (Qc (dC a75 [67,72,69,67,75]) (re (Qe []) (cd aG l5 a76.2 ([103,114,111,117,112],a62.1,a66.1,[],a74.1,a76.1,z.t.t.2.1,z.t.t.q.1,z.t.t.q.2.1,
  z.t.t.t.1,z.t.t.t.2.1,a70.1,())))))))) (br Q3 (Qc (aV a67 [66,89]) (Qc (bn a78) (Qc (Q0 (a80.length<=1073741824)) (Qc (aV a81 [83,85,77]) (Qc (bn a83) (Qc (Q0 (a80.length+a85.length<=1073741824)) (Qc (dC a86 [67,72,69,67,75]) (re (Qe []) (cd aG l5 a87.2
  ([103,114,111,117,112],a62.1,a66.1,a80++a85,z.2.2.2.1,a87.1,z.t.t.2)))))))))) (Qc (dC a67 [67,72,69,67,75]) (re (Qe []) (cd aG l5 a88.2 ([103,114,111,117,112],a62.1,a66.1,[],z.2.2.2.1,a88.1,z.t.t.2)))))))))) (Qc (bn a89) (Qc (aV a91 [70,82,79,77]) (Qc (bn a93)
  (br (z.1==[99,111,112,121]) (Qc (aV a95 [40]) (Q9 (qY.h14 (bG a95 [40]) (z.1,a90.1,a94.1,a9)))) (br (z.1==[106,111,105,110]) (Qc (aV a95 [44]) (Qc (bn a97) (Qc (aV a99 [79,78]) (Qc (bn a101) (Qc (dC a103 [67,72,69,67,75]) (re (Qe []) (cd aG l5 a104.2
  (z.1,a90.1,a94.1,[],a102.1,a104.1,z.t.t.2.1,z.t.t.q.1,z.t.t.q.2.1,z.t.t.t.1,z.t.t.t.2.1,a98.1,())))))))) (br (z.1==[103,114,111,117,112]) (Qc (aV a95 [66,89]) (Qc (bn a106) (Qc (Q0 (a108.length<=1073741824)) (Qc (aV a109 [83,85,77]) (Qc (bn a111)
  (Qc (Q0 (a108.length+a113.length<=1073741824)) (Qc (dC a114 [67,72,69,67,75]) (re (Qe []) (cd aG l5 a115.2 (z.1,a90.1,a94.1,a108++a113,z.2.2.2.1,a115.1,z.t.t.2)))))))))) (Qc (dC a95 [67,72,69,67,75]) (re (Qe []) (cd aG l5 a116.2 (z.1,a90.1,a94.1,[],z.2.2.2.1,a116.1,z.t.t.2)))))))))))))))
theorem zbj(y:zn aG)(z:zn iH):rn Ic 2 KN Tryz.f90 [ptr 0 0,ptr 1 0] (cd aG iH y z)=(Rn y z).map (lf Tryz.f90 HT):=kw
def TB:qY->Tr (qY⊕aw)
 | .h14 z0 z1=>
  let a0:=(z0.1,z0.2.1,z0.2.2.1,())
  let a1:=bM a0
  let a2:=[a1.1]
  let a3:=(a1.2.1,a1.2.2.1,a1.2.2.2.1,())
  let a4:=eV a3 [44]
  let a5:=bG a0 [41]
  let a6:=(a5.1,a5.2.1,a5.2.2.1,())
  let a7:=eD a6 [67,72,69,67,75]
  br z0.2.2.1
  (Qc (bn a0)
   (Qc (Q0 (z1.2.2.2.1.length+a2.length<=1073741824)) (Qc (dJ a3 [44]) (Q9 (qY.h14b a4.1 a4.2 (z1.1,z1.2.1,z1.2.2.1,z1.2.2.2.1++a2,z1.t))))))
  (Qc (aV a0 [41])
   (Qc (dC a6 [67,72,69,67,75]) (re (Qe []) (cd aG l5 a7.2 (z1.1,z1.2.1,z1.2.2.1,z1.2.2.2.1,z1.t.1,a7.1,z1.t.t.q)))))
 | .h14b b4 z0 z1=>
  let a0:=(z0.1,z0.2.1,z0.2.2.1,())
  let a1:=bM a0
  let a2:=[a1.1]
  let a3:=(a1.2.1,a1.2.2.1,a1.2.2.2.1,())
  let a4:=eV a3 [44]
  let a5:=bG a0 [41]
  let a6:=(a5.1,a5.2.1,a5.2.2.1,())
  let a7:=eD a6 [67,72,69,67,75]
  br (bif b4 then z0.2.2.1 else Q4)
  (Qc (bn a0)
   (Qc (Q0 (z1.2.2.2.1.length+a2.length<=1073741824)) (Qc (dJ a3 [44]) (Q9 (qY.h14b a4.1 a4.2 (z1.1,z1.2.1,z1.2.2.1,z1.2.2.2.1++a2,z1.t))))))
  (Qc (aV a0 [41])
   (Qc (dC a6 [67,72,69,67,75]) (re (Qe []) (cd aG l5 a7.2 (z1.1,z1.2.1,z1.2.2.1,z1.2.2.2.1,z1.t.1,a7.1,z1.t.t.q)))))
theorem zcq:∀s,run Ic 2 KN (Func.results Tryz.f90).toList 400 (ac Tryz.f90 (HT s).1) (HT s).2=(TB s).map (lf Tryz.f90 HT)
 |.h14 z0 z1=>by kernel_rfl
 |.h14b b4 z0 z1=>by kernel_rfl
def Tm(y:zn aG)(z:zn iH):Option (zy (List.map some [])×zn aG×zn l5):=MS [] aG l5 TB 100000000 (Rn y z)
def Tl(y:zn aG)(z:zn iH):Bool:=(Tm y z).isSome
def YZ(y:zn aG)(z:zn iH):zn aG×zn l5:=(λr:zy (List.map some [])×zn aG×zn l5=>r.2) ((Tm y z).getD (cu [],fO aG,fO l5))
def W7:zX:=PW aG iH [] [] aG l5 (λy z _=>Tl y z) λy z _=>((),YZ y z)
theorem Ui:FK 90 W7:=zaM (ps:=aG) (qs:=iH) (ks:=[]) (outs:=[]) (keep:=KN) (gas:=400) (n:=100000000) (e:=HT) (t:=TB) (i:=λy z x=>Rn y z) Eb zci (λy z x=>zbj y z) zcq (λ_ _ _=>by kernel_rfl) (λ_ _ _=>by kernel_rfl)
def Yc:=Ic.add 90 W7
theorem Ec:zw Yc:=Eb.add Ui
abbrev zhj:=mM [(17,[2,4,6,7,8]),(25,[2,4,6,7,9])]
inductive NH where
 |h17 (l4:LF) (z0:zn iH) (z1:zn aG) (z2:zn iH)
 |h25 (l4:LF) (z0:zn iH) (z1:zn aG) (z2:zn iH)
abbrev zjS:NH->Nat×St
 |.h17 l4 z0 z1 z2=>(17,⟨tm 172 [(2,ptr 0 0),(4,sl zr l4),(6,ptr 1 0),(7,ptr 2 0),(8,kb Q3)],[Qa (bC [] iH z0),Qa (bC [] aG z1),Qa (bC [] iH z2)]⟩)
 |.h25 l4 z0 z1 z2=>(25,⟨tm 172 [(2,ptr 0 0),(4,sl zr l4),(6,ptr 1 0),(7,ptr 2 0),(9,kb Q3)],[Qa (bC [] iH z0),Qa (bC [] aG z1),Qa (bC [] iH z2)]⟩)
def zk5(x0:TS):Tr (NH⊕aw):=
 let a0:=((xq x0).1,0,Q3,())
 let a1:=eV a0 [67,82,69,65,84,69]
 let a2:=(a1.2.1,a1.2.2.1,a1.2.2.2.1,())
 let a3:=eV a2 [68,82,79,80]
 let a4:=(a3.2.1,a3.2.2.1,a3.2.2.2.1,())
 let a5:=bG a4 [84,65,66,76,69]
 let a6:=(a5.1,a5.2.1,a5.2.2.1,())
 let a7:=bM a6
 let a8:=(↑(length (xq x0).1):Int)
 let a9:=([100,114,111,112],a7.1,[],[],[],[],[],[],ze.mk [] (0,0,[]) [] [],[],[],ze.mk [] (0,0,[]) [] [],[])
 let a10:=kK a9
 let a11:=eV a4 [73,78,83,69,82,84]
 let a12:=(a11.2.1,a11.2.2.1,a11.2.2.2.1,())
 let a13:=bG a12 [73,78,84,79]
 let a14:=(a13.1,a13.2.1,a13.2.2.1,())
 let a15:=bM a14
 let a16:=(a15.2.1,a15.2.2.1,a15.2.2.2.1,())
 let a17:=bG a16 [86,65,76,85,69,83]
 let a18:=(a17.1,a17.2.1,a17.2.2.1,())
 let a19:=eV a12 [85,80,68,65,84,69]
 let a20:=(a19.2.1,a19.2.2.1,a19.2.2.2.1,())
 let a21:=bM a20
 let a22:=(a21.2.1,a21.2.2.1,a21.2.2.2.1,())
 let a23:=eV a20 [68,69,76,69,84,69]
 let a24:=(a23.2.1,a23.2.2.1,a23.2.2.2.1,())
 let a25:=bG a24 [70,82,79,77]
 let a26:=(a25.1,a25.2.1,a25.2.2.1,())
 let a27:=bM a26
 let a28:=(a27.2.1,a27.2.2.1,a27.2.2.2.1,())
 let a29:=eD a28 [87,72,69,82,69]
 let a30:=([100,101,108,101,116,101],a27.1,[],[],[],[],[],[],ze.mk [] (0,0,[]) [] [],[],[],zm a29.1,[])
 let a31:=kK a30
 let a32:=eV a24 [83,69,76,69,67,84]
 let a33:=(a32.2.1,a32.2.2.1,a32.2.2.2.1,())
 let a34:=bG a33 [42]
 let a35:=(a34.1,a34.2.1,a34.2.2.1,())
 let a36:=bG a35 [70,82,79,77]
 let a37:=(a36.1,a36.2.1,a36.2.2.1,())
 let a38:=bM a37
 let a39:=(a38.2.1,a38.2.2.1,a38.2.2.2.1,())
 let a40:=eD a39 [87,72,69,82,69]
 let a41:=([115,101,108,101,99,116],a38.1,[],[],[],[],[],[],ze.mk [] (0,0,[]) [] [],[],[],zm a40.1,[])
 let a42:=kK a41
 let a43:=eV a33 [71,82,65,78,84]
 let a44:=(a43.2.1,a43.2.2.1,a43.2.2.2.1,())
 let a45:=Ju a44 [82,69,65,68]
 let a46:=eV a44 [82,69,86,79,75,69]
 let a47:=(a46.2.1,a46.2.2.1,a46.2.2.2.1,())
 let a48:=Ju a47 [82,69,65,68]
 let a49:=eV a47 [77,73,71,82,65,84,69]
 let a50:=(a49.2.1,a49.2.2.1,a49.2.2.2.1,())
 let a51:=YZ a50 ([],[],[],[],[],0,0,[],[],[],0,0,[],[],[],())
 let a52:=(a51.2.1,a51.2.2.1,a51.2.2.2.1,a51.t.1,[],a51.t.2.1,[],[],zm a51.t.q.1,[],[],ze.mk a51.t.q.2.1 (a51.t.t.1,a51.t.t.2.1,a51.t.t.q.1) a51.t.t.q.2.1 [],a51.t.t.t.1)
 let a53:=kK a52
 Qc (GA x0)
 (br (!(xq x0).2)
  (re (Qe [Qd [str [],str [],str [],Qb,Qb,str [],Qb,Qb,str [],ai 0,ai 0,str [],str [],Qb,Qb,Qb,str [],ai 0,ai 0,str [],str [],Qb,str []],kb Q4]) [])
  (Qc (dJ a0 [67,82,69,65,84,69]) (br a1.1 Tr.err (Qc (dJ a2 [68,82,79,80]) (br a3.1 (Qc (aV a4 [84,65,66,76,69]) (Qc (bn a6) (br (bif !a7.2.2.2.1 then Q3 else a7.2.2.1!=a8) (re (Qe [Qd [str [],str [],str [],Qb,Qb,str [],Qb,Qb,str [],ai 0,
  ai 0,str [],str [],Qb,Qb,Qb,str [],ai 0,ai 0,str [],str [],Qb,str []],kb Q4]) []) (Qc (ip a9) (br (!a10.2) (re (Qe [Qd [str [],str [],str [],Qb,Qb,str [],Qb,Qb,str [],ai 0,
  ai 0,str [],str [],Qb,Qb,Qb,str [],ai 0,ai 0,str [],str [],Qb,str []],kb Q4]) []) (re (Qe [Qd [str [100,114,111,112],str a7.1,str [],Qb,Qb,str [],Qb,Qb,str [],
  ai 0,ai 0,str [],str [],Qb,Qb,Qb,str [],ai 0,ai 0,str [],str [],Qb,str []],kb Q3]) [])))))) (Qc (dJ a4 [73,78,83,69,82,84]) (br a11.1 (Qc (aV a12 [73,78,84,79]) (Qc (bn a14) (Qc (aV a16 [86,65,76,85,69,83]) (Qc (aV a18 [40]) (Q9
  (NH.h17 (xq x0).1 ([],[],[],[],[],0,0,[],[],[],0,0,[],[],[],()) (bG a18 [40]) ([105,110,115,101,114,116],a15.1,[],[],[],0,0,[],[],[],0,0,[],[],[],()))))))) (Qc (dJ a12 [85,80,68,65,84,69]) (br a19.1 (Qc (bn a20) (Qc (aV a22 [83,69,84]) (Q9
  (NH.h25 (xq x0).1 ([],[],[],[],[],0,0,[],[],[],0,0,[],[],[],()) (bG a22 [83,69,84]) ([117,112,100,97,116,101],a21.1,[],[],[],0,0,[],[],[],0,0,[],[],[],()))))) (Qc (dJ a20 [68,69,76,69,84,69]) (br a23.1 (Qc (aV a24 [70,82,79,77]) (Qc (bn a26) (Qc (dC a28 [87,72,69,82,69])
  (br (bif !a29.2.2.2.1 then Q3 else a29.2.2.1!=a8) (re (Qe [Qd [str [],str [],str [],Qb,Qb,str [],Qb,Qb,str [],ai 0,ai 0,str [],str [],Qb,Qb,Qb,str [],ai 0,ai 0,str [],str [],Qb,str []],kb Q4]) []) (Qc (ip a30) (br (!a31.2)
  (re (Qe [Qd [str [],str [],str [],Qb,Qb,str [],Qb,Qb,str [],ai 0,ai 0,str [],str [],Qb,Qb,Qb,str [],ai 0,ai 0,str [],str [],Qb,str []],kb Q4]) []) (re (Qe [Qd
  [str [100,101,108,101,116,101],str a27.1,str [],Qb,Qb,str [],Qb,Qb,str [],ai 0,ai 0,str [],str [],Qb,Qb,Qb,str (ze.op a29.1),ai (ze.v a29.1).1,ai (ze.v a29.1).2.1,str (ze.v a29.1).2.2,str (ze.s a29.1),sl Q5 (ze.l a29.1),str []],
  kb Q3]) []))))))) (Qc (dJ a24 [83,69,76,69,67,84]) (br a32.1 (Qc (aV a33 [42]) (Qc (aV a35 [70,82,79,77]) (Qc (bn a37) (Qc (dC a39 [87,72,69,82,69]) (br (bif !a40.2.2.2.1 then Q3 else a40.2.2.1!=a8) (re (Qe [Qd
  [str [],str [],str [],Qb,Qb,str [],Qb,Qb,str [],ai 0,ai 0,str [],str [],Qb,Qb,Qb,str [],ai 0,ai 0,str [],str [],Qb,str []],kb Q4]) []) (Qc (ip a41) (br (!a42.2) (re (Qe [Qd
  [str [],str [],str [],Qb,Qb,str [],Qb,Qb,str [],ai 0,ai 0,str [],str [],Qb,Qb,Qb,str [],ai 0,ai 0,str [],str [],Qb,str []],kb Q4]) []) (re (Qe [Qd
  [str [115,101,108,101,99,116],str a38.1,str [],Qb,Qb,str [],Qb,Qb,str [],ai 0,ai 0,str [],str [],Qb,Qb,Qb,str (ze.op a40.1),ai (ze.v a40.1).1,ai (ze.v a40.1).2.1,str (ze.v a40.1).2.2,str (ze.s a40.1),sl Q5 (ze.l a40.1),str []],
  kb Q3]) [])))))))) (Qc (dJ a33 [71,82,65,78,84]) (br a43.1 (Qc (GJ a44 [82,69,65,68]) (br a45.1 Tr.err Tr.err)) (Qc (dJ a44 [82,69,86,79,75,69]) (br a46.1 (Qc (GJ a47 [82,69,65,68]) (br a48.1 Tr.err Tr.err)) (Qc (dJ a47 [77,73,71,82,65,84,69]) (br a49.1
  (Qc (Tl a50 ([],[],[],[],[],0,0,[],[],[],0,0,[],[],[],())) (br (bif !a51.1.2.2.1 then Q3 else a51.1.2.1!=a8) (re (Qe [Qd [str [],str [],str [],Qb,Qb,str [],Qb,Qb,str [],ai 0,ai 0,str [],str [],Qb,Qb,Qb,str [],
  ai 0,ai 0,str [],str [],Qb,str []],kb Q4]) []) (Qc (ip a52) (br (!a53.2) (re (Qe [Qd [str [],str [],str [],Qb,Qb,str [],Qb,Qb,str [],ai 0,ai 0,str [],str [],Qb,Qb,Qb,
  str [],ai 0,ai 0,str [],str [],Qb,str []],kb Q4]) []) (re (Qe [Qd [str a51.2.1,str a51.2.2.1,str a51.2.2.2.1,AV.vec 0,Qb,str a51.t.2.1,Qb,Qb,str (ze.op a51.t.q.1),ai (ze.v a51.t.q.1).1,ai (ze.v a51.t.q.1).2.1,
  str (ze.v a51.t.q.1).2.2,str (ze.s a51.t.q.1),sl Q5 (ze.l a51.t.q.1),Qb,Qb,str a51.t.q.2.1,ai a51.t.t.1,ai a51.t.t.2.1,str a51.t.t.q.1,str a51.t.t.q.2.1,Qb,str a51.t.t.t.1],kb Q3])
  [AO.vec Q6 a51.t.1]))))) (br (bif !a49.2.2.2.1 then Q3 else a49.2.2.1!=a8) (re (Qe [Qd [str [],str [],str [],Qb,Qb,str [],Qb,Qb,str [],ai 0,ai 0,str [],str [],Qb,Qb,Qb,str [],ai 0,ai 0,str [],str [],Qb,str []],kb Q4]) [])
  (Qc Q3 (br Q3 (re (Qe [Qd [str [],str [],str [],Qb,Qb,str [],Qb,Qb,str [],ai 0,ai 0,str [],str [],Qb,Qb,Qb,str [],ai 0,ai 0,str [],str [],Qb,str []],kb Q4]) []) (re (Qe [Qd
  [str [],str [],str [],Qb,Qb,str [],Qb,Qb,str [],ai 0,ai 0,str [],str [],Qb,Qb,Qb,str [],ai 0,ai 0,str [],str [],Qb,str []],kb Q3]) [])))))))))))))))))))))))
def zlD:NH->Tr (NH⊕aw)
 | .h17 l4 _ z1 z2=>
  let a0:=(z1.1,z1.2.1,z1.2.2.1,())
  let a1:=bG a0 [41]
  let a2:=(z2.1,z2.2.1,z2.2.2.1,[],[],z2.2.2.2.1,[],[],ze.mk z2.t.1 (z2.t.2.1,z2.t.q.1,z2.t.q.2.1) z2.t.t.1 [],[],[],ze.mk z2.t.t.2.1 (z2.t.t.q.1,z2.t.t.q.2.1,z2.t.t.t.1) z2.t.t.t.2.1 [],z2.t.t.t.q.1)
  let a3:=kK a2
  br z1.2.2.1 Tr.err
  (Qc (aV a0 [41])
   (br (bif !a1.2.2.1 then Q3 else a1.2.1!=(↑l4.length:Int)) (re (Qe [Qd [str [],str [],str [],Qb,Qb,str [],Qb,Qb,str [],ai 0,ai 0,str [],str [],Qb,Qb,Qb,str [],ai 0,ai 0,str [],str [],Qb,str []],kb Q4]) []) (Qc (ip a2)
   (br (!a3.2) (re (Qe [Qd [str [],str [],str [],Qb,Qb,str [],Qb,Qb,str [],ai 0,ai 0,str [],str [],Qb,Qb,Qb,str [],ai 0,ai 0,str [],str [],Qb,str []],kb Q4]) []) (re (Qe [Qd
   [str z2.1,str z2.2.1,str z2.2.2.1,Qb,Qb,str z2.2.2.2.1,Qb,Qb,str z2.t.1,ai z2.t.2.1,ai z2.t.q.1,str z2.t.q.2.1,str z2.t.t.1,Qb,Qb,Qb,str z2.t.t.2.1,ai z2.t.t.q.1,
   ai z2.t.t.q.2.1,str z2.t.t.t.1,str z2.t.t.t.2.1,Qb,str z2.t.t.t.q.1],kb Q3]) [])))))
 | .h25 l4 _ z1 z2=>
  let a0:=(z1.1,z1.2.1,z1.2.2.1,())
  let a1:=bM a0
  let a2:=eD a0 [87,72,69,82,69]
  let a3:=(z2.1,z2.2.1,z2.2.2.1,[],[],z2.2.2.2.1,[],[],ze.mk z2.t.1 (z2.t.2.1,z2.t.q.1,z2.t.q.2.1) z2.t.t.1 [],[],[],zm a2.1,z2.t.t.t.q.1)
  let a4:=kK a3
  br z1.2.2.1 (Qc (bn a0) (Qc (aV (a1.2.1,a1.2.2.1,a1.2.2.2.1,()) [61]) Tr.err))
  (Qc (dC a0 [87,72,69,82,69])
   (br (bif !a2.2.2.2.1 then Q3 else a2.2.2.1!=(↑l4.length:Int)) (re (Qe [Qd [str [],str [],str [],Qb,Qb,str [],Qb,Qb,str [],ai 0,ai 0,str [],str [],Qb,Qb,Qb,str [],ai 0,ai 0,str [],str [],Qb,str []],kb Q4]) []) (Qc (ip a3)
   (br (!a4.2) (re (Qe [Qd [str [],str [],str [],Qb,Qb,str [],Qb,Qb,str [],ai 0,ai 0,str [],str [],Qb,Qb,Qb,str [],ai 0,ai 0,str [],str [],Qb,str []],kb Q4]) []) (re (Qe [Qd
   [str z2.1,str z2.2.1,str z2.2.2.1,Qb,Qb,str z2.2.2.2.1,Qb,Qb,str z2.t.1,ai z2.t.2.1,ai z2.t.q.1,str z2.t.q.2.1,str z2.t.t.1,Qb,Qb,Qb,str (ze.op a2.1),ai (ze.v a2.1).1,ai (ze.v a2.1).2.1,
   str (ze.v a2.1).2.2,str (ze.s a2.1),sl Q5 (ze.l a2.1),str z2.t.t.t.q.1],kb Q3]) [])))))
def B1(x0:TS):=al [zk,Q7] zlD 100000000 (zk5 x0)
def Tj(x0:TS):=(B1 x0).isSome
def cC(x0:TS):=o2 (B1 x0)
def zd5:=FT [Q6] [zk,Q7] λx=>B1 x.1
theorem zap:FK 51 zd5:=Ec.T1 (f:=Tryz.f51) (keep:=zhj) (e:=zjS)
def Yd:=Yc.add 51 zd5
theorem Ed:zw Yd:=Ec.add zap
def zk1(x0:TS):Tr (Empty⊕aw):=
 Qc (Tj x0)
 (re
  (Qd [str (cC x0).1.1,str (cC x0).1.2.1,str (cC x0).1.2.2.1,sl Q6 (cC x0).1.2.2.2.1,sl zj (cC x0).1.t.1,str (cC x0).1.t.2.1,sl Q6 (cC x0).1.t.q.1,sl (Sh.str.pr Q6) (cC x0).1.t.q.2.1,str (ze.op (cC x0).1.t.t.1),
  ai (ze.v (cC x0).1.t.t.1).1,ai (ze.v (cC x0).1.t.t.1).2.1,str (ze.v (cC x0).1.t.t.1).2.2,str (ze.s (cC x0).1.t.t.1),sl Q5 (ze.l (cC x0).1.t.t.1),sl zf (cC x0).1.t.t.2.1,sl (Sh.str.pr Q5) (cC x0).1.t.t.q.1,
  str (ze.op (cC x0).1.t.t.q.2.1),ai (ze.v (cC x0).1.t.t.q.2.1).1,ai (ze.v (cC x0).1.t.t.q.2.1).2.1,str (ze.v (cC x0).1.t.t.q.2.1).2.2,str (ze.s (cC x0).1.t.t.q.2.1),sl Q5 (ze.l (cC x0).1.t.t.q.2.1),
  str (cC x0).1.t.t.t])
  [])
def zhx(x0:TS):=al [zk] t0 100000000 (zk1 x0)
def zdz:=FT [Q6] [zk] λx=>zhx x.1
theorem ZO:FK 28 zdz:=Ed.T1 (f:=Tryz.f28) (keep:=k0) (e:=e0)
def Ye:=Yd.add 28 zdz
theorem j5:zw Ye:=Ed.add ZO
def Yx(x0:Sem zf)(x1:Sem zf):Tr (Empty⊕aw):=
 let a0:=x0.1==x1.1&&(x0.2.1==x1.2.1&&(x0.2.2==x1.2.2&&Q3))
 let a1:=aU a0
 Qc (mq x0 x1)
 (br (qe x0 x1) (re (Qd [ai 0,ai 0,str []]) [])
  (Qc (kI a0) (re (Qd [ai a1.1,ai a1.2.1,str a1.2.2]) [])))
def o8(x0:Sem zf)(x1:Sem zf):=al [zf] t0 100000000 (Yx x0 x1)
def tR(x0:Sem zf)(x1:Sem zf):=(o8 x0 x1).isSome
def qc(x0:Sem zf)(x1:Sem zf):=o1 (o8 x0 x1)
def Xw:=FT [zf,zf] [zf] λx=>o8 x.1 x.2.1
theorem UH:FK 214 Xw:=j5.T1 (f:=Tryz.f214) (keep:=k0) (e:=e0)
def Yy(x0:Sem zf)(x1:Sem zf):Tr (Empty⊕aw):=
 let a0:=Op.bytesLess x0.2.2 x1.2.2
 let a1:=aU a0
 Qc (mq x0 x1)
 (br (qe x0 x1) (re (Qd [ai 0,ai 0,str []]) [])
  (br (Q0 (x0.2.1<x1.2.1)) (Qc Q3 (re (Qd [ai (aU Q3).1,ai (aU Q3).2.1,str (aU Q3).2.2]) [])) (Qc (kI a0) (re (Qd [ai a1.1,ai a1.2.1,str a1.2.2]) []))))
def tS(x0:Sem zf)(x1:Sem zf):=al [zf] t0 100000000 (Yy x0 x1)
def yk(x0:Sem zf)(x1:Sem zf):=(tS x0 x1).isSome
def wh(x0:Sem zf)(x1:Sem zf):=o1 (tS x0 x1)
def Xx:=FT [zf,zf] [zf] λx=>tS x.1 x.2.1
theorem UI:FK 215 Xx:=j5.T1 (f:=Tryz.f215) (keep:=k0) (e:=e0)
def Yz(x0:Sem zf)(x1:Sem zf):Tr (Empty⊕aw):=
 let a0:=IntKind.i64.wrap (9223372036854775807-x1.2.1)
 let a1:=IntKind.i64.wrap (-9223372036854775808-x1.2.1)
 let a2:=bif Q0 (x1.2.1<0)then Q0 (x0.2.1<a1)else Q4
 Qc (mq x0 x1)
 (br (bif qe x0 x1 then Q3 else x0.1!=1) (re (Qd [ai 0,ai 0,str []]) [])
  (br (bif Q0 (x1.2.1>0)then bif Q0 (x0.2.1>a0)then Q3 else a2 else a2) (re (Qd [ai 0,ai 0,str []]) []) (re (Qd [ai 1,ai (IntKind.i64.wrap (x0.2.1+x1.2.1)),str []]) [])))
def tV(x0:Sem zf)(x1:Sem zf):=al [zf] t0 100000000 (Yz x0 x1)
def yl(x0:Sem zf)(x1:Sem zf):=(tV x0 x1).isSome
def wi(x0:Sem zf)(x1:Sem zf):=o1 (tV x0 x1)
def Xy:=FT [zf,zf] [zf] λx=>tV x.1 x.2.1
theorem UJ:FK 216 Xy:=j5.T1 (f:=Tryz.f216) (keep:=k0) (e:=e0)
def YA(x0:Sem zf)(x1:Sem zf):Tr (Empty⊕aw):=
 let a0:=IntKind.i64.wrap (-9223372036854775808+x1.2.1)
 let a1:=IntKind.i64.wrap (9223372036854775807+x1.2.1)
 let a2:=bif Q0 (x1.2.1<0)then Q0 (x0.2.1>a1)else Q4
 Qc (mq x0 x1)
 (br (bif qe x0 x1 then Q3 else x0.1!=1) (re (Qd [ai 0,ai 0,str []]) [])
  (br (bif Q0 (x1.2.1>0)then bif Q0 (x0.2.1<a0)then Q3 else a2 else a2) (re (Qd [ai 0,ai 0,str []]) []) (re (Qd [ai 1,ai (IntKind.i64.wrap (x0.2.1-x1.2.1)),str []]) [])))
def pb(x0:Sem zf)(x1:Sem zf):=al [zf] t0 100000000 (YA x0 x1)
def tT(x0:Sem zf)(x1:Sem zf):=(pb x0 x1).isSome
def qd(x0:Sem zf)(x1:Sem zf):=o1 (pb x0 x1)
def Xz:=FT [zf,zf] [zf] λx=>pb x.1 x.2.1
theorem UK:FK 217 Xz:=j5.T1 (f:=Tryz.f217) (keep:=k0) (e:=e0)
def Ym(x0:Sem Q5)(x1:Sem zj.sl):Tr (Empty⊕aw):=
 br (ze.op x0==[])
 (Qc (gy (zm x0) (ze.mk [] (0,0,[]) [] []))
  (br (!eT (zm x0) (ze.mk [] (0,0,[]) [] [])) (re (ai 1) []) (re (ai 0) [])))
 (Qc (wj (zm x0))
  (br (!EP (zm x0)) (re (ai 1) []) (Qc (nr (zm x0) x1) (br ((il (zm x0) x1).2!=0) (re (ai (il (zm x0) x1).2) []) (br (bif (il (zm x0) x1).1!=0 then(il (zm x0) x1).1!=3 else Q4) (re (ai 5) []) (re (ai 0) []))))))
def pi(x0:Sem Q5)(x1:Sem zj.sl):=al [zg] t0 100000000 (Ym x0 x1)
def BP(x0:Sem Q5)(x1:Sem zj.sl):=(pi x0 x1).isSome
def Gq(x0:Sem Q5)(x1:Sem zj.sl):=o1 (pi x0 x1)
def WT:=FT [Q5,zj.sl] [zg] λx=>pi x.1 x.2.1
theorem T6:FK 172 WT:=j5.T1 (f:=Tryz.f172) (keep:=k0) (e:=e0)
def Fy:=Ye.addL [(214,Xw),(215,Xx),(216,Xy),(217,Xz),(172,WT)]
theorem rU:zw Fy:=j5.addL<|fc UH<|fc UI<|fc UJ<|fc UK<|fc T6 jm
open Go
theorem HQ{n b0 b1 b2 b3:Nat}(h:b0<128):Lib.decodeN n b0 b1 b2 b3=(b0,1):=by
 unfold Lib.decodeN;rw[if_pos h]
theorem Fo{n b0 b1 b2 b3:Nat}(h:¬b0<128):128<=(Lib.decodeN n b0 b1 b2 b3).1:=by
 unfold Lib.decodeN;rw[if_neg h];repeat' split
 all_goals(simp only;omega)
theorem IU{p:Nat->Bool}(hp:∀c:Nat,p c=Q3↔(c<32\/c>126))(s:List UInt8):∀(f pos:Nat),s.length<=pos+f->(Lib.idxFuncFrom p Q3 ⟨s.toArray⟩ f pos<0↔∀(i:Nat)(h:i<s.length),pos<=i->32<=s[i].toNat/\s[i].toNat<=126)
 | 0,pos,h=>by
  simp only[Lib.idxFuncFrom];exact⟨λ_ i hi hpi=>absurd hi (by omega),λ_=>by decide⟩
 | f + 1,pos,h=>by
  have hsz:(⟨s.toArray⟩:ByteArray).size=s.length:=by simp[ByteArray.size]
  rw[Lib.idxFuncFrom,hsz];by_cases hlt:pos<s.length
  ·have hb:((⟨s.toArray⟩:ByteArray).get! pos)=s[pos]:=by
    simp[ByteArray.get!,hlt]
   rw[if_pos hlt,Lib.decode_at,hb];by_cases h8:s[pos].toNat<128
   ·rw[HQ h8];simp only;by_cases ho:p s[pos].toNat=Q3
    ·rw[if_pos ho];have:=(hp _).1 ho;exact⟨λh=>absurd h (by omega),λh=>by have:=h pos hlt (aB _);omega⟩
    ·rw[if_neg ho,IU hp s f (pos+1) (by omega)];have hn:¬(s[pos].toNat<32\/s[pos].toNat>126):=λh=>ho ((hp _).2 h)
     refine⟨λh i hi hpi=>?_,λh i hi hpi=>h i hi (by omega)⟩;by_cases e:i=pos
     ·subst e;omega
     ·exact h i hi (by omega)
   ·have hh:=Fo (n:=(⟨s.toArray⟩:ByteArray).size-pos) (b1:=((⟨s.toArray⟩:ByteArray).get! (pos+1)).toNat) (b2:=((⟨s.toArray⟩:ByteArray).get! (pos+2)).toNat) (b3:=((⟨s.toArray⟩:ByteArray).get! (pos+3)).toNat) h8;rw[if_pos ((hp _).2 (by omega))];exact⟨λh=>absurd h (by omega),λh=>by have:=h pos hlt (aB _);omega⟩
  ·rw[if_neg hlt];exact⟨λ_ i hi hpi=>absurd hi (by omega),λ_=>by decide⟩
theorem Sr{p:Nat->Bool}(hp:∀c:Nat,p c=Q3↔(c<32\/c>126))(s:List UInt8):Lib.idxFunc p Q3 ⟨s.toArray⟩<0↔∀b∈s,32<=b.toNat/\b.toNat<=126:=by
 have hsz:(⟨s.toArray⟩:ByteArray).size=s.length:=by simp[ByteArray.size]
 unfold Lib.idxFunc;rw[IU hp s _ 0 (by omega)];constructor
 ·intro h b hb;obtain⟨i,hi,rfl⟩:=gL hb;exact h i hi (bd _)
 ·intro h i hi _;exact h _ (bq hi)
theorem gi{c g:Bool}(h1:c=Q3)(h2:g=Q3):(if c=Q3 then g else Q4)=Q3:=by rw[if_pos h1];exact h2
theorem eb{a b:Nat}(h:a<=b):Q0 (a<=b)=Q3:=zt h
theorem E8{v:Sem zf}(h:aW v=Q3)(h2:(v.1==2)=Q3):v.2.2.length<=40:=by
 have e:v.1=2:=by simpa using h2
 unfold aW at h;rw[e]at h;simp only[show((2:Int)==0)=Q4 from rfl,show((2:Int)==1)=Q4 from rfl,show((2:Int)==2)=Q3 from rfl,zG,if_false,if_true]at h;cases h1:v.2.1==0
 ·rw[h1]at h;simp at h
 ·rw[h1]at h;cases h3:Q0 ((v.2.2.length:Int)<=40)
  ·rw[h3]at h;simp at h
  ·have:=lg h3;omega
theorem JT(v:Sem zf):wD v=Q3:=by
 unfold wD;split
 ·rfl
 ·rename_i hm;have hm:aW v=Q3:=by simpa using hm
  split
  ·rfl
  ·split
   ·rename_i h2;have hl:=E8 hm h2;have hr:=kM v.2.2 [39] [39,39];have hr2:(Lib.replaceAll v.2.2 [39] [39,39]).length<=200:=by
     simp only[eZ,nJ]at hr;omega
    refine gi ?_ (gi (eb ?_) (gi (eb ?_) rfl))
    ·unfold uo;simp;omega
    ·simp;omega
    ·simp;omega
   ·rfl
theorem wE(v:Sem zf):(gW v).length<=300:=by
 unfold gW;split
 ·simp
 ·rename_i hm;have hm:aW v=Q3:=by simpa using hm
  split
  ·have:=Et v.2.1;omega
  ·split
   ·rename_i h2;have hl:=E8 hm h2;have hr:=kM v.2.2 [39] [39,39];simp only[eZ,nJ]at hr;simp;omega
   ·split
    ·split<;>simp
    ·simp
theorem Fc{s:zB}(h:dP s=Q3):s.length<=16:=by
 have h:pB s=Q3:=h;unfold pB at h;by_cases h2:(s.length:Int)<=16
 ·omega
 ·exfalso;rw[af h2]at h;cases h1:Q0 ((s.length:Int)>=1)<;>rw[h1]at h<;>simp at h
theorem Sf{g:ze->Int->Int->Bool×Int}{e:ze}{d n:Int}(h:(xH g e d n).1=Q3)(hc:e.op=[99,111,108]):e.s.length<=16:=by
 unfold xH at h;split at h
 ·cases h
 ·split at h
  ·rename_i h1;rw[hc]at h1;simp at h1
  ·split at h
   ·cases h1:aY e.v
    ·rw[h1]at h;simp at h
    ·rw[h1]at h;cases h2:dP e.s
     ·rw[h2]at h;simp at h
     ·exact Fc h2
   ·rename_i h1;rw[hc]at h1;simp at h1
theorem Hf(s:zB):(Lib.toUpperA s).length=s.length:=by simp[Lib.toUpperA]
theorem Aw:∀(N:Nat)(e:ze)(d n:Int),N<=16->(gX N e d n).1=Q3->gu N e=Q3/\(aO N e).length<=400*2^N-100
 |0,_,_,_,_,h=>by cases h
 | N + 1,e,d,n,hN,h=>by
  rw[gX]at h;obtain⟨hl,h2⟩:=vX h;have hp:2^N<=2^15:=Dx ow ow;have hp1:1<=2^N:=Nat.one_le_two_pow;have hpp:2^(N+1)=2*2^N:=by rw[Ah];omega
  have hparts:∀x∈e.l,gu N x=Q3/\(aO N x).length<=400*2^N-100:=by
   intro x hx;rcases h2 with h2|h2
   ·exfalso;have:cK e.op=0:=by
     rcases h2 with h2|h2<;>rw[h2]<;>decide
    rw[this]at hl;have:e.l=[]:=xD ow;rw[this]at hx;simp at hx
   ·obtain⟨m,hm⟩:=tI e.l _ h2 x hx;exact Aw N x _ _ ow hm
  have hget:∀i,i<e.l.length->e.l.getD i (zi Q5)∈e.l:=by
   intro i hi;rw[ba,zR hi];exact bq hi
  rw[gu,aO];unfold xU rT;rcases ly e.op with⟨hp0,hop|hop⟩|⟨hp0,hop|hop⟩|⟨hp0,hop⟩|hp0
  ·rw[hop];simp only[beq_self_eq_true,if_true];refine⟨gi (JT _) rfl,?_⟩;have:=wE e.v;omega
  ·have hs:=Sf h hop;rw[hop];refine⟨rfl,?_⟩;show e.s.length<=_;omega
  ·rw[hp0]at hl;have hlen:e.l.length=1:=by omega
   obtain⟨k1,k2⟩:=hparts _ (hget 0 ow);rw[hop];refine⟨gi ?_ (gi k1 (gi (eb ?_) (gi (eb ?_) rfl))),?_⟩
   ·simp[zM,hlen]
   ·simp at k2⊢;omega
   ·simp at k2⊢;omega
   ·show([40,78,79,84,32]++aO N (e.l.getD 0 (zi Q5))++[41]).length<=_;simp at k2⊢;omega
  ·rw[hp0]at hl;have hlen:e.l.length=1:=by omega
   obtain⟨k1,k2⟩:=hparts _ (hget 0 ow);rw[hop];refine⟨gi ?_ (gi k1 (gi (eb ?_) (gi (eb ?_) rfl))),?_⟩
   ·simp[zM,hlen]
   ·simp at k2⊢;omega
   ·simp at k2⊢;omega
   ·show([40]++aO N (e.l.getD 0 (zi Q5))++[32,73,83,32,78,85,76,76,41]).length<=_;simp at k2⊢;omega
  ·rw[hp0]at hl;have hlen:e.l.length=2:=by omega
   obtain⟨k1,k2⟩:=hparts _ (hget 0 ow);obtain⟨k3,k4⟩:=hparts _ (hget 1 ow);have hu:(Q0 (e.op.length<=140737488355328)&&e.op.all λb=>Q0 (b.toNat<128))=Q3:=by
    rcases hop with hop|hop|hop|hop|hop|hop<;>rw[hop]<;>decide
   have hol:e.op.length<=3:=by
    rcases hop with hop|hop|hop|hop|hop|hop<;>rw[hop]<;>simp
   have hul:=Hf e.op;have n1:(e.op==[108,105,116])=Q4:=by rcases hop with hop|hop|hop|hop|hop|hop<;>rw[hop]<;>rfl
   have n2:(e.op==[99,111,108])=Q4:=by rcases hop with hop|hop|hop|hop|hop|hop<;>rw[hop]<;>rfl
   have n3:(e.op==[110,111,116])=Q4:=by rcases hop with hop|hop|hop|hop|hop|hop<;>rw[hop]<;>rfl
   have n4:(e.op==[110,117,108,108])=Q4:=by rcases hop with hop|hop|hop|hop|hop|hop<;>rw[hop]<;>rfl
   simp only[n1,n2,n3,n4,zG,if_false];refine⟨gi ?_ (gi k1 (gi (eb ?_) (gi (eb ?_) (gi hu (gi (eb ?_) (gi (eb ?_) (gi ?_ (gi k3 (gi (eb ?_) (gi (eb ?_) rfl)))))))))),?_⟩
   ·simp[zM,hlen]
   all_goals first
    |(simp[zM,hlen];done)
    |(simp at k2 k4⊢;omega)
  ·rw[hp0]at hl;omega
theorem FJ(e:ze):pN e=Q3:=by
 unfold pN;split
 ·rfl
 ·rename_i h;exact gi (Aw 16 e 1 0 ow (by simpa[cY]using h)).1 rfl
theorem Kz(e:ze):(mY e).1.length<=30000000:=by
 unfold mY;split
 ·simp
 ·rename_i h;have:=(Aw 16 e 1 0 ow (by simpa[cY]using h)).2;show(aO 16 e).length<=_;omega
theorem ye(p:Int->Bool):∀s:zB,cG p s<=s.length
 |[]=>by simp[cG]
 | c::r=>by
  have:=ye p r;rw[cG];split<;>simp<;>omega
theorem qC(f m:Int->Bool)(s:zB):aK f m s<=s.length:=by
 cases s with
 |nil=>simp[aK]
 | cons c r=>
  have:=ye m r;rw[aK];split<;>simp<;>omega
theorem TU(i:Nat)(h:i<=4000000000):IntKind.i64.wrap (i:Int)=(i:Int):=by
 have:=zp (i-1) um;cases i with
 |zero=>rfl
 |succ i=>simpa using this
theorem pC(i:Nat)(h:i<=4000000000):IntKind.i64.wrap ((i:Int)+1)=((i+1:Nat):Int):=zp i um
theorem nv:∀(n:Nat)(s:zB)(i:Nat)(a:Int)(b:zB),1<=i->i<=s.length->s.length+2<=n+i->s.length<=1000000000->iQ n s (i:Int) a b=Q3
 |0,s,i,a,b,h1,h2,h3,h4=>by omega
 | n + 1,s,i,a,b,h1,h2,h3,h4=>by
  rw[iQ];split
  ·rename_i hlt;have hlt:i<s.length:=by have:=lg hlt;omega
   refine gi (zu hlt) ?_;rw[pC i ow];split
   ·exact nv n s (i+1) a b ow ow ow h4
   ·refine gi ?_ ?_
    ·cases hd:Q0 (((i+1:Nat):Int)<(s.length:Int))
     ·rfl
     ·exact zu (by have:=lg hd;omega)
    ·split
     ·rename_i hh;have h5:i+1<s.length:=by
       cases hd:Q0 (((i+1:Nat):Int)<(s.length:Int))
       ·rw[hd]at hh;simp at hh
       ·have:=lg hd;omega
      rw[pC (i+1) ow];exact nv n s (i+1+1) a b ow ow ow h4
     ·refine gi ?_ (gi ?_ rfl)
      ·simp;omega
      ·unfold uo;simp;omega
  ·rfl
theorem sB:∀(n:Nat)(s:zB)(i:Nat)(a:Int)(b:zB),1<=i->i<=s.length->s.length+2<=n+i->s.length<=1000000000->
  (eL n s (i:Int) a b=((0,[]),0))\/∃k:Nat,(eL n s (i:Int) a b).2=(k:Int)/\1<=k/\k<=s.length
 |0,s,i,a,b,h1,h2,h3,h4=>by omega
 | n + 1,s,i,a,b,h1,h2,h3,h4=>by
  rw[eL];split
  ·rename_i hlt;have hlt:i<s.length:=by have:=lg hlt;omega
   rw[pC i ow];split
   ·exact sB n s (i+1) a b ow ow ow h4
   ·split
    ·rename_i hh;have h5:i+1<s.length:=by
      cases hd:Q0 (((i+1:Nat):Int)<(s.length:Int))
      ·rw[hd]at hh;simp at hh
      ·have:=lg hd;omega
     rw[pC (i+1) ow];exact sB n s (i+1+1) a b ow ow ow h4
    ·exact .inr ⟨i+1,rfl,ow,ow⟩
  ·exact .inl rfl
theorem Hg(t:Sem bW):qJ t=Q3:=by
 unfold qJ;split
 ·rfl
 ·split
  ·refine gi ?_ rfl;cases h:((t.2.length:Int)==1)
   ·rfl
   ·have:(t.2.length:Int)=1:=by simpa using h
    simp only[ay,aZ];omega
  ·simp
theorem CK(s:zB)(h0:s≠[])(h1:s.length<=1000000000):kc s=Q3:=by
 have hl:1<=s.length:=by cases s with|nil=>exact absurd rfl h0|cons _ _=>simp
 have r1:=qC aH bt s;have r2:=qC zU zU s;have hq:jR s=Q3:=nv (s.length+1) s 1 _ _ ow hl ow h1;have hb:zM 0 s.length=Q3:=zu hl;have d1:(Q0 ((0:Int)<=0)&&Q0 (0<=(↑(aK aH bt s):Int))&&Q0 ((↑(aK aH bt s):Int)<=(↑(length s):Int)))=Q3:=by simp;omega
 have d2:(Q0 ((0:Int)<=0)&&Q0 (0<=(↑(aK zU zU s):Int))&&Q0 ((↑(aK zU zU s):Int)<=(↑(length s):Int)))=Q3:=by simp;omega
 have d3:(Q0 ((0:Int)<=0)&&Q0 ((0:Int)<=1)&&Q0 (1<=(↑(length s):Int)))=Q3:=by simp;omega
 unfold kc;simp only[hq,hb,if_true,zG,if_false];repeat' split
 all_goals first
  |rfl
  |(rename_i h;exfalso;apply h;simp;omega)
theorem uJ(s:zB)(h0:s≠[])(h1:s.length<=1000000000)(hm:bZ (bA s).1=Q3):∃k:Nat,(bA s).2=(k:Int)/\1<=k/\k<=s.length:=by
 have hl:1<=s.length:=by cases s with|nil=>exact absurd rfl h0|cons _ _=>simp
 have r1:=qC aH bt s;have r2:=qC zU zU s;have hq:=sB (s.length+1) s 1 0 [] ow hl ow h1;unfold bA at hm⊢;simp only[if_true,zG,if_false]at hm⊢;split
 ·rename_i h;have:=lg h;exact⟨_,rfl,ow,ow⟩
 ·rename_i h;rw[if_neg h]at hm;split
  ·rename_i h2;have:=lg h2;exact⟨_,rfl,ow,ow⟩
  ·rename_i h2;rw[if_neg h2]at hm;split
   ·rename_i h3;rw[if_pos h3]at hm;rcases hq with hq|⟨k,hk,hk1,hk2⟩
    ·exfalso;have hqq:dR s=((0,[]),0):=hq;rw[hqq]at hm;revert hm;decide
    ·exact⟨k,hk,hk1,hk2⟩
   ·exact⟨1,rfl,ow,ow⟩
theorem uY:∀(n:Nat)(s:zB)(i:Nat)(l:List (Sem zr)),i<=s.length->s.length+1<=n+i->s.length<=1000000000->l.length<=400->rQ n s (i:Int) l=true
 |0,s,i,l,h1,h2,h3,h4=>by omega
 | n + 1,s,i,l,h1,h2,h3,h4=>by
  rw[rQ];split
  ·rename_i hlt;have hlt:i<s.length:=by have:=lg hlt;omega
   have e1:Qg ((s.length:Int).toNat-(i:Int).toNat) (Qh (i:Int).toNat s)=s.drop i:=by
    simp only[aJ];exact L4 sw
   rw[e1];refine gi ?_ ?_
   ·rw[zu hlt];cases(((s.getD (i:Int).toNat 0).toNat:Int)==32)<;>rfl
   ·split
    ·rw[pC i ow];exact uY n s (i+1) l ow ow h3 h4
    ·have hne:s.drop i≠[]:=by
      intro h;have:=congrArg length h;simp at this;omega
     have hdl:(s.drop i).length<=1000000000:=by simp;omega
     refine gi ?_ (gi (CK _ hne hdl) (gi (Hg _) ?_))
     ·simp;omega
     ·split
      ·rfl
      ·rename_i hh;have hm:bZ (bA (s.drop i)).1=Q3:=by
        cases hq:bZ (bA (s.drop i)).1
        ·rw[hq]at hh;simp at hh
        ·rfl
       have hl4:l.length≠400:=by
        intro h5;rw[hm,h5]at hh;simp at hh
       obtain⟨k,hk,hk1,hk2⟩:=uJ _ hne hdl hm;have hk3:k<=s.length-i:=by simpa using hk2
       refine gi (eb ?_) ?_
       ·simp;omega
       ·rw[hk,show((i:Int)+(k:Int))=((i+k:Nat):Int) by omega,TU (i+k) ow];exact uY n s (i+k) _ ow ow h3 sg
  ·rfl
theorem P5(s:zB)(h:s.length<=1000000000):P4 s=Q3:=uY (s.length+1) s 0 [] ow ow h sw
structure lJ (s:Sem zk):Prop where
 op:s.1.length<=1000
 table:s.2.1.length<=1000
 other:s.2.2.1.length<=1000
 names:s.2.2.2.1.length<=20/\∀x∈s.2.2.2.1,length x<=1000
 cols:s.t.1.length<=20/\∀x∈s.t.1,length x.1<=1000
 key:s.t.2.1.length<=1000
 uniques:s.t.q.1.length<=20/\∀x∈s.t.q.1,length x<=1000
 refs:s.t.q.2.1.length<=20/\∀x∈s.t.q.2.1,length x.1<=1000/\length x.2<=1000
 row:s.t.t.2.1.length<=20
 sets:s.t.t.q.1.length<=20/\∀x∈s.t.t.q.1,length x.1<=1000
 role:s.t.t.t.length<=1000
theorem tE(sep:zB)(B:Nat):∀l:List zB,(∀x∈l,x.length<=B)->(Lib.join l sep).length<=l.length*(B+sep.length)
 |[],_=>by simp[Lib.join,List.intercalate]
 | [x],h=>by
  rw[Lib.join_one];have:=h x sw;simp;omega
 | x::y::r,h=>by
  have ih:=tE sep B (y::r) (λz hz=>h z (sL _ hz));have hx:=h x sw;have e:Lib.join (x::y::r) sep=x++sep++Lib.join (y::r) sep:=by simp[Lib.join,List.intercalate,List.intersperse]
  rw[e];simp only[jg,eZ]at ih⊢;rw[kg];omega
theorem oU{α:Type}(p:α->Bool):∀(l:List α)(i:Nat),(!Q0 (ae p l i>=0))=Q3->∀x∈l,p x=Q4
 |[],_,_,x,hx=>by simp at hx
 | y::r,i,h,x,hx=>by
  rw[ae]at h;cases hy:p y
  ·rw[hy]at h;rcases cj.1 hx with rfl|hx
   ·exact hy
   ·exact oU p r (i+1) (by simpa using h) x hx
  ·exfalso;rw[hy]at h;simp at h
   try omega
theorem Dm(e:ze):pD e=Q3:=gi (FJ e) rfl
theorem xB(e:ze):(iv e).length<=30000000:=Kz e
theorem mS(s:zB)(h:s.length<=10)(e:ze):sV s e=Q3:=by
 unfold sV;have:=xB e;split
 ·rfl
 ·refine gi (eb ?_) (gi (Dm e) (gi (eb ?_) (gi (eb ?_) rfl)))
  all_goals(simp;omega)
theorem rO(s:zB)(h:s.length<=10)(e:ze):(kj s e).length<=30000030:=by
 unfold kj;have:=xB e;split
 ·simp
 ·simp;omega
theorem pn:∀(l:List (Sem Q6))(i:Int)(acc:List zB),dz l i acc=Lib.join (acc++l.map lC) [32,44,32]
 |[],i,acc=>by simp[dz]
 |x::r,i,acc=>by rw[dz,pn r];simp
theorem GY(B:Nat)(l:List (Sem Q6))(h:∀x∈l,(lC x).length<=B):(gq l).length<=l.length*(B+3):=by
 unfold gq;rw[pn];have:=tE [32,44,32] B ([]++l.map lC) (λy hy=>by
  simp only[DC,bl]at hy;obtain⟨x,hx,rfl⟩:=hy;exact h x hx)
 simpa using this
theorem uC(B:Nat)(hB:B<=100000000):∀(l:List (Sem Q6))(i:Int)(acc:List zB),(∀x∈l,(lC x).length<=B)->(∀x∈acc,x.length<=B)->acc.length+l.length<=40->dN l i acc=Q3
 | [],i,acc,_,ha,hl=>by
  rw[dN];refine gi ?_ rfl;have h1:=tE [32,44,32] B acc ha;have h2:acc.length*(B+3)<=40*100000003:=DG (by simpa using hl) ow
  replace h1:(Lib.join acc [32,44,32]).length<=acc.length*(B+3):=h1
  simp only[aD,aP];simp at hl;exact⟨ow,ow⟩
 | x::r,i,acc,h,ha,hl=>by
  rw[dN];have hx:=h x sw;simp at hl;refine gi (eb ?_) ?_
  ·simp;omega
  ·refine uC B hB r (i+1) _ (λy hy=>h y (sL _ hy)) (λy hy=>?_) sg;rcases cN.1 hy with hy|hy
   ·exact ha y hy
   ·simp at hy;subst hy;exact hx
theorem ej{s:Sem zk}{g b:Bool}(hv:(tv s).val=if g=Q3 then some (.inr (.bool b,[]))else none):ux s=g/\eW s=(g&&b):=by
 unfold ux eW yJ al cU;rw[hv];cases g<;>cases b<;>exact⟨rfl,rfl⟩
theorem We{x:zB}(o:x=[99,111,112,121]):(x==[99,114,101,97,116,101])=Q4/\(x==[100,114,111,112])=Q4/\(x==[105,110,115,101,114,116])=Q4/\(x==[117,112,100,97,116,101])=Q4/\(x==[100,101,108,101,116,101])=Q4/\(x==[115,101,108,101,99,116])=Q4/\(x==[114,101,97,100])=Q4/\(x==[119,114,105,116,101])=Q4/\(x==[117,110,114,101,97,100])=Q4/\(x==[117,110,119,114,105,116,101])=Q4/\(x==[99,111,112,121])=Q3:=by rw[o];exact⟨rfl,rfl,rfl,rfl,rfl,rfl,rfl,rfl,rfl,rfl,rfl⟩
theorem Wf{x:zB}(o:x=[106,111,105,110]):(x==[99,114,101,97,116,101])=Q4/\(x==[100,114,111,112])=Q4/\(x==[105,110,115,101,114,116])=Q4/\(x==[117,112,100,97,116,101])=Q4/\(x==[100,101,108,101,116,101])=Q4/\(x==[115,101,108,101,99,116])=Q4/\(x==[114,101,97,100])=Q4/\(x==[119,114,105,116,101])=Q4/\(x==[117,110,114,101,97,100])=Q4/\(x==[117,110,119,114,105,116,101])=Q4/\(x==[99,111,112,121])=Q4/\(x==[106,111,105,110])=Q3:=by rw[o];exact⟨rfl,rfl,rfl,rfl,rfl,rfl,rfl,rfl,rfl,rfl,rfl,rfl⟩
theorem SN{x:zB}(o:x=[103,114,111,117,112]):(x==[99,114,101,97,116,101])=Q4/\(x==[100,114,111,112])=Q4/\(x==[105,110,115,101,114,116])=Q4/\(x==[117,112,100,97,116,101])=Q4/\(x==[100,101,108,101,116,101])=Q4/\(x==[115,101,108,101,99,116])=Q4/\(x==[114,101,97,100])=Q4/\(x==[119,114,105,116,101])=Q4/\(x==[117,110,114,101,97,100])=Q4/\(x==[117,110,119,114,105,116,101])=Q4/\(x==[99,111,112,121])=Q4/\(x==[106,111,105,110])=Q4/\(x==[103,114,111,117,112])=Q3:=by rw[o];exact⟨rfl,rfl,rfl,rfl,rfl,rfl,rfl,rfl,rfl,rfl,rfl,rfl,rfl⟩
abbrev jn(op:zB):Prop:=op=[99,111,112,121]\/op=[106,111,105,110]\/op=[103,114,111,117,112]
theorem fH{x:Sem zk}(h1:x.2.1.length<=1000)(h2:x.2.2.1.length<=1000)(h3:x.2.2.2.2.2.1.length<=1000)(h4:x.2.2.2.2.2.2.2.2.2.2.2.2.length<=1000):dX x=Q3:=by
 unfold dX;refine gi (eb ?_) (gi (eb ?_) (gi (eb ?_) rfl))
 all_goals first|omega|(simp;omega)
theorem Al{c g:Bool}(h:g=Q3):(bif c then g else Q3)=Q3:=by cases c<;>simp[h]
def tC(s:Sem zk):zB:=[77,73,71,82,65,84,69,32]++[67,79,80,89]++[32]++s.2.1++[32,70,82,79,77,32]++s.2.2.1++[32,40,32]++gq s.2.2.2.1++[32,41]++kj [32] s.t.t.1
def tJ(s:Sem zk):zB:=[77,73,71,82,65,84,69,32]++[74,79,73,78]++[32]++s.2.1++[32,70,82,79,77,32]++s.2.2.1++[32,44,32]++s.t.t.t++[32,79,78,32]++s.t.2.1++kj [32] s.t.t.1
def tG(s:Sem zk):zB:=[77,73,71,82,65,84,69,32]++[71,82,79,85,80]++[32]++s.2.1++[32,70,82,79,77,32]++s.2.2.1++[32,66,89,32]++s.2.2.2.1.getD 0 []++[32,83,85,77,32]++s.2.2.2.1.getD 1 []++kj [32] s.t.t.1
theorem Y2{s:Sem zk}(h:lJ s)(o:s.1=[99,111,112,121]):(xe s).val=some (.inr (.str (tC s),[]))/\(tC s).length<=1000000000:=by
 obtain⟨p0,p1,p2,p3,p4,p5,p6,p7,p8,p9,p10⟩:=We o;have hU:Lib.toUpperA s.1=[67,79,80,89]:=by rw[o];rfl
 have ha:(Q0 (length s.1<=140737488355328)&&List.all s.1 λb=>Q0 (b.toNat<128))=Q3:=by rw[o];decide
 have ht:=h.table;have ho:=h.other;have hr:=h.role;have hk:=h.key;have hcC:=mS [32] sw s.t.t.1;have hcl:=rO [32] sw s.t.t.1;have hsC:mF s.2.2.2.1=Q3:=uC 1000 ow s.2.2.2.1 0 [] h.names.2 sw (by have:=h.names.1;simp;omega);have hsl:=GY 1000 s.2.2.2.1 h.names.2;have hsl:(gq s.2.2.2.1).length<=20*1003:=cy hsl (DG h.names.1 ow);refine⟨?_,by unfold tC;simp only[jg,eZ,nJ];omega⟩;unfold tC;simp only[xe,Tr.val,zl,ha,hU,p0,p1,p2,p3,p4,p5,p6,p7,p8,p9,p10,hsC,hcC,if_true,zG,if_false]
 iterate 9 rw[if_pos (zt (by simp<;>omega))]
theorem Y4{s:Sem zk}(h:lJ s)(o:s.1=[106,111,105,110]):(xe s).val=some (.inr (.str (tJ s),[]))/\(tJ s).length<=1000000000:=by
 obtain⟨p0,p1,p2,p3,p4,p5,p6,p7,p8,p9,p10,p11⟩:=Wf o;have hU:Lib.toUpperA s.1=[74,79,73,78]:=by rw[o];rfl
 have ha:(Q0 (length s.1<=140737488355328)&&List.all s.1 λb=>Q0 (b.toNat<128))=Q3:=by rw[o];decide
 have ht:=h.table;have ho:=h.other;have hr:=h.role;have hk:=h.key;have hcC:=mS [32] sw s.t.t.1;have hcl:=rO [32] sw s.t.t.1;refine⟨?_,by unfold tJ;simp only[jg,eZ,nJ];omega⟩;unfold tJ;simp only[xe,Tr.val,zl,ha,hU,p0,p1,p2,p3,p4,p5,p6,p7,p8,p9,p10,p11,hcC,if_true,zG,if_false]
 iterate 10 rw[if_pos (zt (by simp<;>omega))]
theorem Y3{s:Sem zk}(h:lJ s)(o:s.1=[103,114,111,117,112])(hl:s.2.2.2.1.length=2):(xe s).val=some (.inr (.str (tG s),[]))/\(tG s).length<=1000000000:=by
 obtain⟨p0,p1,p2,p3,p4,p5,p6,p7,p8,p9,p10,p11,_⟩:=SN o;have hU:Lib.toUpperA s.1=[71,82,79,85,80]:=by rw[o];rfl
 have ha:(Q0 (length s.1<=140737488355328)&&List.all s.1 λb=>Q0 (b.toNat<128))=Q3:=by rw[o];decide
 have ht:=h.table;have ho:=h.other;have hr:=h.role;have hk:=h.key;have hcC:=mS [32] sw s.t.t.1;have hcl:=rO [32] sw s.t.t.1;have n0:(s.2.2.2.1.getD 0 []).length<=1000:=by
  rw[ba,zR ow,dq];exact h.names.2 _ (bq _)
 have n1:(s.2.2.2.1.getD 1 []).length<=1000:=by
  rw[ba,zR ow,dq];exact h.names.2 _ (bq _)
 have i0:zM 0 (length s.2.2.2.1)=Q3:=by rw[hl];rfl
 have i1:zM 1 (length s.2.2.2.1)=Q3:=by rw[hl];rfl
 have g0:getD s.2.2.2.1 (Int.toNat 0) (zi Q6)=s.2.2.2.1.getD 0 []:=rfl;have g1:getD s.2.2.2.1 (Int.toNat 1) (zi Q6)=s.2.2.2.1.getD 1 []:=rfl;refine⟨?_,by unfold tG;simp only[jg,eZ,nJ];omega⟩;unfold tG;simp only[xe,Tr.val,zl,ha,hU,p0,p1,p2,p3,p4,p5,p6,p7,p8,p9,p10,p11,g0,g1,i0,i1,hcC,if_true,zG,if_false];generalize s.2.2.2.1.getD 0 []=a0 at n0;generalize s.2.2.2.1.getD 1 []=a1 at n1
 iterate 10 rw[if_pos (zt (by simp<;>omega))]
theorem iu{s:Sem zk}{t:zB}(h:(xe s).val=some (.inr (.str t,[]))/\t.length<=1000000000):Cl s=Q3/\ir s=t:=by
 unfold Cl ir GP al cU;rw[h.1];exact⟨rfl,rfl⟩
theorem GO{s:Sem zk}(hs:lJ s)(hm:jn s.1):ux s=Q3:=by
 have t2:=hs.other;have t3:=hs.key;have t4:=hs.role;rcases hm with o|o|o
 ·obtain⟨p0,p1,p2,p3,p4,p5,p6,p7,p8,p9,p10⟩:=We o;obtain⟨hc,_⟩:=ej (s:=s) (g:=_) (b:=_) (by simp only[tv,Tr.val,p0,p1,p2,p3,p4,p5,p6,p7,p8,p9,p10,if_true,if_false,zG,zl];exact rfl);rw[hc];exact Al (fH (by simp) (by first|exact t2|simp) (by first|exact t3|simp) (by first|exact t4|simp))
 ·obtain⟨p0,p1,p2,p3,p4,p5,p6,p7,p8,p9,p10,p11⟩:=Wf o;obtain⟨hc,_⟩:=ej (s:=s) (g:=_) (b:=_) (by simp only[tv,Tr.val,p0,p1,p2,p3,p4,p5,p6,p7,p8,p9,p10,p11,if_true,if_false,zG,zl];exact rfl);rw[hc];exact Al (fH (by simp) (by first|exact t2|simp) (by first|exact t3|simp) (by first|exact t4|simp))
 ·obtain⟨p0,p1,p2,p3,p4,p5,p6,p7,p8,p9,p10,p11,p12⟩:=SN o;obtain⟨hc,_⟩:=ej (s:=s) (g:=_) (b:=_) (by simp only[tv,Tr.val,p0,p1,p2,p3,p4,p5,p6,p7,p8,p9,p10,p11,p12,if_true,if_false,zG,zl];exact rfl);rw[hc];exact Al (fH (by simp) (by first|exact t2|simp) (by first|exact t3|simp) (by first|exact t4|simp))
theorem ls{s:Sem zk}(h:eW s=Q3)(o:s.1=[103,114,111,117,112]):s.2.2.2.1.length=2:=by
 obtain⟨p0,p1,p2,p3,p4,p5,p6,p7,p8,p9,p10,p11,p12⟩:=SN o;obtain⟨_,hp⟩:=ej (s:=s) (g:=_) (b:=_) (by simp only[tv,Tr.val,p0,p1,p2,p3,p4,p5,p6,p7,p8,p9,p10,p11,p12,if_true,if_false,zG,zl];exact rfl);rw[hp]at h;by_cases hl:s.2.2.2.1.length=2
 ·exact hl
 ·exfalso;have hd:(bif Q0 ((s.2.2.2.1.length:Int)<2)then Q3 else Q0 ((s.2.2.2.1.length:Int)>2))=Q3:=by
   rcases Nat.lt_or_gt_of_ne hl with h2|h2
   ·have:Q0 ((s.2.2.2.1.length:Int)<2)=Q3:=zt ow;rw[this];rfl
   ·have:Q0 ((s.2.2.2.1.length:Int)>2)=Q3:=zt ow;rw[this];cases Q0 ((s.2.2.2.1.length:Int)<2)<;>rfl
  rw[hd]at h;cases h1:bP s.2.1<;>cases h2:bP s.2.2.1<;>rw[h1,h2]at h<;>simp at h
theorem JK{s:Sem zk}(hs:lJ s)(hm:jn s.1):nF s=Q3:=by
 unfold nF;refine gi ?_ rfl;unfold uB;refine gi (GO hs hm) ?_;split
 ·rfl
 ·rename_i h;have hp:eW s=Q3:=by simpa using h
  have:Cl s=Q3/\(ir s).length<=1000000000:=by
   rcases hm with o|o|o
   ·have:=Y2 hs o;exact⟨(iu this).1,(iu this).2▸this.2⟩
   ·have:=Y4 hs o;exact⟨(iu this).1,(iu this).2▸this.2⟩
   ·have:=Y3 hs o (ls hp o);exact⟨(iu this).1,(iu this).2▸this.2⟩
  exact gi this.1 (gi (P5 _ this.2) rfl)
theorem CQ:∀(es:List ((Int×Int×zB)×Int))(n:Nat)(x:Int),(jH es n x).length=es.length
 |[],_,_=>rfl
 |_::_,0,_=>rfl
 |_::r,n+1,x=>by simp[jH,CQ r n x]
theorem TR(es:List ((Int×Int×zB)×Int))(k:Int×Int×zB):(jx es k).length<=es.length+1:=by
 unfold jx;cases mJ es k<;>simp
theorem Fa:∀(es:List ((Int×Int×zB)×Int))(k:Int×Int×zB),(mJ es k=Q3->kW es k<es.length)/\kW es k<=es.length
 |[],k=>⟨λh=>by simp[mJ]at h,aB _⟩
 | p::r,k=>by
  obtain⟨h1,h2⟩:=Fa r k;constructor
  ·intro h;rw[kW];cases hk:(k==p.1)with
   |true=>simp
   | false=>
    have:mJ r k=Q3:=by simpa[mJ,hk]using h
    have:=h1 this;simp;omega
  ·rw[kW];cases(k==p.1)<;>simp<;>omega
theorem WN(es:List ((Int×Int×zB)×Int))(k:Int×Int×zB):kW es k<(jx es k).length:=by
 obtain⟨h1,h2⟩:=Fa es k;unfold jx;cases h:mJ es k with
 |true=>exact h1 h
 |false=>simp;omega
def CV(c:Int)(n:Nat):Prop:=0<=c/\c<n
theorem tz{c:Int}{n:Nat}(h:CV c n):zM c n=Q3:=by
 simp[zM,h.1,h.2]
theorem oR(x:Int)(n:Nat):vQ x n=Q3↔CV x n:=by
 unfold CV vQ;by_cases h:x>=0
 ·rw[zt h];simp;omega
 ·rw[af h];simp;omega
theorem wq{α:Type}{l:List α}{d:α}{p:α->Bool}:((List.range l.length).all λi=>p (l.getD i d))=Q3↔∀x∈l,p x=Q3:=by
 rw[dT];constructor
 ·intro h x hx;obtain⟨i,hi,rfl⟩:=gL hx;have:=h i (oy.2 hi)
  rwa [ba,zR hi]at this
 ·intro h i hi;have hi:=oy.1 hi;rw[ba,zR hi];exact h _ (bq hi)
theorem Jw{t:Sem zo}:(List.range (length t.t.1)).all (Wr t)=Q3↔∀f∈t.t.1,CV f.1 (length t.2.1)/\zK f.2=Q3:=by
 have h:=wq (l:=t.t.1) (d:=zi zr) (p:=λf:Sem zr=>vQ f.1 (length t.2.1)&&zK f.2);simp only[aD,oR]at h;exact h
theorem gR{t:Sem zo}(h:eF t=Q3):CV t.2.2.1 t.2.1.length/\(∀f∈t.t.1,CV f.1 t.2.1.length)/\(∀u∈t.2.2.2.1,CV u t.2.1.length)/\t.2.1.length<=8/\1<=t.2.1.length:=by
 have h8:=ME h;unfold eF at h;simp only[aD,oR]at h;obtain⟨h0,_,h2,h3,h4,_⟩:=h;have h3:=Jw.1 h3;have h2:=(wq (l:=t.2.2.2.1) (d:=zi zg) (p:=λu=>vQ u (length t.2.1))).1 h2;simp only[oR]at h2;refine⟨h4,λf hf=>(h3 f hf).1,h2,h8,?_⟩;cases hn:zK t.1
 ·rw[hn]at h0;simp at h0
 ·rw[hn]at h0;simp at h0;omega
theorem AY{t:Sem zo}{row:List (Sem zf)}(h:(dW t row !=0)≠Q3):row.length=t.2.1.length:=by
 simp at h;unfold dW at h;split at h
 ·cases h
 ·rename_i h1;cases hm:eF t with
  |false=>rw[hm]at h1;simp at h1
  | true=>
   rw[hm]at h1;simp at h1;omega
end
end Cad
