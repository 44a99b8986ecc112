/- The same plans; the document's plans. The document's plans: places, conditions. Statements: a MIGRATE may be, by the document, just if it may be by the program. -/
import Derived.Test.YtkmcdhahdadkpaaGreatDoorK16
import Derived.Test.YtkmcdhahdadkpaaGreatDoorK13
import Derived.Test.YtkmcdhahdadkpaaGreatDoorK15
namespace Cad
open Go Go.Proofs
open AV renaming ptr→Qf,nils→Qb
open Tr renaming chk→Qc,«to»→Q9,val→Q8
open AO renaming box→Qa
open Bool renaming false→Q4,true→Q3
open Option renaming some→Q1
open Decidable renaming decide→Q0
open Int (toNat)
open List (getD length)
open Tr (chk br re)
open AV (nils agg tup ptr kb str sl)
noncomputable section
set_option maxHeartbeats 4000000
abbrev jF:List CP:=[.d .str,.d .str,.d .str,.d .str,.nil,.d zg,.nil,.nil,.d .str,.d zg,.d zg,.d .str,.d .str,.nil,.nil,.d zg]
abbrev H1:List CP:=[.d .str,.d .str,.d .str,.d .str,.nil,.d zg,.nil,.nil,.d .expr,.nil,.d zg]
abbrev Oh:List CP:=[.d .str,.d .str,.d .str,.d .str,.vec zj,.d zg,.nil,.nil,.d .expr,.d (.sl zg),.d zg]
abbrev zbI:List CP:=[.d .str,.d .str,.d .str,.d .str,.d (.sl zj),.d zg,.nil,.nil,.d .expr,.d (.sl zg),.d zg]
abbrev Qz:List CP:=[.d .str,.d .str,.d .str,.d .str,.vec zj,.d zg,.nil,.nil,.d .expr,.vec zg,.d zg]
def zho(x0:Sem zz)(x1:Sem zz):Tr (Empty⊕ar):=
 let a0:=x0.1==x1.1
 let a1:=x0.2.1==x1.2.1
 let a2:=x0.2.2.1==x1.2.2.1
 let a3:=x0.t.2==x1.t.2
 let a4:=(x0.2.2.2.1.1,x0.2.2.2.1.2.1,x0.2.2.2.1.2.2.1,x0.2.2.2.1.2.2.2.1,x0.2.2.2.1.t.1,zm x0.2.2.2.1.t.2)
 let a5:=(x1.2.2.2.1.1,x1.2.2.2.1.2.1,x1.2.2.2.1.2.2.1,x1.2.2.2.1.2.2.2.1,x1.2.2.2.1.t.1,zm x1.2.2.2.1.t.2)
 let a6:=rF a4 a5
 Qc
 (bif a0 then
  bif a1 then bif a2 then bif a3 then Hm a4 a5&&bif a6 then G4 x0.t.1 x1.t.1 else Q3 else Q3 else Q3 else Q3
 else Q3)
 (re
  (AV.bool (bif a0 then bif a1 then bif a2 then bif a3 then bif a6 then nV x0.t.1 x1.t.1 else Q4 else Q4 else Q4 else Q4 else Q4))
  [])
def Ge(x0:Sem zz)(x1:Sem zz):=ao [Sh.bool] t0 100000000 (zho x0 x1)
def Gd(x0:Sem zz)(x1:Sem zz):=(Ge x0 x1).isSome
def I8(x0:Sem zz)(x1:Sem zz):=o1 (Ge x0 x1)
def zd5:=FT [zz,zz] [Sh.bool] λx=>Ge x.1 x.2.1
theorem Z4:FK 60 zd5:=rZ.T1 (f:=Tryz.f60) (keep:=k0) (e:=e0)
abbrev zPl:AV:=.agg [str [],str [],str [],str [],Qb,ai 0,Qb,Qb,str [],ai 0,ai 0,str [],str [],Qb,Qb,ai 0]
abbrev rE{σ:Type}(e:Int):Tr (σ⊕ar):=.re (.tup [zPl,.int .i64 e]) []
abbrev zhL:Nat->aN:=λj=>if j=7 then{slots:=[0,3,4,8,9,10]}else if j=24 then{slots:=[3,4,8,11,13],prom:=[(8,Q1 4,zj)]}else if j=38 then{slots:=[3,4,8,11,14,15,16]}else if j=48 then{slots:=[3,4,8,14,17],prom:=[(8,Q1 14,.int .i64)]}else if j=64 then{slots:=[3,4,8,20]}else{ }
inductive kj where
 |h7 (l0:List (Sem zh)) (l9:List (Sem Sh.str)) (i10:Int) (z0:zn [CP.d zl]) (z1:zn jF) (z2:zn H1)
 |h24 (i13:Int) (z0:zn [CP.d zl]) (z1:zn jF) (z2:zn Oh) (z3:zn [CP.d zo])
 |h38 (i16:Int) (z0:zn [CP.d zl]) (z1:zn jF) (z2:zn H1) (z3:zn [CP.d zo]) (z4:zn [CP.d zo])
 |h64 (i20:Int) (z0:zn [CP.d zl]) (z1:zn jF) (z2:zn zbI)
 |h64b (i20:Int) (z0:zn [CP.d zl]) (z1:zn jF) (z2:zn H1)
 |h64bb (i20:Int) (z0:zn [CP.d zl]) (z1:zn jF) (z2:zn Oh)
 |h38b (b15:Bool) (i16:Int) (z0:zn [CP.d zl]) (z1:zn jF) (z2:zn H1) (z3:zn [CP.d zo]) (z4:zn [CP.d zo])
 |h48 (i17:Int) (z0:zn [CP.d zl]) (z1:zn jF) (z2:zn Qz) (z3:zn [CP.d zo])
 |h64bbb (i20:Int) (z0:zn [CP.d zl]) (z1:zn jF) (z2:zn Qz)
abbrev zks:kj->Nat×St
 |.h7 l0 l9 i10 z0 z1 z2=>(7,⟨tm 339 [(0,sl zh l0),(3,Qf 0 0),(4,Qf 1 0),(8,Qf 2 0),(9,sl Sh.str l9),(10,ai i10)],[Qa (bC [] [CP.d zl] z0),Qa (bC [] jF z1),Qa (bC [] H1 z2)]⟩)
 |.h24 i13 z0 z1 z2 z3=>(24,⟨tm 339 [(3,Qf 0 0),(4,Qf 1 0),(8,Qf 2 0),(11,Qf 3 0),(13,ai i13)],[Qa (bC [] [CP.d zl] z0),Qa (bC [] jF z1),Qa (bC [4] Oh z2),Qa (bC [] [CP.d zo] z3),AO.vec zj z2.t.1]⟩)
 |.h38 i16 z0 z1 z2 z3 z4=>(38,⟨tm 339 [(3,Qf 0 0),(4,Qf 1 0),(8,Qf 2 0),(11,Qf 3 0),(14,Qf 4 0),(15,kb Q4),(16,ai i16)],[Qa (bC [] [CP.d zl] z0),Qa (bC [] jF z1),Qa (bC [] H1 z2),Qa (bC [] [CP.d zo] z3),Qa (bC [] [CP.d zo] z4)]⟩)
 |.h64 i20 z0 z1 z2=>(64,⟨tm 339 [(3,Qf 0 0),(4,Qf 1 0),(8,Qf 2 0),(20,ai i20)],[Qa (bC [] [CP.d zl] z0),Qa (bC [] jF z1),Qa (bC [] zbI z2)]⟩)
 |.h64b i20 z0 z1 z2=>(64,⟨tm 339 [(3,Qf 0 0),(4,Qf 1 0),(8,Qf 2 0),(20,ai i20)],[Qa (bC [] [CP.d zl] z0),Qa (bC [] jF z1),Qa (bC [] H1 z2)]⟩)
 |.h64bb i20 z0 z1 z2=>(64,⟨tm 339 [(3,Qf 0 0),(4,Qf 1 0),(8,Qf 2 0),(20,ai i20)],[Qa (bC [] [CP.d zl] z0),Qa (bC [] jF z1),Qa (bC [3] Oh z2),AO.vec zj z2.t.1]⟩)
 |.h38b b15 i16 z0 z1 z2 z3 z4=>(38,⟨tm 339 [(3,Qf 0 0),(4,Qf 1 0),(8,Qf 2 0),(11,Qf 3 0),(14,Qf 4 0),(15,AV.bool b15),(16,ai i16)],[Qa (bC [] [CP.d zl] z0),Qa (bC [] jF z1),Qa (bC [] H1 z2),Qa (bC [] [CP.d zo] z3),Qa (bC [] [CP.d zo] z4)]⟩)
 |.h48 i17 z0 z1 z2 z3=>(48,⟨tm 339 [(3,Qf 0 0),(4,Qf 1 0),(8,Qf 2 0),(14,Qf 3 0),(17,ai i17)],[Qa (bC [] [CP.d zl] z0),Qa (bC [] jF z1),Qa (bC [4,5] Qz z2),Qa (bC [] [CP.d zo] z3),AO.vec zj z2.t.1,AO.vec zg z2.t.q.2.1]⟩)
 |.h64bbb i20 z0 z1 z2=>(64,⟨tm 339 [(3,Qf 0 0),(4,Qf 1 0),(8,Qf 2 0),(20,ai i20)],[Qa (bC [] [CP.d zl] z0),Qa (bC [] jF z1),Qa (bC [3,4] Qz z2),AO.vec zj z2.t.1,AO.vec zg z2.t.q.2.1]⟩)
def OJ(x0:Sem zh.sl)(x1:Sem zl):Tr (kj⊕ar):=
 let a0:=zm x1.t.t.1
 let a1:=(x1.1,x1.2.1,x1.2.2.1,x1.2.2.2.1,x1.t.1,x1.t.2.1,x1.t.q.1,x1.t.q.2.1,a0,x1.t.t.2.1,x1.t.t.q.1,zm x1.t.t.q.2.1,x1.t.t.t)
 let a2:=kO a1
 let a3:=!a2.2
 let a4:=(x1.1,x1.2.2.1,x1.t.t.t,(x1.2.1,[],0,[],[],a0),[],0)
 Qc (iz a1)
 (Qc (bif a3 then Q3 else B8 x0)
  (br (bif a3 then Q3 else bif GJ x0 !=0 then Q3 else bif !x1.1==[99,111,112,121]then bif !x1.1==[106,111,105,110]then !x1.1==[103,114,111,117,112]else Q4 else Q4) (rE 1) (Qc (jx a4) (Q9 (kj.h7 x0 (kK a4) 0 (x1,()) ([],[],[],[],0,[],0,0,[],[],0,()) (x1.1,x1.2.2.1,x1.t.t.t,x1.2.1,0,x1.t.t.1,0,()))))))
def dr:kj->Tr (kj⊕ar)
 | .h7 l0 l9 i10 z0 z1 z2=>
  let a0:=kP l0 (l9.getD i10.toNat (zi Sh.str))
  let a1:=kP l0 z0.1.2.1
  let a2:=kP l0 z0.1.2.2.1
  let a3:=l0.getD (toNat a2) (zi zh)
  let a4:=nh a3.1.2.1 z0.1.2.2.2.1
  let a5:=qe a3.1.2.1 z0.1.2.2.2.1
  let a6:=a5.2!=0
  let a7:=(z2.t.2.1,a5.1,z2.t.q)
  let a8:=(a3.1,())
  let a9:=kP l0 z0.1.t.t.t
  let a10:=eH a3.1.2.1 z0.1.t.2.1
  let a11:=l0.getD (toNat a9) (zi zh)
  let a12:=getD a5.1 (toNat 0) (zi zg)
  let a13:=getD a5.1 (toNat 1) (zi zg)
  let a14:=getD a3.1.2.1 (toNat a13) (zi zj)
  let a15:=getD a3.1.2.1 (toNat a12) (zi zj)
  br (Q0 (i10<(↑l9.length:Int)))
  (Qc (zN i10 l9.length) (br (Q0 (a0<0)) (rE 6) (Q9 (kj.h7 l0 l9 (IntKind.i64.wrap (i10+1)) z0 z1 z2))))
  (br (bif Q0 (a1>=0)then Q3 else z0.1.2.2.1==z0.1.t.t.t) (rE 7) (Qc (sD l0 l9) (br (wl l0 l9) (rE 10) (Qc (zN a2 l0.length) (br (z0.1.1==[99,111,112,121]) (Qc a4 (br a6 (rE a5.2) (Q9 (kj.h24 0 z0 z1 (z2.1,z2.2.1,z2.2.2.1,z2.2.2.2.1,[],-1,a7) a8)))) (br (z0.1.1==[106,111,105,110]) (Qc (zN a9 l0.length)
  (Qc (dz a3.1.2.1 z0.1.t.2.1) (br (Q0 (a10<0)) (rE 4) (Q9
  (kj.h38 0 z0 z1 (z2.1,z2.2.1,z2.2.2.1,z2.2.2.2.1,z2.t.1,z2.t.2.1,a10,()) a8 (a11.1,())))))) (br (z0.1.1==[103,114,111,117,112]) (Qc a4 (br a6 (rE a5.2) (Qc (zN 0 (length a5.1)) (Qc (zN a12 (length a3.1.2.1)) (Qc (zN 1 (length a5.1)) (Qc (zN a13 (length a3.1.2.1)) (br (a14.2.1!=1) (rE 5) (Q9 (kj.h64 0 z0 z1 (z2.1,z2.2.1,z2.2.2.1,z2.2.2.2.1,[(a15.1,a15.2.1,Q3),(a14.1,a14.2.1,Q4)],z2.t.1,a7)))))))))) (Q9 (kj.h64b 0 z0 z1 z2)))))))))
 | .h24 i13 z0 z1 z2 z3=>
  let a0:=(↑(length z2.t.q.2.1):Int)
  let a1:=zN i13 (length z2.t.q.2.1)
  let a2:=getD z2.t.q.2.1 i13.toNat (zi zg)
  let a3:=zN a2 (length z3.1.2.1)
  let a4:=[getD z3.1.2.1 (toNat a2) (zi zj)]
  let a5:=Q0 (z2.t.1.length+a4.length<=1073741824)
  let a6:=IntKind.i64.wrap (i13+1)
  let a7:=z2.t.1++a4
  br (Q0 (i13<a0))
  (Qc a1 (br (a2==z3.1.2.2.1) (Qc a1 (Qc a3 (Qc a5 (Q9 (kj.h24 a6 z0 z1 (z2.1,z2.2.1,z2.2.2.1,z2.2.2.2.1,a7,i13,z2.t.q) z3))))) (Qc a1 (Qc a3 (Qc a5 (Q9 (kj.h24 a6 z0 z1 (z2.1,z2.2.1,z2.2.2.1,z2.2.2.2.1,a7,z2.t.2) z3)))))))
  (br (Q0 (z2.t.2.1<0)) (rE 1) (Q9 (kj.h64bb 0 z0 z1 z2)))
 | .h38 i16 z0 z1 z2 z3 z4=>
  let a0:=(↑(length z3.1.t.1):Int)
  let a1:=zN i16 (length z3.1.t.1)
  let a2:=getD z3.1.t.1 i16.toNat (zi zr)
  let a3:=a2.1==z2.t.q.1
  br (Q0 (i16<a0))
  (Qc (a1&&bif a3 then a1 else Q3) (Q9 (kj.h38b (bif a3 then a2.2==z0.1.t.t.t else Q4) (IntKind.i64.wrap (i16+1)) z0 z1 z2 z3 z4)))
  (rE 10)
 | .h64 i20 z0 z1 z2=>
  let a0:=(↑(length z2.t.1):Int)
  let a1:=getD z2.t.1 i20.toNat (zi zj)
  let a2:=zm z0.1.t.t.1
  let a3:=ws a2 z2.t.1
  br (Q0 (i20<a0))
  (Qc (zN i20 (length z2.t.1)) (Qc (dz z2.t.1 a1.1) (br (eH z2.t.1 a1.1!=i20) (rE 7)
  (Q9 (kj.h64 (IntKind.i64.wrap (i20+1)) z0 z1 z2)))))
  (Qc (qy a2 z2.t.1) (br (a3 !=0) (rE a3) (re (tup [agg [str z2.1,str z2.2.1,str z2.2.2.1,str z2.2.2.2.1,
  sl zj z2.t.1,ai z2.t.2.1,Qb,Qb,str (zf.op z2.t.q.1),ai (zf.v z2.t.q.1).1,ai (zf.v z2.t.q.1).2.1,str (zf.v z2.t.q.1).2.2,str (zf.s z2.t.q.1),sl Sh.expr (zf.l z2.t.q.1),sl zg z2.t.q.2.1,ai z2.t.t.1],ai 0])
  [])))
 | .h64b i20 z0 _ z2=>
  let a0:=zm z0.1.t.t.1
  let a1:=ws a0 []
  br (Q0 (i20<0)) Tr.err
  (Qc (qy a0 []) (br (a1 !=0) (rE a1) (re (tup [agg
  [str z2.1,str z2.2.1,str z2.2.2.1,str z2.2.2.2.1,Qb,ai z2.t.1,Qb,Qb,str (zf.op z2.t.2.1),ai (zf.v z2.t.2.1).1,ai (zf.v z2.t.2.1).2.1,str (zf.v z2.t.2.1).2.2,str (zf.s z2.t.2.1),sl Sh.expr (zf.l z2.t.2.1),Qb,ai z2.t.q.1],
  ai 0]) [])))
 | .h64bb i20 z0 z1 z2=>
  let a0:=(↑z2.t.1.length:Int)
  let a1:=z2.t.1.getD i20.toNat (zi zj)
  let a2:=zm z0.1.t.t.1
  let a3:=ws a2 z2.t.1
  br (Q0 (i20<a0))
  (Qc (zN i20 z2.t.1.length) (Qc (Q0 (i20.toNat<z2.t.1.length)) (Qc (dz z2.t.1 a1.1) (br (eH z2.t.1 a1.1!=i20) (rE 7)
  (Q9 (kj.h64bb (IntKind.i64.wrap (i20+1)) z0 z1 z2))))))
  (Qc (qy a2 z2.t.1) (br (a3 !=0) (rE a3) (re (tup [agg
  [str z2.1,str z2.2.1,str z2.2.2.1,str z2.2.2.2.1,AV.vec 0,ai z2.t.2.1,Qb,Qb,str (zf.op z2.t.q.1),ai (zf.v z2.t.q.1).1,ai (zf.v z2.t.q.1).2.1,str (zf.v z2.t.q.1).2.2,str (zf.s z2.t.q.1),sl Sh.expr (zf.l z2.t.q.1),
  sl zg z2.t.q.2.1,ai z2.t.t.1],ai 0]) [AO.vec zj z2.t.1])))
 | .h38b b15 i16 z0 z1 z2 z3 z4=>
  let a0:=(↑(length z3.1.t.1):Int)
  let a1:=zN i16 (length z3.1.t.1)
  let a2:=getD z3.1.t.1 i16.toNat (zi zr)
  let a3:=a2.1==z2.t.q.1
  let a4:=IntKind.i64.wrap ((↑(length z3.1.2.1):Int)+(↑(length z4.1.2.1):Int))
  br (Q0 (i16<a0))
  (Qc (bif b15 then Q3 else a1&&bif a3 then a1 else Q3) (Q9 (kj.h38b (bif b15 then Q3 else bif a3 then a2.2==z0.1.t.t.t else Q4) (IntKind.i64.wrap (i16+1)) z0 z1 z2 z3 z4)))
  (br (!b15) (rE 10) (br (Q0 (a4>9)) (rE 13) (Qc (Q0 (length z3.1.2.1<=1073741824)) (Q9 (kj.h48 0 z0 z1 (z2.1,z2.2.1,z2.2.2.1,z2.2.2.2.1,z3.1.2.1,z3.1.2.2.1,z2.t.2.1,[],z2.t.q) z4)))))
 | .h48 i17 z0 z1 z2 z3=>
  let a0:=(↑(length z3.1.2.1):Int)
  let a1:=[getD z3.1.2.1 i17.toNat (zi zj)]
  let a2:=IntKind.i64.wrap (i17+1)
  br (Q0 (i17<a0))
  (br (i17 !=z3.1.2.2.1) (Qc (Q0 (z2.t.q.2.1.length+[i17].length<=1073741824)) (Qc (zN i17 (length z3.1.2.1)) (Qc (Q0 (z2.t.1.length+a1.length<=1073741824)) (Q9 (kj.h48 a2 z0 z1 (z2.1,z2.2.1,z2.2.2.1,z2.2.2.2.1,z2.t.1++a1,z2.t.2.1,z2.t.q.1,z2.t.q.2.1++[i17],z2.t.t) z3)))))
  (Q9 (kj.h48 a2 z0 z1 z2 z3)))
  (Q9 (kj.h64bbb 0 z0 z1 z2))
 | .h64bbb i20 z0 z1 z2=>
  let a0:=(↑z2.t.1.length:Int)
  let a1:=z2.t.1.getD i20.toNat (zi zj)
  let a2:=zm z0.1.t.t.1
  let a3:=ws a2 z2.t.1
  br (Q0 (i20<a0))
  (Qc (zN i20 z2.t.1.length) (Qc (Q0 (i20.toNat<z2.t.1.length)) (Qc (dz z2.t.1 a1.1) (br (eH z2.t.1 a1.1!=i20) (rE 7)
  (Q9 (kj.h64bbb (IntKind.i64.wrap (i20+1)) z0 z1 z2))))))
  (Qc (qy a2 z2.t.1) (br (a3 !=0) (rE a3) (re (tup [agg
  [str z2.1,str z2.2.1,str z2.2.2.1,str z2.2.2.2.1,AV.vec 0,ai z2.t.2.1,Qb,Qb,str (zf.op z2.t.q.1),ai (zf.v z2.t.q.1).1,ai (zf.v z2.t.q.1).2.1,str (zf.v z2.t.q.1).2.2,str (zf.s z2.t.q.1),sl Sh.expr (zf.l z2.t.q.1),AV.vec 1,
  ai z2.t.t.1],ai 0]) [AO.vec zj z2.t.1,AO.vec zg z2.t.q.2.1])))
def BL(x0:Sem zh.sl)(x1:Sem zl):=ao [zz,zg] dr 100000000 (OJ x0 x1)
def Lm(x0:Sem zh.sl)(x1:Sem zl):=(BL x0 x1).isSome
def Ty(x0:Sem zh.sl)(x1:Sem zl):=o2 (BL x0 x1)
def zd2:=FT [zh.sl,zl] [zz,zg] λx=>BL x.1 x.2.1
theorem Z2:FK 25 zd2:=rZ.T1 (f:=Tryz.f25) (keep:=zhL) (e:=zks)
def FG:=Rd.addL [(60,zd5),(25,zd2)]
theorem Kz:zx FG:=rZ.addL<|fc Z4<|fc Z2<|iV
end
def pl3(t:Sem zo)(names:List zB):Nat->ou
 |0=>.h3 t.2.1 names ((0:Nat):Int)
 |i+1=>.h3b t.2.1 names ((i+1:Nat):Int) (kG t (names.take (i+1)))
theorem WP{t:Sem zo}{names:List zB}(hc:t.2.1.length<=1000000)(hn:names.length<=1000){i:Nat}(hi:i<names.length):(jA (pl3 t names i)).val=if LT.lt (α:=Int) (zQ t names[i]) 0 then Q1 (.inr (.tup [.nils,.int .i64 4],[]))else Q1 (.inl (pl3 t names (i+1))):=by
 have e:eH t.2.1 names[i]=zQ t names[i]:=ke hc;have ec:dz t.2.1 names[i]=Q3:=iX hc;have hx:kG t (names.take (i+1))=kG t (names.take i)++[zQ t names[i]]:=by
  unfold kG;rw[cj hi,iI];rfl
 cases i with
 | zero=>
  have hx:kG t (names.take 1)=[zQ t names[0]]:=hx;show(jA (.h3 _ _ _)).val=_;simp only[jA,Q8,zH hi,zt hi,if_true,zO _ _ hi,e,ec];by_cases h:LT.lt (α:=Int) (zQ t names[0]) 0
  ·simp only[zu h,if_true,if_pos h]
  ·simp only[aj h,if_neg h,zE,if_false];rw[if_pos sw,zp 0 um];show _=Q1 (Sum.inl (ou.h3b _ _ _ (kG t (names.take 1))));rw[hx]
 | succ i=>
  show(jA (.h3b _ _ _ _)).val=_;simp only[jA,Q8,zH hi,zt hi,if_true,zO _ _ hi,e,ec];by_cases h:LT.lt (α:=Int) (zQ t names[i+1]) 0
  ·simp only[zu h,if_true,if_pos h]
  ·simp only[aj h,if_neg h,zE,if_false];rw[if_pos (by unfold kG;simp;omega),zp (i+1) um];show _=Q1 (Sum.inl (ou.h3b _ _ _ (kG t (names.take (i+1+1)))));rw[hx]
theorem zmu{l:List Int}(hl:l.length<=1000):zT jA (l.length*1001+1) (.h10b ((0:Nat):Int) l) (if l.Nodup then(.tup [.vec 0,.int .i64 0],[.vec zg l])else(.tup [.nils,.int .i64 7],[])):=by
 have hin:∀i(hi:i<l.length),((∀k(hk:k<i),l[k]≠l[i])/\zP jA 1001 (.h10b (i:Int) l) (.h10b ((i+1:Nat):Int) l))\/((¬∀k(hk:k<i),l[k]≠l[i])/\zT jA 1001 (.h10b (i:Int) l) (.tup [.nils,.int .i64 7],[])):=by
  intro i hi;have h0:zP jA 1 (.h10b (i:Int) l) (.h13b (i:Int) ((0:Nat):Int) l):=zP.of (by
   show(jA (.h10b _ _)).val=_;simp only[jA,Q8,zH hi,if_true];rfl)
  rcases lI (t:=jA) (Φ:=λr=>r=(.tup [.nils,.int .i64 7],[])) 1 (λk=>.h13b (i:Int) (k:Int) l) (λk=>∀h:k<i,l[k]≠l[i]) i (λk hk _=>by
   have hkl:k<l.length:=by omega
   have g1:Q0 ((k:Int)<(i:Int))=Q3:=zH hk;have hv:(jA (.h13b (i:Int) (k:Int) l)).val=if(l[i]==l[k])=Q3 then Q1 (.inr (.tup [.nils,.int .i64 7],[]))else Q1 (.inl (.h13b (i:Int) ((k+1:Nat):Int) l)):=by
    show(jA (.h13b _ _ _)).val=_;simp only[jA,Q8,g1,zt hi,zt hkl,wE hi,wE hkl,zO _ _ hi,zO _ _ hkl,if_true];rw[zp k um]
   by_cases h:l[i]=l[k]
   ·exact .inr ⟨λq=>q hk h.symm,_,zT.of (by rw[hv,if_pos (by simpa using h)]),rfl⟩
   ·exact .inl ⟨λ_=>Ne.symm h,zP.of (by rw[hv,if_neg (by simpa using h)])⟩)with⟨h1,h2⟩|⟨h1,r,h2,rfl⟩
  ·refine .inl ⟨λk hk=>h1 k hk hk,((h0.trans h2).trans (zP.of ?_)).mono ow⟩;show(jA (.h13b _ _ _)).val=_;simp only[jA,Q8,zA];rw[zp i um];rfl
  ·exact .inr ⟨λh=>h1 λk hk _=>h k hk,(h0.ends h2).mono ow⟩
 have hnd:l.Nodup↔∀i,i<l.length->∀h:i<l.length,∀k(hk:k<i),l[k]≠l[i]:=by
  unfold List.Nodup;rw[List.pairwise_iff_getElem];exact⟨λh i _ hi k hk=>h k i ow hi hk,λh i j hi hj hij=>h j hj hj i hij⟩
 rcases lI (t:=jA) (Φ:=λr=>r=(.tup [.nils,.int .i64 7],[])) 1001 (λi=>.h10b (i:Int) l) (λi=>∀h:i<l.length,∀k(hk:k<i),l[k]≠l[i]) l.length (λi hi _=>by
  rcases hin i hi with⟨h1,h2⟩|⟨h1,h2⟩
  ·exact .inl ⟨λ_=>h1,h2⟩
  ·exact .inr ⟨λh=>h1 (h hi),_,h2,rfl⟩)with⟨h1,h2⟩|⟨h1,r,h2,rfl⟩
 ·rw[if_pos (hnd.2 h1)];refine(h2.ends (zT.of ?_)).mono ow;show(jA (.h10b _ _)).val=_;simp only[jA,Q8,zA];rfl
 ·rw[if_neg (λh=>h1 (hnd.1 h))];exact h2.mono ow
theorem Gi{t:Sem zo}{names:List zB}(hc:t.2.1.length<=1000000)(hn:names.length<=1000):ni t.2.1 names=Q1 (if fZ t names=0 then kG t names else[],fZ t names,()):=by
 have hi:(zhu t.2.1 names).val=Q1 (.inl (pl3 t names 0)):=rfl
 rcases lI (t:=jA) (Φ:=λr=>r=(.tup [.nils,.int .i64 4],[])) 1 (pl3 t names) (λi=>∀h:i<names.length,¬LT.lt (α:=Int) (zQ t names[i]) 0) names.length (λi hi _=>by
  have hv:=WP hc hn hi;by_cases h:LT.lt (α:=Int) (zQ t names[i]) 0
  ·exact .inr ⟨λq=>q hi h,_,zT.of (by rw[hv,if_pos h]),rfl⟩
  ·exact .inl ⟨λ_=>h,zP.of (by rw[hv,if_neg h])⟩)with⟨h1,h2⟩|⟨h1,r,h2,rfl⟩
 ·have hA:∀s∈names,¬LT.lt (α:=Int) (zQ t s) 0:=by
   intro s hs;obtain⟨j,hj,rfl⟩:=gn hs;exact h1 j hj hj
  have hE:fZ t names=if(kG t names).Nodup then 0 else 7:=by unfold fZ;rw[if_pos hA];rfl
  have hxl:(kG t names).length=names.length:=by unfold kG;simp
  cases hnm:names.length with
  | zero=>
   have hnil:names=[]:=xI hnm;subst hnil;have h3:zT jA 2 (pl3 t [] 0) (.tup [.nils,.int .i64 0],[]):=by
    refine(zP.of (s':=.h10 0) ?_).ends (zT.of ?_)
    ·rfl
    ·rfl
   have h0:fZ t []=0:=by rw[hE,if_pos (by unfold kG;exact List.nodup_nil)]
   rw[h0,if_pos rfl];exact zw hi h3 ow rfl
  | succ n=>
   rw[hnm]at h2;have e1:kG t (names.take (n+1))=kG t names:=by rw[<-hnm,jN]
   have h3:zP jA 1 (pl3 t names (n+1)) (.h10b ((0:Nat):Int) (kG t names)):=zP.of (by
    show(jA (.h3b _ _ _ _)).val=_;rw[e1,<-hnm];simp only[jA,Q8,zA];rfl)
   have h4:=zmu (l:=kG t names) ow;have h5:=h2.ends (h3.ends h4);rw[hE];by_cases hd:(kG t names).Nodup
   ·rw[if_pos hd]at h5⊢;exact zw hi h5 ow rfl
   ·rw[if_neg hd]at h5⊢;exact zw hi h5 ow rfl
 ·have hE:fZ t names=4:=by
   unfold fZ;rw[if_neg];intro h;exact h1 λi _ hi=>h _ (bu hi)
  rw[hE];exact zw hi h2 ow rfl
theorem Je{t:Sem zo}{names:List zB}(hc:t.2.1.length<=1000000)(hn:names.length<=1000):nh t.2.1 names=Q3/\qe t.2.1 names=(if fZ t names=0 then kG t names else[],fZ t names):=by
 have h:=Gi hc hn;exact⟨by unfold nh;rw[h];rfl,by unfold qe;rw[h];rfl⟩
def qT(e:zf)(cols:List (Sem zj)):Int:=
 if(e.op==[])=Q3 then 0 else if(bif (bG e cols).2==0 then bif (bG e cols).1!=3 then(bG e cols).1!=0 else Q4 else Q4)=Q3 then 5 else(bG e cols).2
theorem Ph{e:zf}{cols:List (Sem zj)}(hw:rL e)(hl:cols.length<=1000000)(hm:(e.op==[])=Q4->dc e=Q3):yF e cols=Q1 (qT e cols,()):=by
 unfold qT;cases ho:(e.op==[])
 ·have hme:=hm ho;have h1:=ms hw;have h2:=qo hw;have h3:=Jo hl hme;have t1:nt e cols=Q3:=by unfold nt;rw[h3];rfl
  have t2:iv e cols=bG e cols:=by unfold iv;rw[h3];rfl
  have hb:(bif (bG e cols).2==0 then bif (bG e cols).1!=0 then(bG e cols).1!=3 else Q4 else Q4)=(bif (bG e cols).2==0 then bif (bG e cols).1!=3 then(bG e cols).1!=0 else Q4 else Q4):=by
   cases((bG e cols).2==0)<;>cases((bG e cols).1!=0)<;>cases((bG e cols).1!=3)<;>rfl
  have hv:(Wj e cols).val=Q1 (.inr (.int .i64 (if(bif (bG e cols).2==0 then bif (bG e cols).1!=3 then(bG e cols).1!=0 else Q4 else Q4)=Q3 then 5 else(bG e cols).2),[])):=by
   simp only[Wj,Q8,zk,ho,h1,h2,hme,t1,t2,hb,if_true,zE,if_false,bK];split<;>rfl
  exact zI hv rfl
 ·refine zI (r:=(.int .i64 0,[])) ?_ rfl;simp only[Wj,Q8,ho,if_true]
theorem B5{e:zf}{cols:List (Sem zj)}(hw:rL e)(hl:cols.length<=1000000)(hm:(e.op==[])=Q4->dc e=Q3):qy e cols=Q3/\ws e cols=qT e cols:=by
 have h:=Ph hw hl hm;exact⟨by unfold qy;rw[h];rfl,by unfold ws;rw[h];rfl⟩
theorem Dm(l:List zB):gy l=Lib.join l [32,44,32]:=by
 have h:=pp l 0 [];unfold gy;rw[h];have e:l.map lD=l:=by
  rw[show(lD:zB->zB)=id from rfl];exact List.map_id l
 rw[DH,e]
theorem Xf{s:Sem zl}(h:oo s)(o:s.1=[99,111,112,121])(hk:kH s=Q3):iB s=L4 s:=by
 unfold kH at hk;simp only[aD,aO]at hk;rw[(iC (Zw h.sh o)).2,tC,Ay hk.2.1,Dm];unfold L4;simp
theorem Xg{s:Sem zl}(h:oo s)(o:s.1=[106,111,105,110])(hk:ng s=Q3):iB s=pA s:=by
 unfold ng at hk;simp only[aD]at hk;rw[(iC (Zy h.sh o)).2,tJ,Ay hk.1];unfold pA;simp
theorem Ug{s:Sem zl}(h:oo s)(o:s.1=[103,114,111,117,112])(hk:gC s=Q3):iB s=lF s:=by
 unfold gC at hk;simp only[aD,aO]at hk;rw[(iC (Zx h.sh o hk.1)).2,tG,Ay hk.2.1];unfold lF;simp
theorem LB{s:Sem zl}(h:oo s)(hm:jt s.1):∃t,nB s=Q1 (t,dY s,()):=by
 have key:∀(own:Sem zl)(ok:Bool)(t tx:zB),dA s=Q1 (t,own,ok,())->t.length<=900000->Ac own->(ok=Q3->t=tx)->(ok=Q3->iB s=tx)->eZ s=(ok&&(zL s.2.1&&eX own s))->∃t,nB s=Q1 (t,dY s,()):=by
  intro own ok t tx h1 h2 h3 h4 h5 h6;obtain⟨t',h7⟩:=E3 h h1 h2 h3;refine⟨t',?_⟩;rw[h7,T6,h6];cases hk:ok
  ·rfl
  ·rw[h5 hk,h4 hk];cases zL s.2.1<;>cases eX own s<;>rfl
 rcases hm with o|o|o
 ·obtain⟨t,h1,h2,h3⟩:=NQ h o;exact key _ _ _ _ h1 h2 (eh h (.inl rfl) (.inr rfl) (.inr rfl) (.inr rfl) (.inl rfl) (.inr rfl) (.inr rfl) (.inr rfl)) h3 (Xf h o) (Ng h o)
 ·obtain⟨h1,h2⟩:=NR h o;exact key _ _ _ _ h1 h2 (eh h (.inr rfl) (.inr rfl) (.inr rfl) (.inr rfl) (.inl rfl) (.inr rfl) (.inr rfl) (.inr rfl)) (λ_=>rfl) (Xg h o) (Nh h o)
 ·obtain⟨t,h1,h2,h3⟩:=J7 h o;exact key _ _ _ _ h1 h2 (eh h (.inl rfl) (.inr rfl) (.inr rfl) (.inr rfl) (.inl rfl) (.inr rfl) (.inr rfl) (.inr rfl)) h3 (Ug h o) (Jc h o)
theorem MD{g c:zf->zf->Bool}:∀(l m:List zf),l.length=m.length->(∀x∈l,∀y,c x y=Q3/\(g x y=Q3↔x=y))->OE g c l m=Q3/\(V0 g l m=Q3↔l=m)
 |[],[],_,_=>⟨rfl,by simp[V0]⟩
 |[],_::_,h,_=>by simp at h
 |_::_,[],h,_=>by simp at h
 | x::r,y::q,h,hx=>by
  obtain⟨c1,g1⟩:=hx x sw y;obtain⟨c2,g2⟩:=MD r q (by simpa using h) (λz hz=>hx z (by simp[hz]));rw[OE,V0];rw[c1];by_cases k:g x y=Q3
  ·have:=g1.1 k;subst this;simp[k,c2,g2]
  ·have hne:x≠y:=λe=>k (g1.2 e)
   simp[k,hne]
theorem JP:∀(N:Nat)(a b:zf),qU N a=Q3->jc N a b=Q3/\(fj N a b=Q3↔a=b)
 |0,_,_,h=>by cases h
 | N + 1,.mk op v s l,.mk op' v' s' l',h=>by
  rw[qU]at h;simp only[aD,aO,dW]at h;obtain⟨_,ha⟩:=h;have e1:jc (N+1) (.mk op v s l) (.mk op' v' s' l')=(bif op==op' then bif Ux v v' then bif s==s' then xe (fj N) (jc N) l l' else Q3 else Q3 else Q3):=rfl;have e2:fj (N+1) (.mk op v s l) (.mk op' v' s' l')=(bif op==op' then bif Ux v v' then bif s==s' then KF (fj N) l l' else Q4 else Q4 else Q4):=rfl;rw[e1,e2];unfold xe KF;have hV:Ux v v'=Q3↔v=v':=by unfold Ux;simp[Prod.ext_iff]
  by_cases h1:op=op'
  ·by_cases h2:v=v'
   ·by_cases h3:s=s'
    ·by_cases h4:l.length=l'.length
     ·obtain⟨k1,k2⟩:=MD (g:=fj N) (c:=jc N) l l' h4 (λx hx y=>JP N x y (ha x hx));have hb:((↑l.length:Int)!=(↑l'.length:Int))=Q4:=by rw[<-gq,jf];exact λh=>h h4
      rw[hb,hV.2 h2];simp[h1,h3,k1,k2,h2]
     ·have hb:((↑l.length:Int)!=(↑l'.length:Int))=Q3:=jf.2 h4;have hne:l≠l':=λe=>h4 (by rw[e])
      rw[hb,hV.2 h2];simp[h1,h3,hne]
    ·rw[hV.2 h2];simp[h1,h3]
   ·have:Ux v v'=Q4:=by rw[<-gq,hV];exact h2
    rw[this];simp[h1,h2]
  ·simp[h1]
theorem JT{a b:List Int}(h:a.length<=1000000):G4 a b=Q3/\(nV a b=Q3↔a=b):=by
 have key:∃r,G5 a b=Q1 (r,())/\(r=Q3↔a=b):=by
  by_cases hl:a.length=b.length
  ·have hb:((↑(length a):Int)!=(↑(length b):Int))=Q4:=by rw[<-gq,jf];exact λh=>h hl
   have hi:(Wk a b).val=Q1 (.inl (.h4 a b (a.length:Int) 0)):=by
    simp only[Wk,Q8,hb];rfl
   rcases lq (t:=zjV) (la:=a) (lb:=b) (λi=>.h4 a b (a.length:Int) i) (.inr (.kb Q3,[])) (λi=>getD a (i:Int).toNat (zi zg)==getD b (i:Int).toNat (zi zg)) (λ_ _=>rfl) (λi _ ha hb=>by rw[ba,zO _ _ ha,zO _ _ hb]) hl h with⟨q5,k5⟩|⟨q5,k5⟩
   ·exact⟨Q3,zw hi (k5 0 _ rfl) ow rfl,by simp[q5]⟩
   ·exact⟨Q4,zw hi k5 ow rfl,by simp[q5]⟩
  ·refine⟨Q4,zI (r:=E4) ?_ rfl,by simp;exact λe=>hl (by rw[e])⟩;simp only[Wk,Q8,jf.2 hl,if_true]
 obtain⟨r,h1,h2⟩:=key;refine⟨by unfold G4;rw[h1];rfl,?_⟩;have:nV a b=r:=by unfold nV;rw[h1];rfl
 rw[this];exact h2
theorem TZ{a b:List (Sem zj)}(h:a.length<=1000000):LP a b=Q3/\(xA a b=Q3↔a=b):=by
 have key:∃r,G2 a b=Q1 (r,())/\(r=Q3↔a=b):=by
  by_cases hl:a.length=b.length
  ·have hb:((↑(length a):Int)!=(↑(length b):Int))=Q4:=by rw[<-gq,jf];exact λh=>h hl
   have hi:(Wo a b).val=Q1 (.inl (.h4 a b (a.length:Int) 0)):=by
    simp only[Wo,Q8,hb];rfl
   rcases lq (t:=zjX) (la:=a) (lb:=b) (λi=>.h4 a b (a.length:Int) i) (.inr (.kb Q3,[])) (λi=>((getD a (i:Int).toNat (zi zj)).1==(getD b (i:Int).toNat (zi zj)).1&&((getD a (i:Int).toNat (zi zj)).2.1==(getD b (i:Int).toNat (zi zj)).2.1&&((getD a (i:Int).toNat (zi zj)).2.2==(getD b (i:Int).toNat (zi zj)).2.2&&Q3)))) (λ_ _=>rfl) (λi _ ha hb=>by rw[Qx,zO _ _ ha,zO _ _ hb]) hl h with⟨q5,k5⟩|⟨q5,k5⟩
   ·exact⟨Q3,zw hi (k5 0 _ rfl) ow rfl,by simp[q5]⟩
   ·exact⟨Q4,zw hi k5 ow rfl,by simp[q5]⟩
  ·refine⟨Q4,zI (r:=E4) ?_ rfl,by simp;exact λe=>hl (by rw[e])⟩;simp only[Wo,Q8,jf.2 hl,if_true]
 obtain⟨r,h1,h2⟩:=key;refine⟨by unfold LP;rw[h1];rfl,?_⟩;have:xA a b=r:=by unfold xA;rw[h1];rfl
 rw[this];exact h2
theorem T2{a b:List (Sem zr)}(h:a.length<=1000000):LQ a b=Q3/\(xB a b=Q3↔a=b):=by
 have key:∃r,G3 a b=Q1 (r,())/\(r=Q3↔a=b):=by
  by_cases hl:a.length=b.length
  ·have hb:((↑(length a):Int)!=(↑(length b):Int))=Q4:=by rw[<-gq,jf];exact λh=>h hl
   have hi:(Wp a b).val=Q1 (.inl (.h4 a b (a.length:Int) 0)):=by
    simp only[Wp,Q8,hb];rfl
   rcases lq (t:=zjY) (la:=a) (lb:=b) (λi=>.h4 a b (a.length:Int) i) (.inr (.kb Q3,[])) (λi=>((getD a (i:Int).toNat (zi zr)).1==(getD b (i:Int).toNat (zi zr)).1&&((getD a (i:Int).toNat (zi zr)).2==(getD b (i:Int).toNat (zi zr)).2&&Q3))) (λ_ _=>rfl) (λi _ ha hb=>by rw[zbP,zO _ _ ha,zO _ _ hb]) hl h with⟨q5,k5⟩|⟨q5,k5⟩
   ·exact⟨Q3,zw hi (k5 0 _ rfl) ow rfl,by simp[q5]⟩
   ·exact⟨Q4,zw hi k5 ow rfl,by simp[q5]⟩
  ·refine⟨Q4,zI (r:=E4) ?_ rfl,by simp;exact λe=>hl (by rw[e])⟩;simp only[Wp,Q8,jf.2 hl,if_true]
 obtain⟨r,h1,h2⟩:=key;refine⟨by unfold LQ;rw[h1];rfl,?_⟩;have:xB a b=r:=by unfold xB;rw[h1];rfl
 rw[this];exact h2
theorem Ud{a b:Sem zo}(hc:a.2.1.length<=1000000)(hu:a.2.2.2.1.length<=1000000)(hr:a.t.1.length<=1000000)(he:qU 16 a.t.2=Q3):Hm a b=Q3/\(rF a b=Q3↔a=b):=by
 obtain⟨a1,a2,a3,a4,a5,a6⟩:=a;obtain⟨b1,b2,b3,b4,b5,b6⟩:=b;obtain⟨c1,d1⟩:=TZ (b:=b2) (show a2.length<=1000000 from hc);obtain⟨c2,d2⟩:=JT (b:=b4) (show a4.length<=1000000 from hu);obtain⟨c3,d3⟩:=T2 (b:=b5) (show a5.length<=1000000 from hr);obtain⟨c4,d4⟩:=JP 16 a6 b6 he;have hv:Hn (a1,a2,a3,a4,a5,a6) (b1,b2,b3,b4,b5,b6)=Q1 ((bif a1==b1 then bif a3==b3 then bif xA a2 b2 then bif nV a4 b4 then bif xB a5 b5 then fj 16 a6 b6 else Q4 else Q4 else Q4 else Q4 else Q4),()):=by
  refine zI (r:=(.bool _,[])) ?_ rfl;simp only[zhv,Q8,zk,c1,c2,c3,c4];rw[if_pos];cases(a1==b1)<;>cases(a3==b3)<;>cases xA a2 b2<;>cases nV a4 b4<;>cases xB a5 b5<;>rfl
 refine⟨by unfold Hm;rw[hv];rfl,?_⟩;have:rF (a1,a2,a3,a4,a5,a6) (b1,b2,b3,b4,b5,b6)=(bif a1==b1 then bif a3==b3 then bif xA a2 b2 then bif nV a4 b4 then bif xB a5 b5 then fj 16 a6 b6 else Q4 else Q4 else Q4 else Q4 else Q4):=by unfold rF;rw[hv];rfl
 rw[this];simp only[cv];rw[<-d1,<-d2,<-d3,<-d4];have x1:(a1==b1)=Q3↔a1=b1:=ba;have x3:(a3==b3)=Q3↔a3=b3:=ba;rw[<-x1,<-x3];cases(a1==b1)<;>cases(a3==b3)<;>cases xA a2 b2<;>cases nV a4 b4<;>cases xB a5 b5<;>cases fj 16 a6 b6<;>simp
theorem Tk{a b:Sem zz}(hc:a.2.2.2.1.2.1.length<=1000000)(hu:a.2.2.2.1.2.2.2.1.length<=1000000)(hr:a.2.2.2.1.t.1.length<=1000000)(he:qU 16 a.2.2.2.1.t.2=Q3)(hx:a.t.1.length<=1000000):Gd a b=Q3/\(I8 a b=Q3↔a=b):=by
 obtain⟨a1,a2,a3,a4,a5,a6⟩:=a;obtain⟨b1,b2,b3,b4,b5,b6⟩:=b;obtain⟨c1,d1⟩:=Ud (b:=b4) hc hu hr he;obtain⟨c2,d2⟩:=JT (b:=b5) (show a5.length<=1000000 from hx);have c1':Hm (a4.1,a4.2.1,a4.2.2.1,a4.2.2.2.1,a4.t.1,a4.t.2) (b4.1,b4.2.1,b4.2.2.1,b4.2.2.2.1,b4.t.1,b4.t.2)=Q3:=c1;have hs:rF (a4.1,a4.2.1,a4.2.2.1,a4.2.2.2.1,a4.t.1,a4.t.2) (b4.1,b4.2.1,b4.2.2.1,b4.2.2.2.1,b4.t.1,b4.t.2)=rF a4 b4:=rfl;have hv:Ge (a1,a2,a3,a4,a5,a6) (b1,b2,b3,b4,b5,b6)=Q1 ((bif a1==b1 then bif a2==b2 then bif a3==b3 then bif a6==b6 then bif rF a4 b4 then nV a5 b5 else Q4 else Q4 else Q4 else Q4 else Q4),()):=by
  refine zI (r:=(.bool _,[])) ?_ rfl;simp only[zho,Q8,zk,c1',hs,c2];rw[if_pos];cases(a1==b1)<;>cases(a2==b2)<;>cases(a3==b3)<;>cases(a6==b6)<;>cases rF a4 b4<;>rfl
 refine⟨by unfold Gd;rw[hv];rfl,?_⟩;have:I8 (a1,a2,a3,a4,a5,a6) (b1,b2,b3,b4,b5,b6)=(bif a1==b1 then bif a2==b2 then bif a3==b3 then bif a6==b6 then bif rF a4 b4 then nV a5 b5 else Q4 else Q4 else Q4 else Q4 else Q4):=by unfold I8;rw[hv];rfl
 rw[this];simp only[cv];rw[<-d1,<-d2];have x1:(a1==b1)=Q3↔a1=b1:=ba;have x2:(a2==b2)=Q3↔a2=b2:=ba;have x3:(a3==b3)=Q3↔a3=b3:=ba;have x6:(a6==b6)=Q3↔a6=b6:=ba;rw[<-x1,<-x2,<-x3,<-x6];cases(a1==b1)<;>cases(a2==b2)<;>cases(a3==b3)<;>cases(a6==b6)<;>cases rF a4 b4<;>cases nV a5 b5<;>simp
theorem nL.may{t:Sem zo}(h:nL t)(ho:(t.t.2.op==[])=Q4):dc t.t.2=Q3:=by
 have hc:=h.chk;unfold iA at hc;have hn:fj 16 t.t.2 we=Q4:=by rw[CA,ho];rfl
 rw[hn,if_neg sw]at hc;rcases zG (dc t.t.2)with c|c
 ·exact c
 ·have ht:bG t.t.2 t.2.1=(0,1):=by unfold bG;rw[c];rfl
  rw[ht]at hc;cases hc
theorem KO(t:Sem zo)(row:List (Sem ze))(i:Int):eo t row [] i=if Hv (jO t.t.2 t.2.1 row) 0=Q3 then(9:Int)else 0:=by rw[eo];rfl
theorem xg(t:Sem zo)(row:List (Sem ze))(x:Sem ze)(r:List (Sem ze))(i:Nat):eo t row (x::r) (i:Int)=if(bif x.1==0 then(getD t.2.1 i (zi zj)).2.2 else Q4)=Q3 then(8:Int)else if(bif x.1!=0 then x.1!=(getD t.2.1 i (zi zj)).2.1 else Q4)=Q3 then 5 else eo t row r ((i+1:Nat):Int):=by
 rw[eo];simp only[aK];rfl
theorem A9{t:Sem zo}{row:List (Sem ze)}(hw:J8 t)(hT:nL t)(hr:∀v∈row,lL v)(hl:row.length=t.2.1.length):∀(m i:Nat),row.length-i=m->i<=row.length->zT CN (m+1) (.h9 row (i:Int) (t,())) (.int .i64 (eo t row (row.drop i) (i:Int)),[])
 | 0,i,hm,hi=>by
  obtain rfl:i=row.length:=by omega
  have hcl:=hw.ncols;rw[jo,KO];refine zT.of ?_;have h8:=hT.n8;rcases zG (t.t.2.op==[])with c|c
  ·have hm:dc t.t.2=Q4:=by
    rcases zG (dc t.t.2)with h|h
    ·rw[Mu h]at c;cases c
    ·exact h
   have hv:jO t.t.2 t.2.1 row=(0,0,[]):=by unfold jO;rw[hm];rfl
   rw[hv];simp only[CN,Q8,zA,zk];rw[c];rfl
  ·have hm:=hT.may c;have hev:=TG (cols:=t.2.1) (row:=row) ow hr hw.chk hm;have hec:yx t.t.2 t.2.1 row=Q3:=by unfold yx;rw[hev];rfl
   have hevv:Gr t.t.2 t.2.1 row=jO t.t.2 t.2.1 row:=by unfold Gr;rw[hev];rfl
   simp only[CN,Q8,zA,zk,hec,hevv,yp,Gl];rw[c];show(if Q3=Q3 then(if Hv (jO t.t.2 t.2.1 row) 0=Q3 then Q1 (Sum.inr (ai 9,[]))else Q1 (Sum.inr (ai 0,[])))else none:Option (Fm⊕ar))=_;rcases zG (Hv (jO t.t.2 t.2.1 row) 0)with k|k<;>rw[k]<;>rfl
 | m+1,i,hm,hi=>by
  have hlt:i<row.length:=by omega
  have h8:=hT.n8;have ih:=A9 hw hT hr hl m (i+1) ow ow;have hd:row.drop i=getD row i (zi ze)::row.drop (i+1):=by
   rw[fu hlt,bd,zS hlt];rfl
  rw[hd,xg];have hin:zN (i:Int) t.2.1.length=Q3:=zt ow;have hv:(CN (.h9 row (i:Int) (t,()))).val=if(bif (getD row i (zi ze)).1==0 then(getD t.2.1 i (zi zj)).2.2 else Q4)=Q3 then Q1 (.inr (.int .i64 8,[]))else if(bif (getD row i (zi ze)).1!=0 then(getD row i (zi ze)).1!=(getD t.2.1 i (zi zj)).2.1 else Q4)=Q3 then Q1 (.inr (.int .i64 5,[]))else Q1 (.inl (.h9 row ((i+1:Nat):Int) (t,()))):=by
   simp only[CN,Q8,zH hlt,zt hlt,hin,aK,if_true];rw[zp i um];cases((getD row i (zi ze)).1==0)<;>cases((getD row i (zi ze)).1!=0)<;>rfl
  rcases zG (bif (getD row i (zi ze)).1==0 then(getD t.2.1 i (zi zj)).2.2 else Q4)with c|c
  ·rw[c,if_pos Hw]at hv⊢;exact(zT.of hv).mono ow
  ·rw[c,if_neg sw]at hv⊢;rcases zG (bif (getD row i (zi ze)).1!=0 then(getD row i (zi ze)).1!=(getD t.2.1 i (zi zj)).2.1 else Q4)with c2|c2
   ·rw[c2,if_pos Hw]at hv⊢;exact(zT.of hv).mono ow
   ·rw[c2,if_neg sw]at hv⊢;exact(zP.of hv).ends ih
theorem A8{t:Sem zo}{row:List (Sem ze)}(hw:J8 t)(hT:nL t)(hr:∀v∈row,lL v)(hl:row.length=t.2.1.length):∀(m i:Nat),row.length-i=m->i<=row.length->zT CN (m+2+row.length) (.h4 row (i:Int) (t,())) (.int .i64 (fT t row (row.drop i) (i:Int)),[])
 | 0,i,hm,hi=>by
  obtain rfl:i=row.length:=by omega
  rw[jo];have hv:(CN (.h4 row (row.length:Int) (t,()))).val=Q1 (.inl (.h9 row ((0:Nat):Int) (t,()))):=by
   simp only[CN,Q8,zA];rfl
  have h9:=A9 hw hT hr hl row.length 0 ow ow;have e:fT t row [] (row.length:Int)=eo t row (row.drop 0) ((0:Nat):Int):=by
   rw[fT];rfl
  rw[e];exact((zP.of hv).ends h9).mono ow
 | m+1,i,hm,hi=>by
  have hlt:i<row.length:=by omega
  have h8:=hT.n8;have ih:=A8 hw hT hr hl m (i+1) ow ow;have hd:row.drop i=getD row i (zi ze)::row.drop (i+1):=by
   rw[fu hlt,bd,zS hlt];rfl
  have hvl:=(hr _ (bH (d:=zi ze) hlt)).2.2;have e:fT t row (row.drop i) (i:Int)=if(!aW (getD row i (zi ze)))=Q3 then(1:Int)else fT t row (row.drop (i+1)) ((i+1:Nat):Int):=by
   rw[hd];rw[fT];rfl
  rw[e];have hv:(CN (.h4 row (i:Int) (t,()))).val=if(!aW (getD row i (zi ze)))=Q3 then Q1 (.inr (.int .i64 1,[]))else Q1 (.inl (.h4 row ((i+1:Nat):Int) (t,()))):=by
   simp only[CN,Q8,zH hlt,zt hlt,aK,if_true,kL hvl,nl hvl];rw[zp i um]
  rcases zG (!aW (getD row i (zi ze)))with c|c
  ·rw[c,if_pos Hw]at hv⊢;exact(zT.of hv).mono ow
  ·rw[c,if_neg sw]at hv⊢;exact((zP.of hv).ends ih).mono ow
theorem EW{t:Sem zo}{row:List (Sem ze)}(hw:J8 t)(hr:∀v∈row,lL v):yE t row=Q1 (dZ t row,()):=by
 unfold dZ;have hi:(zcn t row).val=if(bif !eB t then Q3 else(row.length:Int)!=(t.2.1.length:Int))=Q3 then Q1 (.inr (.int .i64 1,[]))else Q1 (.inl (.h4 row ((0:Nat):Int) (t,()))):=by
  simp only[zcn,Q8,zk,mv hw,qw hw,if_true];rfl
 rcases zG (bif !eB t then Q3 else(row.length:Int)!=(t.2.1.length:Int))with c|c
 ·rw[if_pos c]at hi⊢;exact zI hi rfl
 ·rw[if_neg (by rw[c];simp)]at hi⊢;have hm:eB t=Q3:=by
   rcases zG (eB t)with k|k
   ·exact k
   ·rw[k]at c;cases c
  rw[hm]at c;have hl:row.length=t.2.1.length:=by
   have:((row.length:Int)!=(t.2.1.length:Int))=Q4:=c;simp at this;omega
  have hT:=(kU t).1 hm;have h8:=hT.n8;exact zw hi (A8 hw hT hr hl row.length 0 ow ow) ow rfl
theorem Pg{t:Sem zo}{row:List (Sem ze)}(hw:J8 t)(hr:∀v∈row,lL v):Gz t row=Q3:=by unfold Gz;rw[EW hw hr];rfl
theorem TI{t:Sem zo}{row:List (Sem ze)}(hw:J8 t)(hr:∀v∈row,lL v):Lw t row=dZ t row:=by unfold Lw;rw[EW hw hr];rfl
theorem eq3(a b:Sem ze):(a.1==b.1&&(a.2.1==b.2.1&&(a.2.2==b.2.2&&Q3)))=Q3↔a=b:=by
 obtain⟨k,n,s⟩:=a;obtain⟨k',n',s'⟩:=b;simp
theorem ue{rows:List (List (Sem ze))}{c:Int}(hc:∀r∈rows,zN c (length r)=Q3)(hl:rows.length<=1000):∃b,ud rows c=Q1 (b,())/\(b=Q4↔qR rows c):=by
 have h2:=lI (t:=Dn) (Φ:=λr=>r=(.kb Q3,[])) 1002 (λi=>.h2 rows c (i:Int)) (λi=>∀k,k<i->¬((ac c (getD rows i (zi ze.sl))).1≠0/\ac c (getD rows i (zi ze.sl))=ac c (getD rows k (zi ze.sl)))) rows.length (by
  intro i hi _;have hv:(Dn (.h2 rows c (i:Int))).val=Q1 (.inl (.h5 rows c (i:Int) ((0:Nat):Int))):=by
   simp only[Dn,Q8,zH hi];rfl
  have h5:=lI (t:=Dn) (Φ:=λr=>r=(.kb Q3,[])) 1 (λk=>.h5 rows c (i:Int) (k:Int)) (λk=>¬((ac c (getD rows i (zi ze.sl))).1≠0/\ac c (getD rows i (zi ze.sl))=ac c (getD rows k (zi ze.sl)))) i (by
   intro k hk _;have hk2:k<rows.length:=by omega
   have hv:(Dn (.h5 rows c (i:Int) (k:Int))).val=if(bif (ac c (getD rows i (zi ze.sl))).1!=0 then(ac c (getD rows i (zi ze.sl))).1==(ac c (getD rows k (zi ze.sl))).1&&((ac c (getD rows i (zi ze.sl))).2.1==(ac c (getD rows k (zi ze.sl))).2.1&&((ac c (getD rows i (zi ze.sl))).2.2==(ac c (getD rows k (zi ze.sl))).2.2&&Q3))else Q4)=Q3 then Q1 (.inr (.kb Q3,[]))else Q1 (.inl (.h5 rows c (i:Int) ((k+1:Nat):Int))):=by
    simp only[Dn,Q8,zH hk,zt hi,zt hk2,hc _ (bH (d:=zi ze.sl) hi),hc _ (bH (d:=zi ze.sl) hk2),aK,if_true];rw[if_pos,zp k um];cases((getD (getD rows i (zi ze.sl)) (toNat c) (zi ze)).1!=0)<;>rfl
   have he:=eq3 (ac c (getD rows i (zi ze.sl))) (ac c (getD rows k (zi ze.sl)));rcases zG ((ac c (getD rows i (zi ze.sl))).1!=0)with d1|d1
   ·have d1':(ac c (getD rows i (zi ze.sl))).1≠0:=bne_iff_ne.1 d1;rcases zG ((ac c (getD rows i (zi ze.sl))).1==(ac c (getD rows k (zi ze.sl))).1&&((ac c (getD rows i (zi ze.sl))).2.1==(ac c (getD rows k (zi ze.sl))).2.1&&((ac c (getD rows i (zi ze.sl))).2.2==(ac c (getD rows k (zi ze.sl))).2.2&&Q3)))with d2|d2
    ·exact .inr ⟨λh=>h ⟨d1',he.1 d2⟩,_,zT.of (by rw[hv,d1,d2,if_pos Hw]),rfl⟩
    ·exact .inl ⟨λh=>(by rw[he.2 h.2]at d2;cases d2),zP.of (by rw[hv,d1,d2,if_neg sw])⟩
   ·refine .inl ⟨λh=>h.1 (by simpa using d1),zP.of (by rw[hv,d1,if_neg sw])⟩)
  rcases h5 with⟨p5,g5⟩|⟨p5,r,g5,hr⟩
  ·have hv5:(Dn (.h5 rows c (i:Int) (i:Int))).val=Q1 (.inl (.h2 rows c ((i+1:Nat):Int))):=by
    simp only[Dn,Q8,zA];rw[zp i um];rfl
   exact .inl ⟨p5,(((zP.of hv).trans g5).trans (zP.of hv5)).mono ow⟩
  ·exact .inr ⟨p5,r,((zP.of hv).ends g5).mono ow,hr⟩)
 have hu:(∀i,i<rows.length->∀k,k<i->¬((ac c (getD rows i (zi ze.sl))).1≠0/\ac c (getD rows i (zi ze.sl))=ac c (getD rows k (zi ze.sl))))↔qR rows c:=by
  unfold qR;rw[List.pairwise_iff_getElem];have e:∀i(hi:i<rows.length),getD rows i (zi ze.sl)=rows[i]:=λi hi=>by rw[bd,zS hi,du]
  constructor
  ·intro h i j hi hj hij hne heq;have:=h j hj i hij;rw[e i hi,e j hj]at this;exact this ⟨by rw[<-heq];exact hne,heq.symm⟩
  ·rintro h i hi k hk ⟨h1,h2⟩;rw[e i hi]at h1 h2;rw[e k ow]at h2;exact h k i ow hi hk (by rw[<-h2];exact h1) h2.symm
 have hi:(zhw rows c).val=Q1 (.inl (.h2 rows c ((0:Nat):Int))):=rfl;rcases h2 with⟨p2,g2⟩|⟨p2,r,g2,hr⟩
 ·refine⟨Q4,zw hi (g2.ends (zT.of (r:=(.kb Q4,[])) ?_)) ow rfl,⟨λ_=>hu.1 p2,λ_=>rfl⟩⟩;simp only[Dn,Q8,zA];rfl
 ·subst hr;exact⟨Q3,zw hi g2 ow rfl,⟨λh=>(by cases h),λh=>absurd (hu.2 h) p2⟩⟩
theorem Ju{t:Sem zo}{row:List (Sem ze)}(hw:J8 t)(hm:eB t=Q3)(hk:zN t.2.2.1 row.length=Q3):B6 t row=Q1 (ac t.2.2.1 row,()):=by
 unfold B6 ao cX;have h2:Q0 (LT.lt (α:=Int) t.2.2.1 (row.length:Int))=Q3:=by
  unfold zN at hk;simp only[aD]at hk;exact hk.2
 simp only[zhy,Q8,zk,mv hw,qw hw,hm,hk,h2];rfl
theorem Jt{t:Sem zo}{row:List (Sem ze)}(hw:J8 t)(hm:eB t=Q3)(hk:zN t.2.2.1 row.length=Q3):GG t row=Q3:=by unfold GG;rw[Ju hw hm hk];rfl
theorem Nq{t:Sem zo}{row:List (Sem ze)}(hw:J8 t)(hm:eB t=Q3)(hk:zN t.2.2.1 row.length=Q3):Np t row=ac t.2.2.1 row:=by unfold Np;rw[Ju hw hm hk];rfl
theorem EY{x:Sem zh}{v:Sem ze}(hw:J8 x.1)(hm:eB x.1=Q3)(hk:∀r∈x.2,zN x.1.2.2.1 (length r)=Q3)(hl:x.2.length<=1000):yG x v=Q1 (zU (λr=>bw r x.1.2.2.1 v) x.2 0,()):=by
 have hh:∀r∈x.2,bw r x.1.2.2.1 v=((ac x.1.2.2.1 r).1==v.1&&((ac x.1.2.2.1 r).2.1==v.2.1&&((ac x.1.2.2.1 r).2.2==v.2.2&&Q3))):=by
  intro r hr;have:=hk r hr;unfold zN at this;simp only[aD]at this;unfold bw;rw[show Q0 (GE.ge (α:=Int) x.1.2.2.1 0)=Q3 from this.1,this.2];rfl
 have hf:=lI (t:=T8) (Φ:=λr=>r=(.int .i64 (zU (λr=>bw r x.1.2.2.1 v) x.2 0),[])) 1 (λi=>.h2 (i:Int) (x,()) (v,())) (λi=>bw (getD x.2 i (zi ze.sl)) x.1.2.2.1 v=Q4) x.2.length (by
  intro i hi hj;have hmem:=bH (d:=zi ze.sl) hi;have hkk:=hk _ hmem;have h2:Q0 (LT.lt (α:=Int) x.1.2.2.1 ((getD x.2 i (zi ze.sl)).length:Int))=Q3:=by
   unfold zN at hkk;simp only[aD]at hkk;exact hkk.2
  have hv:(T8 (.h2 (i:Int) (x,()) (v,()))).val=if bw (getD x.2 i (zi ze.sl)) x.1.2.2.1 v=Q3 then Q1 (.inr (.int .i64 i,[]))else Q1 (.inl (.h2 ((i+1:Nat):Int) (x,()) (v,()))):=by
   rw[hh _ hmem];simp only[T8,Q8,zk,zH hi,zt hi,hkk,h2,mv hw,qw hw,hm,aK,ah,if_true,oC];rw[zp i um]
  rcases zG (bw (getD x.2 i (zi ze.sl)) x.1.2.2.1 v)with h|h
  ·have hp:=mh (p:=λr=>bw r x.1.2.2.1 v) (d:=zi ze.sl) x.2 0 i hi h hj;refine .inr ⟨by rw[h];simp,_,zT.of (by rw[hv,if_pos h]),?_⟩;show _=(ai (zU (λr=>bw r x.1.2.2.1 v) x.2 0),[]);rw[hp];simp
  ·exact .inl ⟨h,zP.of (by rw[hv,if_neg (by rw[h];simp)])⟩)
 have hi:(zhz x v).val=Q1 (.inl (.h2 ((0:Nat):Int) (x,()) (v,()))):=rfl;rcases hf with⟨h1,h2⟩|⟨h1,r,h2,rfl⟩
 ·have hp:=mi (p:=λr=>bw r x.1.2.2.1 v) (d:=zi ze.sl) x.2 0 h1;rw[hp];refine zw hi (h2.ends (zT.of (r:=(.int .i64 (-1),[])) ?_)) ow rfl;simp only[T8,Q8,zA];rfl
 ·exact zw hi h2 ow rfl
theorem Pi{x:Sem zh}{v:Sem ze}(hw:J8 x.1)(hm:eB x.1=Q3)(hk:∀r∈x.2,zN x.1.2.2.1 (length r)=Q3)(hl:x.2.length<=1000):GF x v=Q3:=by unfold GF;rw[EY hw hm hk hl];rfl
theorem TJ{x:Sem zh}{v:Sem ze}(hw:J8 x.1)(hm:eB x.1=Q3)(hk:∀r∈x.2,zN x.1.2.2.1 (length r)=Q3)(hl:x.2.length<=1000):Ly x v=zU (λr=>bw r x.1.2.2.1 v) x.2 0:=by unfold Ly;rw[EY hw hm hk hl];rfl
structure Uw (x:Sem zh):Prop where
 t:J8 x.1
 rows:x.2.length<=1000
 vals:∀r∈x.2,∀v∈(r:List (Sem ze)),lL v
theorem Uw.short{x:Sem zh}(h:Uw x):gH x:=⟨h.t.nuq,h.t.nrf,h.rows⟩
theorem Et{t:Sem zo}{row:List (Sem ze)}:∀(r:List (Sem ze))(i:Nat),eo t row r (i:Int)=(0:Int)->∀j,j<r.length->(getD t.2.1 (i+j) (zi zj)).2.2=Q3->(getD r j (zi ze)).1≠0
 |[],_,_,j,hj,_=>by simp at hj
 | x::r,i,h,j,hj,hn=>by
  rw[xg]at h;split at h
  ·cases h
  rename_i c;split at h
  ·cases h
  cases j with
  | zero=>
   intro h0;have h0':(x.1==0)=Q3:=by simpa using h0
   rw[h0']at c;exact c hn
  | succ j=>
   have:=Et r (i+1) h j (by simpa using hj) (by rw[show i+1+j=i+(j+1) by omega];exact hn);exact this
theorem Ev{t:Sem zo}{row:List (Sem ze)}:∀(r:List (Sem ze))(i:Nat),fT t row r (i:Int)=(0:Int)->(∀v∈r,aW v=Q3)/\eo t row row ((0:Nat):Int)=(0:Int)
 | [],i,h=>by
  rw[fT]at h;exact⟨λv hv=>(by cases hv),h⟩
 | x::r,i,h=>by
  have e:fT t row (x::r) (i:Int)=if(!aW x)=Q3 then(1:Int)else fT t row r ((i+1:Nat):Int):=by
   rw[fT];rfl
  rw[e]at h;split at h
  ·cases h
  rename_i c;obtain⟨h1,h2⟩:=Ev r (i+1) h;refine⟨λv hv=>?_,h2⟩;rcases cm.1 hv with rfl|hv
  ·simpa using c
  ·exact h1 v hv
theorem fy{t:Sem zo}{row:List (Sem ze)}(h:dZ t row=(0:Int)):row.length=t.2.1.length/\(∀v∈row,aW v=Q3)/\∀j,j<row.length->(getD t.2.1 j (zi zj)).2.2=Q3->(getD row j (zi ze)).1≠0:=by
 have hl:=Ba (t:=t) (row:=row) (by simpa using h);unfold dZ at h;split at h
 ·cases h
 obtain⟨h1,h2⟩:=Ev row 0 h;refine⟨hl,h1,λj hj hn=>?_⟩;have:=Et row 0 h2 j hj (by rwa [ft]);exact this
theorem Lg{a b:Sem ze}(ha:aW a=Q3)(hb:aW b=Q3)(h:cO a b=(0:Int)):a=b:=by
 unfold cO ap at h;rw[ha,hb]at h;have h:Ga [rS a.1 b.1,kq a.2.1 b.2.1,oe a.2.2 b.2.2]=(0:Int):=h;rw[<-SB]at h;rcases zG (a.1==b.1&&(a.2.1==b.2.1&&(a.2.2==b.2.2&&Q3)))with c|c
 ·exact(eq3 a b).1 c
 ·rw[if_neg (by rw[c];simp)]at h;split at h<;>cases h
theorem GD{x:Sem zh}(hw:Uw x):∃e:Int,mw x=Q1 (e,())/\(e=0↔ee x):=by
 have hsw:=hw.rows;have hsu:=hw.t.nuq;by_cases hm:eB x.1=Q3
 case neg=>
  have hm':eB x.1=Q4:=by simpa using hm
  refine⟨1,?_,λh=>(by cases h),λh=>absurd h.may hm⟩;unfold mw ao cX;simp only[RW,Q8,zk,mv hw.t,qw hw.t,hm'];rfl
 by_cases hwl:x.2.length<=200
 case neg=>
  refine⟨13,?_,λh=>(by cases h),λh=>absurd h.few hwl⟩;unfold mw ao cX;simp only[RW,Q8,zk,mv hw.t,qw hw.t,hm];rw[if_pos trivial,if_neg sw,if_pos sg];rfl
 have hi:(RW x).val=Q1 (.inl (.h6 ((0:Nat):Int) (x,()))):=by
  simp only[RW,Q8,zk,mv hw.t,qw hw.t,hm];rw[if_pos trivial,if_neg sw,if_neg sg];rfl
 obtain⟨hkc,hrc,huc,_,_⟩:=gX hm;have h6:=lI (t:=pq) (Φ:=Ut) 1 (λi=>.h6 (i:Int) (x,())) (λi=>dZ x.1 (getD x.2 i (zi ze.sl))=(0:Int)) x.2.length (by
  intro i hi _;have hvr:=hw.vals _ (bH (d:=zi ze.sl) hi);have hv:(pq (.h6 (i:Int) (x,()))).val=if(dZ x.1 (getD x.2 i (zi ze.sl))!=0)=Q3 then Q1 (.inr (.int .i64 (dZ x.1 (getD x.2 i (zi ze.sl))),[]))else Q1 (.inl (.h6 ((i+1:Nat):Int) (x,()))):=by
   simp only[pq,Q8,zk,zH hi,zt hi,aK,Pg hw.t hvr,TI hw.t hvr,if_true];rw[zp i um]
  by_cases h:dZ x.1 (getD x.2 i (zi ze.sl))=(0:Int)
  ·refine .inl ⟨h,zP.of ?_⟩;rw[hv,if_neg (by rw[h];simp)]
  ·refine .inr ⟨h,_,zT.of (by rw[hv,if_pos (by simpa using h)]),_,rfl,h⟩)
 rcases h6 with⟨hf,h6⟩|⟨hf,r,h6,e,he,hne⟩
 case inr=>
  subst he;exact⟨e,zw hi h6 ow rfl,λh=>absurd h hne,λh=>absurd ((aq (Q:=λr=>dZ x.1 r=(0:Int))).2 h.fits) hf⟩
 have hfits:=(aq (Q:=λr=>dZ x.1 r=(0:Int))).1 hf;have hlen:∀r∈x.2,length r=x.1.2.1.length:=λr hr=>(fy (hfits r hr)).1
 have hin:∀c,C2 c x.1.2.1.length->∀r∈x.2,zN c (length r)=Q3:=λc hc r hr=>by
  rw[hlen r hr];exact tD hc
 obtain⟨b,hb,hbu⟩:=ue (rows:=x.2) (c:=x.1.2.2.1) (hin _ hkc) hsw;have hbc:my x.2 x.1.2.2.1=Q3:=by unfold my;rw[hb];rfl
 have hbv:qz x.2 x.1.2.2.1=b:=by unfold qz;rw[hb];rfl
 have hv6:(pq (.h6 (x.2.length:Int) (x,()))).val=if b=Q3 then Q1 (.inr (.int .i64 7,[]))else Q1 (.inl (.h14 ((0:Nat):Int) (x,()))):=by
  simp only[pq,Q8,zA,hbc,hbv];rfl
 by_cases hb1:b=Q3
 ·refine⟨7,zw hi (h6.ends (zT.of (by rw[hv6,if_pos hb1]))) ow rfl,λh=>(by cases h),λh=>?_⟩;have:=hbu.2 h.key;rw[hb1]at this;cases this
 have hkey:qR x.2 x.1.2.2.1:=hbu.1 (by simpa using hb1);have g14:zP pq _ (.h6 ((0:Nat):Int) (x,())) _:=h6.trans (zP.of (by rw[hv6,if_neg hb1]));have h14:=lI (t:=pq) (Φ:=Ut) 1 (λi=>.h14 (i:Int) (x,())) (λi=>qR x.2 (getD x.1.2.2.2.1 i (zi zg))) x.1.2.2.2.1.length (by
  intro i hi _;obtain⟨b,hb,hbu⟩:=ue (rows:=x.2) (c:=getD x.1.2.2.2.1 i (zi zg)) (hin _ (huc _ (bH hi))) hsw;have hbc:my x.2 (getD x.1.2.2.2.1 i (zi zg))=Q3:=by unfold my;rw[hb];rfl
  have hbv:qz x.2 (getD x.1.2.2.2.1 i (zi zg))=b:=by unfold qz;rw[hb];rfl
  have hv:(pq (.h14 (i:Int) (x,()))).val=if b=Q3 then Q1 (.inr (.int .i64 7,[]))else Q1 (.inl (.h14 ((i+1:Nat):Int) (x,()))):=by
   simp only[pq,Q8,zH hi,zt hi,if_true,aK,hbc,hbv];rw[zp i um]
  by_cases h:b=Q3
  ·refine .inr ⟨λhu=>?_,_,zT.of (by rw[hv,if_pos h]),7,rfl,by decide⟩;have:=hbu.2 hu;rw[h]at this;cases this
  ·exact .inl ⟨hbu.1 (by simpa using h),zP.of (by rw[hv,if_neg h])⟩)
 rcases h14 with⟨hq,h14⟩|⟨hq,r,h14,e,he,hne⟩
 case inr=>
  subst he;exact⟨e,zw hi (g14.ends h14) ow rfl,λh=>absurd h hne,λh=>absurd ((aq (Q:=λu=>qR x.2 u)).2 h.uniq) hq⟩
 have huniq:=(aq (Q:=λu=>qR x.2 u)).1 hq;have hv14:(pq (.h14 (x.1.2.2.2.1.length:Int) (x,()))).val=Q1 (.inl (.h19 ((0+1:Nat):Int) (x,()))):=by
  simp only[pq,Q8,zA];rfl
 have g19:=(g14.trans h14).trans (zP.of hv14);have hstep:∀i,i+1<x.2.length->(xF (ac x.1.2.2.1 (getD x.2 i (zi ze.sl))) (ac x.1.2.2.1 (getD x.2 (i+1) (zi ze.sl)))↔Q0 (GT.gt (α:=Int) (cO (ac x.1.2.2.1 (getD x.2 i (zi ze.sl))) (ac x.1.2.2.1 (getD x.2 (i+1) (zi ze.sl)))) 0)=Q4):=by
  intro i h2;have h1:i<x.2.length:=by omega
  have m1:=bH (d:=zi ze.sl) h1;have m2:=bH (d:=zi ze.sl) h2;obtain⟨l1,f1,n1⟩:=fy (hfits _ m1);obtain⟨l2,f2,_⟩:=fy (hfits _ m2);have hT:=(kU x.1).1 hm;obtain⟨k1,k2⟩:=hT.key;have hk1:toNat x.1.2.2.1<(getD x.2 i (zi ze.sl)).length:=by rw[l1];omega
  have hk2:toNat x.1.2.2.1<(getD x.2 (i+1) (zi ze.sl)).length:=by rw[l2];omega
  unfold xF;constructor
  ·intro h;exact aj ow
  ·intro h;have h:¬GT.gt (α:=Int) (cO (ac x.1.2.2.1 (getD x.2 i (zi ze.sl))) (ac x.1.2.2.1 (getD x.2 (i+1) (zi ze.sl)))) 0:=of_decide_eq_false h;by_cases h0:@Eq Int (cO (ac x.1.2.2.1 (getD x.2 i (zi ze.sl))) (ac x.1.2.2.1 (getD x.2 (i+1) (zi ze.sl)))) 0
   ·exfalso;have he:=Lg (f1 _ (bH hk1)) (f2 _ (bH hk2)) h0;have hne:=n1 _ hk1 hT.nn;have hp:=(List.pairwise_iff_getElem.1 hkey) i (i+1) h1 h2 ow;have e1:getD x.2 i (zi ze.sl)=x.2[i]:=by rw[bd,zS h1,du]
    have e2:getD x.2 (i+1) (zi ze.sl)=x.2[i+1]:=by rw[bd,zS h2,du]
    rw[e1]at hne he;rw[e2]at he;exact hp hne he
   ·omega
 have h19:=lI (t:=pq) (Φ:=Ut) 1 (λi=>.h19 ((i+1:Nat):Int) (x,())) (λi=>xF (ac x.1.2.2.1 (getD x.2 i (zi ze.sl))) (ac x.1.2.2.1 (getD x.2 (i+1) (zi ze.sl)))) (x.2.length-1) (by
  intro i hi _;have h1:i<x.2.length:=by omega
  have h2:i+1<x.2.length:=by omega
  have m1:=bH (d:=zi ze.sl) h1;have m2:=bH (d:=zi ze.sl) h2;have k1:=hin _ hkc _ m1;have k2:=hin _ hkc _ m2;have o1:∀r∈x.2,(ac x.1.2.2.1 r).2.2.length<=1000000:=by
   intro r hr;by_cases h:toNat x.1.2.2.1<length r
   ·exact(hw.vals r hr _ (bH h)).2.2
   ·unfold ac;rw[bd,eC ow];simp[zi]
  have hv:(pq (.h19 ((i+1:Nat):Int) (x,()))).val=if Q0 (GT.gt (α:=Int) (cO (ac x.1.2.2.1 (getD x.2 i (zi ze.sl))) (ac x.1.2.2.1 (getD x.2 (i+1) (zi ze.sl)))) 0)=Q3 then Q1 (.inr (.int .i64 15,[]))else Q1 (.inl (.h19 ((i+1+1:Nat):Int) (x,()))):=by
   simp only[pq,zk,pF i um];simp only[Q8,zH h2,zt h2,zt h1,aK,Prod.eta,Jt hw.t hm k1,Jt hw.t hm k2,Nq hw.t hm k1,Nq hw.t hm k2,Lq (o1 _ m1) (o1 _ m2),Pd (o1 _ m1) (o1 _ m2),if_true];rw[zp (i+1) um]
  rcases zG (Q0 (GT.gt (α:=Int) (cO (ac x.1.2.2.1 (getD x.2 i (zi ze.sl))) (ac x.1.2.2.1 (getD x.2 (i+1) (zi ze.sl)))) 0))with c|c
  ·exact .inr ⟨λh=>(by rw[(hstep i h2).1 h]at c;cases c),_,zT.of (by rw[hv,if_pos c]),15,rfl,by decide⟩
  ·exact .inl ⟨(hstep i h2).2 c,zP.of (by rw[hv,if_neg (by rw[c];simp)])⟩)
 rcases h19 with⟨hr,h19⟩|⟨hr,r,h19,e,he,hne⟩
 case inr=>
  subst he;exact⟨e,zw hi (g19.ends h19) ow rfl,λh=>absurd h hne,λh=>absurd h.rise hr⟩
 have hv19:(pq (.h19 ((x.2.length-1+1:Nat):Int) (x,()))).val=Q1 (.inr (.int .i64 0,[])):=by
  simp only[pq,Q8];rw[if_neg sg]
 exact⟨0,zw hi (g19.ends (h19.ends (zT.of hv19))) ow rfl,λ_=>⟨hm,hwl,hfits,hkey,huniq,hr⟩,λ_=>rfl⟩
theorem Jv(s:zB):∀(l:List (Sem zh))(i:Nat),gw s l (i:Int)=zU (λx:Sem zh=>x.1.1==s) l i
 |[],_=>rfl
 | x::r,i=>by
  rw[gw,zU];have h:=Jv s r (i+1);have e:(((i+1:Nat)):Int)=(i:Int)+1:=by omega
  rw[e]at h;by_cases hx:(x.1.1==s)=Q3
  ·rw[if_pos hx,if_pos hx]
  ·rw[if_neg hx,if_neg hx,h]
theorem dp(l:List (Sem zh))(s:zB):kP l s=zV l s:=Jv s l 0
theorem ee.keys{x:Sem zh}(h:ee x):∀r∈x.2,zN x.1.2.2.1 (length r)=Q3:=by
 intro r hr;obtain⟨h1,_⟩:=gX h.may;rw[(fy (h.fits r hr)).1];exact tD h1
theorem Ry(x:Sem zh)(c:Int)(v:Sem ze):Q0 (LT.lt (α:=Int) (zU (λr=>bw r c v) x.2 0) 0)=!gN x c v:=by
 unfold gN;rcases fH (λr=>bw r c v) x.2 0 with h|⟨h,_⟩
 ·rw[h];rfl
 ·have:Q0 (zU (λr=>bw r c v) x.2 0>=0)=Q3:=zu ow;rw[this,aj ow];rfl
theorem GI{db:List (Sem zh)}(hok:∀x∈db,ee x)(hw:∀x∈db,Uw x)(hl:db.length<=13):∃b,uf db=Q1 (b,())/\(b=Q3↔Du db):=by
 have h2:=lI (t:=qX) (Φ:=Uu) 1010000 (λi=>.h2 db (i:Int)) (λi=>∀f∈(getD db i (zi zh)).1.t.1,LE.le (α:=Int) 0 (zV db f.2)/\∀row∈(getD db i (zi zh)).2,(ac f.1 row).1≠0->gN (aB db f.2) (aB db f.2).1.2.2.1 (ac f.1 row)=true) db.length (by
  intro i hi _;have hm:=bH (d:=zi zh) hi;have s1:=(hw _ hm).t.nrf;have s2:=(hw _ hm).rows;have hcl:=(hok _ hm).cols;generalize hx:getD db i (zi zh)=x at*;have hv:(qX (.h2 db (i:Int))).val=Q1 (.inl (.h5 db (i:Int) ((0:Nat):Int))):=by
   simp only[qX,Q8,zH hi];rfl
  have h5:=lI (t:=qX) (Φ:=Uu) 1002 (λk=>.h5 db (i:Int) (k:Int)) (λk=>LE.le (α:=Int) 0 (zV db (getD x.1.t.1 k (zi zr)).2)/\∀row∈x.2,(ac (getD x.1.t.1 k (zi zr)).1 row).1≠0->gN (aB db (getD x.1.t.1 k (zi zr)).2) (aB db (getD x.1.t.1 k (zi zr)).2).1.2.2.1 (ac (getD x.1.t.1 k (zi zr)).1 row)=Q3) x.1.t.1.length (by
   intro k hk _;have hfm:=bH (d:=zi zr) hk;have hcf:=hcl _ hfm;generalize hf:getD x.1.t.1 k (zi zr)=f at*;have hv:(qX (.h5 db (i:Int) (k:Int))).val=if Q0 (LT.lt (α:=Int) (zV db f.2) 0)=Q3 then Q1 (.inr (.kb Q4,[]))else Q1 (.inl (.h12 db (i:Int) (k:Int) (zV db f.2) ((0:Nat):Int) (f,()))):=by
    simp only[qX,Q8,zt hi,aK,hx,zH hk,zt hk,hf,dp,if_true];rfl
   by_cases h1:LE.le (α:=Int) 0 (zV db f.2)
   ·have g1:=zP.of (t:=qX) (s:=.h5 db (i:Int) (k:Int)) (by rw[hv,if_neg (by rw[aO];omega)]);have hto:aB db f.2∈db:=bH (by
     rcases wX db f.2 with h|⟨_,h⟩
     ·rw[h]at h1;exact absurd h1 (by decide)
     ·omega)
    have htw:=hw _ hto;have hto2:=hok _ hto;have h12:=lI (t:=qX) (Φ:=Uu) 1 (λj=>.h12 db (i:Int) (k:Int) (zV db f.2) (j:Int) (f,())) (λj=>(ac f.1 (getD x.2 j (zi ze.sl))).1≠0->gN (aB db f.2) (aB db f.2).1.2.2.1 (ac f.1 (getD x.2 j (zi ze.sl)))=Q3) x.2.length (by
     intro j hj _;have hv:(qX (.h12 db (i:Int) (k:Int) (zV db f.2) (j:Int) (f,()))).val=if(bif (ac f.1 (getD x.2 j (zi ze.sl))).1!=0 then !gN (aB db f.2) (aB db f.2).1.2.2.1 (ac f.1 (getD x.2 j (zi ze.sl)))else Q4)=Q3 then Q1 (.inr (.kb Q4,[]))else Q1 (.inl (.h12 db (i:Int) (k:Int) (zV db f.2) ((j+1:Nat):Int) (f,()))):=by
      simp only[qX,Q8,zk,Prod.eta,zt hi,aK,hx,zH hj,zt hj,hcf _ (bH (d:=zi ze.sl) hj),dv h1,Pi htw.t hto2.may hto2.keys htw.rows,if_true,oC];rw[TJ htw.t hto2.may hto2.keys htw.rows,Ry];rw[if_pos (by cases((getD (getD x.2 j (zi ze.sl)) (toNat f.1) (zi ze)).1!=0)<;>rfl)];rw[zp j um]
     by_cases d1:(ac f.1 (getD x.2 j (zi ze.sl))).1=0
     ·exact .inl ⟨λh=>absurd d1 h,zP.of (by rw[hv,if_neg (by rw[d1];simp)])⟩
     ·have d1':((ac f.1 (getD x.2 j (zi ze.sl))).1!=0)=Q3:=by simpa using d1
      by_cases d2:gN (aB db f.2) (aB db f.2).1.2.2.1 (ac f.1 (getD x.2 j (zi ze.sl)))=Q3
      ·exact .inl ⟨λ_=>d2,zP.of (by rw[hv,if_neg (by rw[d2,d1'];simp)])⟩
      ·exact .inr ⟨λh=>d2 (h d1),_,zT.of (by rw[hv,if_pos (by rw[d1'];simpa using d2)]),rfl⟩)
    rcases h12 with⟨p12,g12⟩|⟨p12,r,g12,hr⟩
    ·have hv2:(qX (.h12 db (i:Int) (k:Int) (zV db f.2) (x.2.length:Int) (f,()))).val=Q1 (.inl (.h5 db (i:Int) ((k+1:Nat):Int))):=by
      simp only[qX,Q8,zt hi,aK,hx,zA];rw[zp k um];rfl
     refine .inl ⟨⟨h1,?_⟩,((g1.trans g12).trans (zP.of hv2)).mono ow⟩;exact(aq (Q:=λrow=>(ac f.1 row).1≠0->gN (aB db f.2) (aB db f.2).1.2.2.1 (ac f.1 row)=Q3)).1 p12
    ·refine .inr ⟨λh=>p12 ?_,r,(g1.ends g12).mono ow,hr⟩;exact(aq (Q:=λrow=>(ac f.1 row).1≠0->gN (aB db f.2) (aB db f.2).1.2.2.1 (ac f.1 row)=Q3)).2 h.2
   ·exact .inr ⟨λh=>h1 h.1,_,(zT.of (by rw[hv,if_pos (by rw[aO];omega)])).mono ow,rfl⟩)
  rcases h5 with⟨p5,g5⟩|⟨p5,r,g5,hr⟩
  ·have hv2:(qX (.h5 db (i:Int) (x.1.t.1.length:Int))).val=Q1 (.inl (.h2 db ((i+1:Nat):Int))):=by
    simp only[qX,Q8,zt hi,aK,hx,zA];rw[zp i um];rfl
   refine .inl ⟨?_,(((zP.of hv).trans g5).trans (zP.of hv2)).mono ow⟩;exact(aq (Q:=λf:Sem zr=>LE.le (α:=Int) 0 (zV db f.2)/\∀row∈x.2,(ac f.1 row).1≠0->gN (aB db f.2) (aB db f.2).1.2.2.1 (ac f.1 row)=Q3)).1 p5
  ·refine .inr ⟨λh=>p5 ?_,r,((zP.of hv).ends g5).mono ow,hr⟩;exact(aq (Q:=λf:Sem zr=>LE.le (α:=Int) 0 (zV db f.2)/\∀row∈x.2,(ac f.1 row).1≠0->gN (aB db f.2) (aB db f.2).1.2.2.1 (ac f.1 row)=Q3)).2 h)
 have hb:(∀i,i<db.length->∀f∈(getD db i (zi zh)).1.t.1,LE.le (α:=Int) 0 (zV db f.2)/\∀row∈(getD db i (zi zh)).2,(ac f.1 row).1≠0->gN (aB db f.2) (aB db f.2).1.2.2.1 (ac f.1 row)=Q3)↔Du db:=
  aq (Q:=λx:Sem zh=>∀f∈x.1.t.1,LE.le (α:=Int) 0 (zV db f.2)/\∀row∈x.2,(ac f.1 row).1≠0->gN (aB db f.2) (aB db f.2).1.2.2.1 (ac f.1 row)=Q3)
 have hi:(zhq db).val=Q1 (.inl (.h2 db ((0:Nat):Int))):=rfl;rcases h2 with⟨h2,h3⟩|⟨h2,r,h3,h4⟩
 ·refine⟨Q3,zw hi (h3.ends (zT.of (r:=(.kb Q3,[])) ?_)) ow rfl,λ_=>hb.1 h2,λ_=>rfl⟩;simp only[qX,Q8,zA];rfl
 ·unfold Uu at h4;subst h4;exact⟨Q4,zw hi h3 ow rfl,λh=>(by cases h),λh=>absurd (hb.2 h) h2⟩
theorem GK{db:List (Sem zh)}(hw:∀x∈db,Uw x):∃e:Int,pl db=Q1 (e,())/\(e=0↔iM db):=by
 by_cases hwl:db.length<=12
 case neg=>
  refine⟨13,?_,λh=>(by cases h),λh=>absurd h.few hwl⟩;unfold pl ao cX;simp only[i9p,Q8];rw[if_pos sg];rfl
 have hi:(i9p db).val=Q1 (.inl (.h4 db ((0+1:Nat):Int))):=by
  simp only[i9p,Q8];rw[if_neg sg];rfl
 have h4:=lI (t:=T9) (Φ:=Ut) 1 (λi=>.h4 db ((i+1:Nat):Int)) (λi=>Op.bytesLess (getD db i (zi zh)).1.1 (getD db (i+1) (zi zh)).1.1=Q3) (db.length-1) (by
  intro i hi _;have h1:i<db.length:=by omega
  have h2:i+1<db.length:=by omega
  have hv:(T9 (.h4 db ((i+1:Nat):Int))).val=if(!Op.bytesLess (getD db i (zi zh)).1.1 (getD db (i+1) (zi zh)).1.1)=Q3 then Q1 (.inr (.int .i64 15,[]))else Q1 (.inl (.h4 db ((i+1+1:Nat):Int))):=by
   simp only[T9,pF i um];simp only[Q8,zH h2,zt h2,zt h1,aK,if_true];rw[zp (i+1) um]
  by_cases h:Op.bytesLess (getD db i (zi zh)).1.1 (getD db (i+1) (zi zh)).1.1=Q3
  ·exact .inl ⟨h,zP.of (by rw[hv,if_neg (by rw[h];simp)])⟩
  ·exact .inr ⟨h,_,zT.of (by rw[hv,if_pos (by simpa using h)]),15,rfl,by decide⟩)
 rcases h4 with⟨hn,h4⟩|⟨hn,r,h4,e,he,hne⟩
 case inr=>
  subst he;exact⟨e,zw hi h4 ow rfl,λh=>absurd h hne,λh=>absurd h.names hn⟩
 have hv4:(T9 (.h4 db ((db.length-1+1:Nat):Int))).val=Q1 (.inl (.h9 db ((0:Nat):Int))):=by
  simp only[T9,Q8];rw[if_neg sg];rfl
 have g9:=h4.trans (zP.of hv4);have h9:=lI (t:=T9) (Φ:=Ut) 1 (λi=>.h9 db (i:Int)) (λi=>ee (getD db i (zi zh))) db.length (by
  intro i hi _;obtain⟨e,he,heq⟩:=GD (hw _ (bH (d:=zi zh) hi));have hc:B4 (getD db i (zi zh))=Q3:=by unfold B4;rw[he];rfl
  have hv0:GC (getD db i (zi zh))=e:=by unfold GC;rw[he];rfl
  have hv:(T9 (.h9 db (i:Int))).val=if(e !=0)=Q3 then Q1 (.inr (.int .i64 e,[]))else Q1 (.inl (.h9 db ((i+1:Nat):Int))):=by
   simp only[T9,Q8,zk,zH hi,zt hi,aK,if_true,Prod.eta,hc,hv0];rw[zp i um]
  by_cases h:e=0
  ·exact .inl ⟨heq.1 h,zP.of (by rw[hv,if_neg (by rw[h];simp)])⟩
  ·exact .inr ⟨λhr=>h (heq.2 hr),_,zT.of (by rw[hv,if_pos (by simpa using h)]),e,rfl,h⟩)
 rcases h9 with⟨hr,h9⟩|⟨hr,r,h9,e,he,hne⟩
 case inr=>
  subst he;exact⟨e,zw hi (g9.ends h9) ow rfl,λh=>absurd h hne,λh=>absurd ((aq (Q:=ee)).2 h.rels) hr⟩
 have hrels:=(aq (Q:=ee)).1 hr;obtain⟨b,hb,hbb⟩:=GI (db:=db) hrels hw ow;have hc:B7 db=Q3:=by unfold B7;rw[hb];rfl
 have hv0:GH db=b:=by unfold GH;rw[hb];rfl
 have hv9:(T9 (.h9 db (db.length:Int))).val=if(!b)=Q3 then Q1 (.inr (.int .i64 10,[]))else Q1 (.inr (.int .i64 0,[])):=by
  simp only[T9,Q8,zA,hc,hv0];rfl
 by_cases h:b=Q3
 ·exact⟨0,zw hi (g9.ends (h9.ends (zT.of (by rw[hv9,if_neg (by rw[h];simp)])))) ow rfl,λ_=>⟨hwl,hn,hrels,hbb.1 h⟩,λ_=>rfl⟩
 ·exact⟨10,zw hi (g9.ends (h9.ends (zT.of (by rw[hv9,if_pos (by simpa using h)])))) ow rfl,λh=>(by cases h),λhB=>absurd (hbb.2 hB.bound) h⟩
theorem Bl(x:Int):∀(l:List Int)(i:Nat),(∃j,∃hj:j<l.length,eE x l (i:Int)=((i+j:Nat):Int)/\l[j]=x/\∀k(hk:k<j),l[k]≠x)\/(eE x l (i:Int)=(-1:Int)/\x∉l)
 |[],i=>.inr ⟨rfl,sw⟩
 | a::r,i=>by
  rw[eE];by_cases h:x=a
  ·rw[if_pos (by simpa using h)];exact .inl ⟨0,sw,sw,h.symm,λk hk=>absurd hk ow⟩
  ·rw[if_neg (by simpa using h),show((i:Int)+1)=((i+1:Nat):Int) by omega];rcases Bl x r (i+1)with⟨j,hj,h1,h2,h3⟩|⟨h1,h2⟩
   ·refine .inl ⟨j+1,by simpa using hj,by rw[h1];congr 1;omega,h2,λk hk=>?_⟩;cases k with
    |zero=>exact λe=>h e.symm
    |succ k=>exact h3 k ow
   ·exact .inr ⟨h1,by simp[h2,h]⟩
theorem R6(l:List Int)(x:Int):(∃j,∃hj:j<l.length,gV l x=(j:Int)/\l[j]=x/\∀k(hk:k<j),l[k]≠x)\/(gV l x=(-1:Int)/\x∉l):=by
 rcases Bl x l 0 with⟨j,hj,h1,h2⟩|h
 ·exact .inl ⟨j,hj,by show eE x l ((0:Nat):Int)=_;rw[h1,ft],h2⟩
 ·exact .inr h
def Xp(c:Sem zj):Prop:=zL c.1=Q3/\LE.le (α:=Int) 1 c.2.1/\LE.le (α:=Int) c.2.1 3
theorem nL.col{t:Sem zo}(h:nL t):∀c∈t.2.1,Xp c:=by
 intro c hc;obtain⟨i,hi,rfl⟩:=gn hc;have:=h.cols i hi;rw[bd,zS hi,du]at this;exact⟨this.1,this.2.1,this.2.2.1⟩
theorem To{t:Sem zo}{s:zB}(h:¬LT.lt (α:=Int) (zQ t s) 0):toNat (zQ t s)<t.2.1.length:=by
 rcases uK t s with h1|⟨h1,h2⟩
 ·rw[h1]at h;simp at h
 ·omega
theorem nL.at{t:Sem zo}(h:nL t){s:zB}(hs:¬LT.lt (α:=Int) (zQ t s) 0):Xp (getD t.2.1 (toNat (zQ t s)) (zi zj)):=h.col _ (tv _ _ (To hs))
theorem Ix{db:List (Sem zh)}{n:zB}(hB:iM db)(h:(0:Int)<=zV db n):nL (aw db n):=(kU _).1 (hB.rels _ (mg h)).may
theorem EM{t:Sem zo}{names:List zB}(h:fZ t names=0):(∀s∈names,¬LT.lt (α:=Int) (zQ t s) 0)/\(kG t names).Nodup:=by
 unfold fZ at h;split at h
 ·rename_i h1;split at h
  ·exact⟨h1,by assumption⟩
  ·cases h
 ·cases h
theorem OZ{s:Sem zl}(hw:oo s)(hst:dY s=Q3)(hm:jt s.1):zL s.2.1=Q3/\bR s.t.t.1=Q3/\(s.1=[99,111,112,121]->1<=s.2.2.2.1.length/\s.2.2.2.1.length<=8)/\(s.1=[106,111,105,110]->zL s.t.t.t=Q3)/\(s.1=[103,114,111,117,112]->s.2.2.2.1.length=2):=by
 have hp:=lE hst;rcases hm with o|o|o
 ·rw[Ng hw o]at hp;simp only[aD,kH,aO]at hp;exact⟨hp.2.1,hp.1.2.1,λ_=>hp.1.1.2,λk=>(by rw[o]at k;cases k),λk=>(by rw[o]at k;cases k)⟩
 ·rw[Nh hw o]at hp;simp only[aD,ng]at hp;exact⟨hp.2.1,hp.1.1,λk=>(by rw[o]at k;cases k),λ_=>hp.1.2.2.1,λk=>(by rw[o]at k;cases k)⟩
 ·rw[Jc hw o]at hp;simp only[aD,gC,aO]at hp;exact⟨hp.2.1,hp.1.2.1,λk=>(by rw[o]at k;cases k),λk=>(by rw[o]at k;cases k),λ_=>hp.1.1⟩
abbrev rN(e:Int):ar:=(.tup [zPl,.int .i64 e],[])
def uZ(r:ar)(x:Int×Sem zz):Prop:=aM r.2 [zz,zg] r.1=Q1 (x.2,x.1,())
theorem dP(e:Int):uZ (rN e) (e,jw):=rfl
theorem zcO(st:Nat->kj)(R:ar){p:Sem zz}(hR:uZ R (0,p))
  (hv:∀i,i<=p.2.2.2.1.2.1.length->(dr (st i)).val=if i<p.2.2.2.1.2.1.length then(if af p.2.2.2.1.2.1 (getD p.2.2.2.1.2.1 i (zi zj)).1=(i:Int)then Q1 (.inl (st (i+1)))else Q1 (.inr (rN 7)))else(if qT p.2.2.2.1.t.2 p.2.2.2.1.2.1=0 then Q1 (.inr R)else Q1 (.inr (rN (qT p.2.2.2.1.t.2 p.2.2.2.1.2.1))))):
  ∃r,zT dr (p.2.2.2.1.2.1.length*1+1) (st 0) r/\uZ r (js 0 p):=by
 have hT:uM p.2.2.2.1=if∃i,i<length p.2.2.2.1.2.1/\zQ p.2.2.2.1 (getD p.2.2.2.1.2.1 i (zi zj)).1≠(i:Int)then 7 else qT p.2.2.2.1.t.2 p.2.2.2.1.2.1:=rfl
 unfold js;rw[if_pos rfl,hT]
 rcases lI (t:=dr) (Φ:=λr=>r=rN 7) 1 st (λi=>af p.2.2.2.1.2.1 (getD p.2.2.2.1.2.1 i (zi zj)).1=(i:Int)) p.2.2.2.1.2.1.length (λi hi _=>by
  have h:=hv i ow;rw[if_pos hi]at h;by_cases c:af p.2.2.2.1.2.1 (getD p.2.2.2.1.2.1 i (zi zj)).1=(i:Int)
  ·exact .inl ⟨c,zP.of (by rw[h,if_pos c])⟩
  ·exact .inr ⟨c,_,zT.of (by rw[h,if_neg c]),rfl⟩)with⟨h1,h2⟩|⟨h1,r,h2,rfl⟩
 ·have hn:¬∃i,i<length p.2.2.2.1.2.1/\zQ p.2.2.2.1 (getD p.2.2.2.1.2.1 i (zi zj)).1≠(i:Int):=by
   rintro⟨i,hi,hne⟩;exact hne (h1 i hi)
  rw[if_neg hn];have h:=hv _ (az _);rw[if_neg (Nat.lt_irrefl _)]at h;by_cases c:qT p.2.2.2.1.t.2 p.2.2.2.1.2.1=0
  ·rw[if_pos c]at h⊢;exact⟨_,(h2.ends (zT.of h)).mono ow,hR⟩
  ·rw[if_neg c]at h⊢;exact⟨_,(h2.ends (zT.of h)).mono ow,dP _⟩
 ·have hy:∃i,i<length p.2.2.2.1.2.1/\zQ p.2.2.2.1 (getD p.2.2.2.1.2.1 i (zi zj)).1≠(i:Int):=by
   apply mO;intro hn;refine h1 λi hi=>?_
   apply mO;exact λhc=>hn ⟨i,hi,hc⟩
  rw[if_pos hy,if_neg (by decide)];exact⟨_,h2.mono ow,dP _⟩
structure Ab (s:Sem zl):Prop where
 wf:rL s.t.t.1
 may:(s.t.t.1.op==[])=Q4->dc s.t.t.1=Q3
abbrev plQ(z:zn Oh):Sem zz:=(z.1,z.2.1,z.2.2.1,(z.2.2.2.1,z.t.1,z.t.2.1,[],[],z.t.q.1),z.t.q.2.1,z.t.t.1)
theorem ziy{s:Sem zl}(hs:Ab s)(z1:zn jF)(z:zn zbI)(hz:z.t.q.1=s.t.t.1)(hl:length z.t.1<=1000):
  ∃r,zT dr (length z.t.1*1+1) (.h64 ((0:Nat):Int) (s,()) z1 z) r/\uZ r (js 0 (plQ z)):=by
 obtain⟨k1,k2⟩:=B5 (cols:=z.t.1) hs.wf ow hs.may;refine zcO (p:=plQ z) (λi=>.h64 (i:Int) (s,()) z1 z) ?R ?h ?v
 case v=>
  intro i hi;by_cases h:i<length z.t.1
  ·have e1:dz z.t.1 (getD z.t.1 i (zi zj)).1=Q3:=iX ow;have e2:eH z.t.1 (getD z.t.1 i (zi zj)).1=af z.t.1 (getD z.t.1 i (zi zj)).1:=ke ow;rw[if_pos h];simp only[dr,rE,Q8,zH h,zt h,aK,e1,e2,if_true];rw[zp i um];by_cases c:af z.t.1 (getD z.t.1 i (zi zj)).1=(i:Int)
   ·rw[if_pos c,if_neg (by simpa using c)]
   ·rw[if_neg c,if_pos (by simpa using c)]
  ·obtain rfl:i=length z.t.1:=Nat.le_antisymm hi ow;rw[if_neg h];show(dr (.h64 _ _ _ _)).val=if qT z.t.q.1 z.t.1=0 then Q1 (Sum.inr _)else Q1 (Sum.inr (rN (qT z.t.q.1 z.t.1)))
   rw[hz];simp only[dr,rE,Q8,zA,zk,k1,k2,if_true,zE,if_false];by_cases c:qT s.t.t.1 z.t.1=0
   ·rw[if_pos c,if_neg (by simpa using c)]
   ·rw[if_neg c,if_pos (by simpa using c)]
 case h=>
  unfold uZ;obtain⟨z0,z1,z2,z3,z4,z5,e,z7,z8,z9⟩:=z;cases e;rfl
theorem ziz{s:Sem zl}(hs:Ab s)(z1:zn jF)(z:zn Oh)(hz:z.t.q.1=s.t.t.1)(hl:length z.t.1<=1000):
  ∃r,zT dr (length z.t.1*1+1) (.h64bb ((0:Nat):Int) (s,()) z1 z) r/\uZ r (js 0 (plQ z)):=by
 obtain⟨k1,k2⟩:=B5 (cols:=z.t.1) hs.wf ow hs.may;refine zcO (p:=plQ z) (λi=>.h64bb (i:Int) (s,()) z1 z) ?R ?h ?v
 case v=>
  intro i hi;by_cases h:i<length z.t.1
  ·have e1:dz z.t.1 (getD z.t.1 i (zi zj)).1=Q3:=iX ow;have e2:eH z.t.1 (getD z.t.1 i (zi zj)).1=af z.t.1 (getD z.t.1 i (zi zj)).1:=ke ow;rw[if_pos h];simp only[dr,rE,Q8,zH h,zt h,aK,zu h,e1,e2,if_true];rw[zp i um];by_cases c:af z.t.1 (getD z.t.1 i (zi zj)).1=(i:Int)
   ·rw[if_pos c,if_neg (by simpa using c)]
   ·rw[if_neg c,if_pos (by simpa using c)]
  ·obtain rfl:i=length z.t.1:=Nat.le_antisymm hi ow;rw[if_neg h];show(dr (.h64bb _ _ _ _)).val=if qT z.t.q.1 z.t.1=0 then Q1 (Sum.inr _)else Q1 (Sum.inr (rN (qT z.t.q.1 z.t.1)))
   rw[hz];simp only[dr,rE,Q8,zA,zk,k1,k2,if_true,zE,if_false];by_cases c:qT s.t.t.1 z.t.1=0
   ·rw[if_pos c,if_neg (by simpa using c)]
   ·rw[if_neg c,if_pos (by simpa using c)]
 case h=>
  unfold uZ;obtain⟨z0,z1,z2,z3,z4,z5,e,z7,z8,z9⟩:=z;cases e;rfl
theorem ziA{s:Sem zl}(hs:Ab s)(z1:zn jF)(z:zn Qz)(hz:z.t.q.1=s.t.t.1)(hl:length z.t.1<=1000):
  ∃r,zT dr (length z.t.1*1+1) (.h64bbb ((0:Nat):Int) (s,()) z1 z) r/\uZ r (js 0 (plQ z)):=by
 obtain⟨k1,k2⟩:=B5 (cols:=z.t.1) hs.wf ow hs.may;refine zcO (p:=plQ z) (λi=>.h64bbb (i:Int) (s,()) z1 z) ?R ?h ?v
 case v=>
  intro i hi;by_cases h:i<length z.t.1
  ·have e1:dz z.t.1 (getD z.t.1 i (zi zj)).1=Q3:=iX ow;have e2:eH z.t.1 (getD z.t.1 i (zi zj)).1=af z.t.1 (getD z.t.1 i (zi zj)).1:=ke ow;rw[if_pos h];simp only[dr,rE,Q8,zH h,zt h,aK,zu h,e1,e2,if_true];rw[zp i um];by_cases c:af z.t.1 (getD z.t.1 i (zi zj)).1=(i:Int)
   ·rw[if_pos c,if_neg (by simpa using c)]
   ·rw[if_neg c,if_pos (by simpa using c)]
  ·obtain rfl:i=length z.t.1:=Nat.le_antisymm hi ow;rw[if_neg h];show(dr (.h64bbb _ _ _ _)).val=if qT z.t.q.1 z.t.1=0 then Q1 (Sum.inr _)else Q1 (Sum.inr (rN (qT z.t.q.1 z.t.1)))
   rw[hz];simp only[dr,rE,Q8,zA,zk,k1,k2,if_true,zE,if_false];by_cases c:qT s.t.t.1 z.t.1=0
   ·rw[if_pos c,if_neg (by simpa using c)]
   ·rw[if_neg c,if_pos (by simpa using c)]
 case h=>
  unfold uZ;obtain⟨z0,z1,z2,z3,z4,z5,e,z7,z8,z9⟩:=z;cases e;rfl
def ru(k:Int)(l:List Int):Nat->Int
 |0=>-1
 |i+1=>if l.getD i 0=k then(i:Int)else ru k l i
theorem IV{k:Int}{l:List Int}{j:Nat}(hj:j<l.length)(hk:l[j]=k)(hn:l.Nodup):∀i,i<=l.length->ru k l i=if j<i then(j:Int)else -1
 |0,_=>rfl
 | i+1,hi=>by
  rw[ru,IV hj hk hn i ow,bd,zS (by omega:i<l.length),du];by_cases h:l[i]=k
  ·have:i=j:=by
    rcases Nat.lt_trichotomy i j with c|c|c
    ·exact absurd (h.trans hk.symm) (List.pairwise_iff_getElem.1 hn i j ow hj c)
    ·exact c
    ·exact absurd (hk.trans h.symm) (List.pairwise_iff_getElem.1 hn j i hj ow c)
   rw[if_pos h,if_pos ow,this]
  ·rw[if_neg h];by_cases c:j<i
   ·rw[if_pos c,if_pos ow]
   ·have:j≠i:=by rintro rfl;exact h hk
    rw[if_neg c,if_neg ow]
theorem IW{k:Int}{l:List Int}(hk:k∉l):∀i,i<=l.length->ru k l i=-1
 |0,_=>rfl
 | i+1,hi=>by
  rw[ru,IW hk i ow,bd,zS (by omega:i<l.length),du,if_neg];rintro rfl;exact hk (bu _)
theorem SA{k:Int}{l:List Int}(hn:l.Nodup):ru k l l.length=gV l k:=by
 rcases R6 l k with⟨j,hj,h1,h2,_⟩|⟨h1,h2⟩
 ·rw[h1,IV hj h2 hn _ (az _),if_pos hj]
 ·rw[h1,IW h2 _ (az _)]
theorem zmp{s:Sem zl}(hs:Ab s)(z1:zn jF){t:Sem zo}{a b c d:zB}{l:List Int}{on:Int}(hl:l.length<=1000)(hn:l.Nodup)(hin:∀x∈l,zN x t.2.1.length=Q3):
  ∃r k,zT dr k (.h24 ((0:Nat):Int) (s,()) z1 (a,b,c,d,[],-1,s.t.t.1,l,on,()) (t,())) r/\k<=10000/\
   uZ r (js (if LT.lt (α:=Int) (gV l t.2.2.1) 0 then 1 else 0) (a,b,c,(d,l.map (λx=>getD t.2.1 (toNat x) (zi zj)),gV l t.2.2.1,[],[],s.t.t.1),l,on)):=by
 have hg:=zP.all (t:=dr) 1 (λi=>.h24 (i:Int) (s,()) z1 (a,b,c,d,(l.take i).map (λx=>getD t.2.1 (toNat x) (zi zj)),ru t.2.2.1 l i,s.t.t.1,l,on,()) (t,())) l.length (by
  intro i hi;refine zP.of ?_;have e1:getD l ((i:Int).toNat) (zi zg)=l[i]:=zO l _ hi;have e2:zN l[i] t.2.1.length=Q3:=hin _ (bu hi);have e3:ru t.2.2.1 l (i+1)=if l[i]=t.2.2.1 then(i:Int)else ru t.2.2.1 l i:=by
   rw[ru,bd,zS hi,du]
  have e5:Q0 (length ((l.take i).map (λx=>getD t.2.1 (toNat x) (zi zj)))+length [getD t.2.1 (toNat l[i]) (zi zj)]<=1073741824)=Q3:=zu sg;simp only[dr,rE,Q8,zH hi,zt hi,e1,e2,e5,if_true];rw[zp i um,cj hi,iI,e3];by_cases k:l[i]=t.2.2.1
  ·rw[if_pos k,if_pos (by simpa using k)];rfl
  ·rw[if_neg k,if_neg (by simpa using k)];rfl)
 rw[jN,SA hn]at hg;by_cases h:LT.lt (α:=Int) (gV l t.2.2.1) 0
 ·rw[if_pos h];refine⟨rN 1,_,hg.ends (zT.of ?_),ow,dP 1⟩;simp only[dr,rE,Q8,zA,zu h,if_true,zE,if_false]
 ·rw[if_neg h];obtain⟨r,h1,h2⟩:=ziz hs z1 (a,b,c,d,l.map (λx=>getD t.2.1 (toNat x) (zi zj)),gV l t.2.2.1,s.t.t.1,l,on,()) rfl (by simpa using hl);refine⟨r,_,hg.ends ((zP.of ?_).ends h1),sg,h2⟩;simp only[dr,rE,Q8,zA,aj h,zE,if_false];rfl
theorem xm(a:Int)(b:zB):∀(l:List (Sem zr))(i:Nat),GE.ge (α:=Int) (il a b l (i:Int)) 0↔(a,b)∈l
 | [],i=>by
  rw[il];exact⟨λh=>absurd h (by decide),λh=>by cases h⟩
 | x::r,i=>by
  rw[il];split
  ·rename_i h;have:(a,b)=x:=by
    simp only[Bool.and_true,aD,ba]at h;exact Prod.ext h.1 h.2
   rw[<-this];exact⟨λ_=>wO,λ_=>Int.natCast_nonneg i⟩
  ·rename_i h;have:=xm a b r (i+1);rw[sT]at this;rw[cm];refine⟨λh2=>.inr (this.1 h2),λh2=>this.2 (h2.resolve_left ?_)⟩;rintro rfl;simp at h
theorem sk(l:List (Sem zr))(x:Sem zr):jH l x=Q3↔x∈l:=by
 unfold jH;rw[HS];exact xm x.1 x.2 l 0
def kD(on:Int)(w:zB)(l:List (Sem zr)):Bool:=l.any λf=>f.1==on&&f.2==w
theorem KP(on:Int)(w:zB)(l:List (Sem zr)):kD on w l=jH l (on,w):=by
 apply ig.2;rw[sk];unfold kD;rw[List.any_eq_true];constructor
 ·rintro⟨f,hf,h⟩;simp only[aD,ba]at h;have:f=(on,w):=Prod.ext h.1 h.2
  rwa [this]at hf
 ·intro h;exact⟨_,h,sw⟩
theorem xi(on:Int)(w:zB)(l:List (Sem zr))(f:Sem zr):kD on w (l++[f])=bif kD on w l then Q3 else bif f.1==on then f.2==w else Q4:=by
 unfold kD;simp only[List.any_append,List.any_cons,List.any_nil,Bool.or_false];cases(l.any λf=>f.1==on&&f.2==w)<;>cases(f.1==on)<;>rfl
theorem zmr{s:Sem zl}(hs:Ab s)(z1:zn jF){t u:Sem zo}{a b c d:zB}{on:Int}(ht:t.2.1.length<=100)(hu:u.2.1.length<=100):
  ∃r k,zT dr k (.h48 ((0:Nat):Int) (s,()) z1 (a,b,c,d,t.2.1,t.2.2.1,s.t.t.1,[],on,()) (u,())) r/\k<=10000/\
   uZ r (js 0 (a,b,c,(d,t.2.1++gv u (length u.2.1),t.2.2.1,[],[],s.t.t.1),jV u.2.2.1 (length u.2.1),on)):=by
 have hg:=zP.all (t:=dr) 1 (λi=>.h48 (i:Int) (s,()) z1 (a,b,c,d,t.2.1++gv u i,t.2.2.1,s.t.t.1,jV u.2.2.1 i,on,()) (u,())) u.2.1.length (by
  intro i hi;refine zP.of ?_;have hoth:=o6 u.2.2.1 i;have hsucc:=EK u.2.2.1 i;have l1:(jV u.2.2.1 i).length<=100:=by unfold jV;rw[da];omega
  have l2:(gv u i).length<=100:=by unfold gv;rw[da];omega
  simp only[dr,Q8,zH hi,zt hi,if_true,zO _ _ hi];rw[zp i um];by_cases k:((i:Int)!=u.2.2.1)=Q3
  ·rw[if_pos k]at hsucc;rw[if_pos k,if_pos sg,if_pos sg,gv,gv,jV,jV,hsucc,iI,iI,<-An];simp[zS hi]
  ·rw[if_neg k]at hsucc;rw[if_neg k,gv,gv,jV,jV,hsucc])
 have l1:(gv u (length u.2.1)).length<=100:=by have:=o6 u.2.2.1 (length u.2.1);unfold gv;rw[da];omega
 obtain⟨r,h1,h2⟩:=ziA hs z1 (a,b,c,d,t.2.1++gv u (length u.2.1),t.2.2.1,s.t.t.1,jV u.2.2.1 (length u.2.1),on,()) rfl sg;have h3:zP dr 1 (.h48 (u.2.1.length:Int) (s,()) z1 (a,b,c,d,t.2.1++gv u (length u.2.1),t.2.2.1,s.t.t.1,jV u.2.2.1 (length u.2.1),on,()) (u,())) (.h64bbb ((0:Nat):Int) (s,()) z1 (a,b,c,d,t.2.1++gv u (length u.2.1),t.2.2.1,s.t.t.1,jV u.2.2.1 (length u.2.1),on,())):=zP.of (by
  simp only[dr,Q8,zA];rfl)
 have h0:t.2.1++gv u 0=t.2.1:=wS _;have h5:=hg.ends (h3.ends h1);rw[h0]at h5;exact⟨r,_,h5,sg,h2⟩
theorem zmq{s:Sem zl}(hs:Ab s)(z1:zn jF){t u:Sem zo}{a b c d:zB}{k0 on:Int}(ht:t.2.1.length<=100)(hu:u.2.1.length<=100)(hr:t.t.1.length<=1000):
  ∃r k,zT dr k (.h38 ((0:Nat):Int) (s,()) z1 (a,b,c,d,k0,s.t.t.1,on,()) (t,()) (u,())) r/\k<=20000/\
   uZ r (js (if jH t.t.1 (on,s.t.t.t)=Q3 then(if LT.lt (α:=Int) 9 ((length t.2.1:Int)+(length u.2.1:Int))then 13 else 0)else 10) (a,b,c,(d,t.2.1++gv u (length u.2.1),t.2.2.1,[],[],s.t.t.1),jV u.2.2.1 (length u.2.1),on)):=by
 rw[<-KP];by_cases h0:0<t.t.1.length
 ·have hg0:zP dr 1 (.h38 ((0:Nat):Int) (s,()) z1 (a,b,c,d,k0,s.t.t.1,on,()) (t,()) (u,())) (.h38b (kD on s.t.t.t (t.t.1.take (0+1))) ((0+1:Nat):Int) (s,()) z1 (a,b,c,d,k0,s.t.t.1,on,()) (t,()) (u,())):=zP.of (by
   have e:t.t.1.take (0+1)=[]++[t.t.1[0]]:=cj h0;rw[e,xi];simp only[dr,rE,Q8,zH h0,zt h0,if_true,zO _ _ h0];rw[zp 0 um];cases((t.t.1[0]).1==on)<;>rfl)
  have hg:=zP.all (t:=dr) 1 (λi=>.h38b (kD on s.t.t.t (t.t.1.take (i+1))) ((i+1:Nat):Int) (s,()) z1 (a,b,c,d,k0,s.t.t.1,on,()) (t,()) (u,())) (t.t.1.length-1) (by
   intro i hi;have hi:i+1<t.t.1.length:=by omega
   refine zP.of ?_;rw[cj hi,xi];simp only[dr,rE,Q8,zH hi,zt hi,zO _ _ hi];rw[zp (i+1) um];cases kD on s.t.t.t (t.t.1.take (i+1))<;>cases((t.t.1[i+1]).1==on)<;>rfl)
  have hn:t.t.1.length-1+1=t.t.1.length:=by omega
  rw[hn,jN]at hg;have hw:IntKind.i64.wrap ((↑(length t.2.1):Int)+(↑(length u.2.1):Int))=(↑(length t.2.1):Int)+(↑(length u.2.1):Int):=lc _ ow ow;by_cases hf:kD on s.t.t.t t.t.1=Q3
  ·rw[if_pos hf];by_cases h9:LT.lt (α:=Int) 9 ((length t.2.1:Int)+(length u.2.1:Int))
   ·rw[if_pos h9];refine⟨rN 13,_,(hg0.trans hg).ends (zT.of ?_),ow,dP 13⟩;simp only[dr,rE,Q8,zA,hf,hw,bK,zE,if_false];rw[if_pos (by simpa using h9)]
   ·rw[if_neg h9];obtain⟨r,k,h1,h2,h3⟩:=zmr hs z1 (a:=a) (b:=b) (c:=c) (d:=d) (on:=on) ht hu;refine⟨r,_,(hg0.trans hg).ends ((zP.of ?_).ends h1),ow,h3⟩;simp only[dr,rE,Q8,zA,hf,hw,bK,zE,if_false];rw[if_neg (by simpa using h9),if_pos sg];rfl
  ·rw[if_neg hf];have hf:kD on s.t.t.t t.t.1=Q4:=by simpa using hf
   refine⟨rN 10,_,(hg0.trans hg).ends (zT.of ?_),ow,dP 10⟩;simp only[dr,rE,Q8,zA,hf,cQ,if_true,zE,if_false]
 ·have hnil:t.t.1=[]:=xI ow;rw[hnil,if_neg (by unfold kD;simp)];refine⟨rN 10,1,zT.of ?_,ow,dP 10⟩;simp only[dr,rE,Q8,hnil];rfl
theorem yh{e:Int}{p:Sem zz}(h:e≠0):js e p=(e,jw):=by unfold js;rw[if_neg h]
theorem Qy(t:Sem zo)(names:List zB):gr t names=(kG t names).map λx=>getD t.2.1 (toNat x) (zi zj):=by
 unfold gr kG;rw[oD];rfl
theorem of7{db:List (Sem zh)}{s:Sem zl}(hB:iM db)(hw:oo s)(hst:dY s=Q3)(hm:jt s.1)(hb:km db=(0:Int))(hdb:∀x∈db,Uw x)(z1:zn jF):
  ∃r k,zT dr k (.h7 db (bJ s.2.2.1 s.t.t.t) ((0:Nat):Int) (s,()) z1 (s.1,s.2.2.1,s.t.t.t,s.2.1,0,s.t.t.1,0,())) r/\k<=90000/\uZ r (aT db s):=by
 obtain⟨hnm,hmb,m1,m2,m3⟩:=OZ hw hst hm;have hs:Ab s:=⟨hw.chk,λh=>by
  unfold bR at hmb;rcases zG (gR s.t.t.1)with c|c
  ·rw[j4.1 c]at h;cases h
  ·rw[c]at hmb;exact hmb⟩
 have hP:aT db s=if nG db s.2.2.1 s.t.t.t s.2.1=0 then dh db s else(nG db s.2.2.1 s.t.t.t s.2.1,jw):=by
  unfold aT;rw[if_pos ⟨hm,hst,hb⟩]
 have hnl:(bJ s.2.2.1 s.t.t.t).length<=2:=by unfold bJ;split<;>simp
 rw[hP];clear hP
 rcases lI (t:=dr) (Φ:=λr=>r=rN 6) 1 (λi=>.h7 db (bJ s.2.2.1 s.t.t.t) (i:Int) (s,()) z1 (s.1,s.2.2.1,s.t.t.t,s.2.1,0,s.t.t.1,0,())) (λi=>∀h:i<(bJ s.2.2.1 s.t.t.t).length,LE.le (α:=Int) 0 (zV db (bJ s.2.2.1 s.t.t.t)[i])) (bJ s.2.2.1 s.t.t.t).length (λi hi _=>by
  have hv:(dr (.h7 db (bJ s.2.2.1 s.t.t.t) (i:Int) (s,()) z1 (s.1,s.2.2.1,s.t.t.t,s.2.1,0,s.t.t.1,0,()))).val=if LT.lt (α:=Int) (zV db (bJ s.2.2.1 s.t.t.t)[i]) 0 then Q1 (.inr (rN 6))else Q1 (.inl (.h7 db (bJ s.2.2.1 s.t.t.t) ((i+1:Nat):Int) (s,()) z1 (s.1,s.2.2.1,s.t.t.t,s.2.1,0,s.t.t.1,0,()))):=by
   simp only[dr,rE,Q8,zH hi,zt hi,if_true,zO _ _ hi,dp];rw[zp i um];by_cases c:LT.lt (α:=Int) (zV db (bJ s.2.2.1 s.t.t.t)[i]) 0
   ·rw[if_pos c,if_pos (by simpa using c)]
   ·rw[if_neg c,if_neg (by simpa using c)]
  by_cases c:LT.lt (α:=Int) (zV db (bJ s.2.2.1 s.t.t.t)[i]) 0
  ·exact .inr ⟨λh=>by have:=h hi;omega,_,zT.of (by rw[hv,if_pos c]),rfl⟩
  ·exact .inl ⟨λ_=>by omega,zP.of (by rw[hv,if_neg c])⟩)with⟨h1,h2⟩|⟨h1,r,h2,rfl⟩
 rotate_left
 ·have hE:nG db s.2.2.1 s.t.t.t s.2.1=6:=by
   unfold nG;rw[if_neg];intro h;exact h1 λi _ hi=>h _ (bu hi)
  rw[hE,if_neg (by decide)];exact⟨_,_,h2,ow,dP 6⟩
 have hA:∀n∈bJ s.2.2.1 s.t.t.t,LE.le (α:=Int) 0 (zV db n):=by
  intro n hn;obtain⟨j,hj,rfl⟩:=gn hn;exact h1 j hj hj
 have hfr:LE.le (α:=Int) 0 (zV db s.2.2.1):=hA _ (by unfold bJ;split<;>simp);have hE:nG db s.2.2.1 s.t.t.t s.2.1=if(Q0 (GE.ge (α:=Int) (zV db s.2.1) 0)||s.2.2.1==s.t.t.t)=Q3 then 7 else if dN db (bJ s.2.2.1 s.t.t.t)=Q3 then 10 else 0:=by
  unfold nG;rw[if_pos hA]
 have hl12:=hB.few;obtain⟨f1,f2⟩:=Jf (db:=db) (ns:=bJ s.2.2.1 s.t.t.t) ow (λx hx=>(hdb x hx).short.rf|>λh=>by omega) ow;have hT:nL (aw db s.2.2.1):=Ix hB hfr;have t8:=hT.n8;have hnames:=hw.sh.names.1;have hor:(bif Q0 (GE.ge (α:=Int) (zV db s.2.1) 0)then Q3 else s.2.2.1==s.t.t.t)=(Q0 (GE.ge (α:=Int) (zV db s.2.1) 0)||s.2.2.1==s.t.t.t):=by cases Q0 (GE.ge (α:=Int) (zV db s.2.1) 0)<;>rfl
 rw[hE];by_cases c7:(Q0 (GE.ge (α:=Int) (zV db s.2.1) 0)||s.2.2.1==s.t.t.t)=Q3
 ·rw[if_pos c7,if_neg (by decide)];refine⟨rN 7,_,h2.ends (zT.of ?_),ow,dP 7⟩;simp only[dr,rE,Q8,zA,dp,hor,c7,if_true,zE,if_false]
 rw[if_neg c7];have c7:(Q0 (GE.ge (α:=Int) (zV db s.2.1) 0)||s.2.2.1==s.t.t.t)=Q4:=by simpa using c7
 by_cases c10:dN db (bJ s.2.2.1 s.t.t.t)=Q3
 ·rw[if_pos c10,if_neg (by decide)];refine⟨rN 10,_,h2.ends (zT.of ?_),ow,dP 10⟩;simp only[dr,rE,Q8,zA,dp,hor,c7,f1,f2,c10,if_true,zE,if_false]
 rw[if_neg c10,if_pos rfl];have c10:dN db (bJ s.2.2.1 s.t.t.t)=Q4:=by simpa using c10
 obtain⟨p1,p2⟩:=Je (t:=aw db s.2.2.1) (names:=s.2.2.2.1) ow ow;have p1:nh (getD db (toNat (zV db s.2.2.1)) (zi zh)).1.2.1 s.2.2.2.1=Q3:=p1;have p2:qe (getD db (toNat (zV db s.2.2.1)) (zi zh)).1.2.1 s.2.2.2.1=(if fZ (aw db s.2.2.1) s.2.2.2.1=0 then kG (aw db s.2.2.1) s.2.2.2.1 else[],fZ (aw db s.2.2.1) s.2.2.2.1):=p2;unfold dh;by_cases o1:(s.1==[99,111,112,121])=Q3
 ·rw[if_pos o1];unfold ve;by_cases hp:fZ (aw db s.2.2.1) s.2.2.2.1=0
  ·rw[if_pos hp];obtain⟨q1,q2⟩:=EM hp;obtain⟨r,k,e1,e2,e3⟩:=zmp hs z1 (t:=aw db s.2.2.1) (a:=s.1) (b:=s.2.2.1) (c:=s.t.t.t) (d:=s.2.1) (l:=kG (aw db s.2.2.1) s.2.2.2.1) (on:=0) (by unfold kG;rw[da];omega) q2 (by
    intro x hx;obtain⟨n,hn,rfl⟩:=bn.1 hx;exact pV (q1 n hn))
   rw[Qy];refine⟨r,_,h2.ends ((zP.of ?_).ends e1),ow,e3⟩;rw[if_pos hp,hp]at p2;simp only[dr,rE,Q8,zA,dp,hor,c7,f1,f2,c10,dv hfr,o1,p1,p2,if_true,zE,if_false,iH];rfl
  ·rw[if_neg hp,yh hp];refine⟨_,_,h2.ends (zT.of ?_),ow,dP _⟩;rw[if_neg hp]at p2;have hp':(fZ (aw db s.2.2.1) s.2.2.2.1!=0)=Q3:=by simpa using hp
   simp only[dr,rE,Q8,zA,dp,hor,c7,f1,f2,c10,dv hfr,o1,p1,p2,hp',if_true,zE,if_false]
 rw[if_neg o1];by_cases o2:(s.1==[106,111,105,110])=Q3
 ·rw[if_pos o2];have hr:=m2 (bE o2);have hne:s.t.t.t≠[]:=by intro k;rw[k]at hr;cases hr
  have hwt:fV db s.t.t.t=aw db s.t.t.t:=by unfold fV;rw[if_neg hne]
  have hrl:LE.le (α:=Int) 0 (zV db s.t.t.t):=hA _ (by unfold bJ;rw[if_neg (by simpa using hne)];simp);have u8:=(Ix hB hrl).n8;have hrf:(aw db s.2.2.1).t.1.length<=1000:=by have:=(hdb _ (mg hfr)).short.rf;unfold aw;omega
  have g1:dz (getD db (toNat (zV db s.2.2.1)) (zi zh)).1.2.1 s.t.2.1=Q3:=iX (by show(aw db s.2.2.1).2.1.length<=_;omega);have g2:eH (getD db (toNat (zV db s.2.2.1)) (zi zh)).1.2.1 s.t.2.1=zQ (aw db s.2.2.1) s.t.2.1:=ke (by show(aw db s.2.2.1).2.1.length<=_;omega);rw[hwt];unfold gW;by_cases h4:LT.lt (α:=Int) (zQ (aw db s.2.2.1) s.t.2.1) 0
  ·rw[if_pos h4,yh (by decide)];refine⟨rN 4,_,h2.ends (zT.of ?_),ow,dP 4⟩;simp only[dr,rE,Q8,zA,dp,hor,c7,f1,f2,c10,dv hfr,dv hrl,o1,o2,g1,g2,zu h4,if_true,zE,if_false]
  ·rw[if_neg h4];obtain⟨r,k,e1,e2,e3⟩:=zmq hs z1 (t:=aw db s.2.2.1) (u:=aw db s.t.t.t) (a:=s.1) (b:=s.2.2.1) (c:=s.t.t.t) (d:=s.2.1) (k0:=0) (on:=zQ (aw db s.2.2.1) s.t.2.1) ow ow hrf;refine⟨r,_,h2.ends ((zP.of ?_).ends e1),ow,e3⟩;simp only[dr,rE,Q8,zA,dp,hor,c7,f1,f2,c10,dv hfr,dv hrl,o1,o2,g1,g2,aj h4,if_true,zE,if_false];rfl
 rw[if_neg o2];have o3:(s.1==[103,114,111,117,112])=Q3:=by
  rcases hm with k|k|k
  ·rw[k]at o1;exact absurd rfl o1
  ·rw[k]at o2;exact absurd rfl o2
  ·rw[k];rfl
 rw[if_pos o3];have hl2:=m3 (bE o3);unfold sj;by_cases hp:fZ (aw db s.2.2.1) s.2.2.2.1=0
 ·rw[if_pos hp];obtain⟨q1,q2⟩:=EM hp;rw[if_pos hp,hp]at p2;obtain⟨n0,n1,hn⟩:∃n0 n1,s.2.2.2.1=[n0,n1]:=by
   match s.2.2.2.1,hl2 with
   |[a,b],_=>exact⟨a,b,rfl⟩
  have i0:zN (zQ (aw db s.2.2.1) n0) (length (getD db (toNat (zV db s.2.2.1)) (zi zh)).1.2.1)=Q3:=pV (q1 n0 (by rw[hn];simp));have i1:zN (zQ (aw db s.2.2.1) n1) (length (getD db (toNat (zV db s.2.2.1)) (zi zh)).1.2.1)=Q3:=pV (q1 n1 (by rw[hn];simp));have x0:(kG (aw db s.2.2.1) s.2.2.2.1).getD (toNat 0) (zi zg)=zQ (aw db s.2.2.1) n0:=by rw[hn];rfl
  have x1:(kG (aw db s.2.2.1) s.2.2.2.1).getD (toNat 1) (zi zg)=zQ (aw db s.2.2.1) n1:=by rw[hn];rfl
  have xl:(kG (aw db s.2.2.1) s.2.2.2.1).length=2:=by rw[hn];rfl
  have b0:zN 0 2=Q3:=rfl;have b1:zN 1 2=Q3:=rfl;have y1:(gr (aw db s.2.2.1) s.2.2.2.1).getD 1 (zi zj)=getD (getD db (toNat (zV db s.2.2.1)) (zi zh)).1.2.1 (toNat (zQ (aw db s.2.2.1) n1)) (zi zj):=by rw[hn];rfl
  have y0:(gr (aw db s.2.2.1) s.2.2.2.1).getD 0 (zi zj)=getD (getD db (toNat (zV db s.2.2.1)) (zi zh)).1.2.1 (toNat (zQ (aw db s.2.2.1) n0)) (zi zj):=by rw[hn];rfl
  unfold Di;rw[y1,y0];by_cases h5:(getD (getD db (toNat (zV db s.2.2.1)) (zi zh)).1.2.1 (toNat (zQ (aw db s.2.2.1) n1)) (zi zj)).2.1=(1:Int)
  ·rw[if_pos h5];obtain⟨r,e1,e3⟩:=ziy hs z1 (s.1,s.2.2.1,s.t.t.t,s.2.1,[((getD (getD db (toNat (zV db s.2.2.1)) (zi zh)).1.2.1 (toNat (zQ (aw db s.2.2.1) n0)) (zi zj)).1,(getD (getD db (toNat (zV db s.2.2.1)) (zi zh)).1.2.1 (toNat (zQ (aw db s.2.2.1) n0)) (zi zj)).2.1,Q3),((getD (getD db (toNat (zV db s.2.2.1)) (zi zh)).1.2.1 (toNat (zQ (aw db s.2.2.1) n1)) (zi zj)).1,(getD (getD db (toNat (zV db s.2.2.1)) (zi zh)).1.2.1 (toNat (zQ (aw db s.2.2.1) n1)) (zi zj)).2.1,Q4)],0,s.t.t.1,kG (aw db s.2.2.1) s.2.2.2.1,0,()) rfl sw;have h5':((getD (getD db (toNat (zV db s.2.2.1)) (zi zh)).1.2.1 (toNat (zQ (aw db s.2.2.1) n1)) (zi zj)).2.1!=1)=Q4:=by rw[h5];rfl
   refine⟨r,_,h2.ends ((zP.of ?_).ends e1),sg,e3⟩;simp only[dr,rE,Q8,zA,dp,hor,c7,f1,f2,c10,dv hfr,o1,o2,o3,p1,p2,x0,x1,xl,b0,b1,i0,i1,h5',if_true,zE,if_false,iH];rfl
  ·rw[if_neg h5,yh (by decide)];have h5':((getD (getD db (toNat (zV db s.2.2.1)) (zi zh)).1.2.1 (toNat (zQ (aw db s.2.2.1) n1)) (zi zj)).2.1!=1)=Q3:=by simpa using h5
   refine⟨rN 5,_,h2.ends (zT.of ?_),ow,dP 5⟩;simp only[dr,rE,Q8,zA,dp,hor,c7,f1,f2,c10,dv hfr,o1,o2,o3,p1,p2,x0,x1,xl,b0,b1,i0,i1,h5',if_true,zE,if_false,iH]
 ·rw[if_neg hp,yh hp];refine⟨_,_,h2.ends (zT.of ?_),ow,dP _⟩;rw[if_neg hp]at p2;have hp':(fZ (aw db s.2.2.1) s.2.2.2.1!=0)=Q3:=by simpa using hp
  simp only[dr,rE,Q8,zA,dp,hor,c7,f1,f2,c10,dv hfr,o1,o2,o3,p1,p2,hp',if_true,zE,if_false]
theorem Tz{db:List (Sem zh)}{s:Sem zl}(hdb:∀x∈db,Uw x)(hw:oo s):BL db s=Q1 ((aT db s).2,(aT db s).1,()):=by
 have hsh:∀x∈db,gH x:=λx hx=>(hdb x hx).short
 obtain⟨e,c1,c2⟩:=GK hdb;have k1:B8 db=Q3:=by unfold B8;rw[c1];rfl
 have k2:GJ db=e:=by unfold GJ;rw[c1];rfl
 have one:(OJ db s).val=Q1 (.inr (rN 1))->aT db s=(1,jw)->BL db s=Q1 ((aT db s).2,(aT db s).1,()):=by
  intro h h2;rw[h2];exact zI h (dP 1)
 have hS:∀p:Sem zz,jx p=Q3/\kK p=bJ p.2.1 p.2.2.1:=λp=>⟨rz p,tT p⟩
 by_cases hm:jt s.1
 ·obtain⟨t,h⟩:=LB hw hm;have t1:iz s=Q3:=by unfold iz;rw[h];rfl
  have t2:kO s=(t,dY s):=by unfold kO;rw[h];rfl
  have hop:(bif !s.1==[99,111,112,121]then bif !s.1==[106,111,105,110]then !s.1==[103,114,111,117,112]else Q4 else Q4)=Q4:=by
   rcases hm with k|k|k<;>rw[k]<;>rfl
  by_cases hst:dY s=Q3
  ·by_cases he:e=0
   ·have hB:=c2.1 he;have hb:=(jZ hsh).2 hB;obtain⟨r,k,e1,e2,e3⟩:=of7 hB hw hst hm hb hdb ([],[],[],[],0,[],0,0,[],[],0,());refine zw ?_ e1 ow e3;simp only[OJ,rE,Q8,zk,Prod.eta,t1,t2,k1,k2,hst,he,hop,hS,bK,ay,if_true,iH,zE,if_false];rfl
   ·refine one ?_ ?_
    ·have he':(e !=0)=Q3:=by simpa using he
     simp only[OJ,rE,Q8,zk,Prod.eta,t1,t2,k1,k2,hst,he',bK,ay,ah,if_true]
    ·unfold aT;rw[if_neg];rintro⟨_,_,h⟩;exact he (c2.2 ((jZ hsh).1 h))
  ·have hst':dY s=Q4:=by simpa using hst
   refine one ?_ ?_
   ·simp only[OJ,rE,Q8,zk,Prod.eta,t1,t2,hst',cQ,ah,if_true]
   ·unfold aT;rw[if_neg];rintro⟨_,h,_⟩;exact hst h
 ·obtain⟨t,b,h⟩:=LA hw;have t1:iz s=Q3:=by unfold iz;rw[h];rfl
  have t2:kO s=(t,b):=by unfold kO;rw[h];rfl
  have hop:(bif !s.1==[99,111,112,121]then bif !s.1==[106,111,105,110]then !s.1==[103,114,111,117,112]else Q4 else Q4)=Q3:=by
   have x1:(s.1==[99,111,112,121])=Q4:=by simpa using λk=>hm (.inl k)
   have x2:(s.1==[106,111,105,110])=Q4:=by simpa using λk=>hm (.inr (.inl k))
   have x3:(s.1==[103,114,111,117,112])=Q4:=by simpa using λk=>hm (.inr (.inr k))
   rw[x1,x2,x3];rfl
  refine one ?_ ?_
  ·simp only[OJ,rE,Q8,zk,Prod.eta,t1,t2,k1,k2,hop,if_true];cases b<;>cases(e !=0)<;>rfl
  ·unfold aT;rw[if_neg λh=>hm h.1]
end Cad
