/- The same plans; the document's plans. The document's plans: places, conditions. Statements: a MIGRATE may be, by the document, just if it may be by the program. -/
import Derived.Test.YtkmcdhahdadkpaaGreatDoorP16
import Derived.Test.YtkmcdhahdadkpaaGreatDoorP13
import Derived.Test.YtkmcdhahdadkpaaGreatDoorP15
namespace Cad
open Go Go.Proofs
open AV renaming ptr→Qf,nils→Qb
open Tr renaming chk→Qc,«to»→Q9,val→Q8
open AO renaming box→Qa
open Bool renaming false→Q4,true→Q3
open Option renaming some→Q1
open Decidable renaming decide→Q0
open Int (toNat)
open List (getD length)
open Tr (chk br re)
open AV (nils agg tup ptr kb str sl)
noncomputable section
set_option maxHeartbeats 4000000
abbrev jB:List CP:=[.d .str,.d .str,.d .str,.d .str,.nil,.d zg,.nil,.nil,.d .str,.d zg,.d zg,.d .str,.d .str,.nil,.nil,.d zg]
abbrev HP:List CP:=[.d .str,.d .str,.d .str,.d .str,.nil,.d zg,.nil,.nil,.d .expr,.nil,.d zg]
abbrev NX:List CP:=[.d .str,.d .str,.d .str,.d .str,.vec zj,.d zg,.nil,.nil,.d .expr,.d (.sl zg),.d zg]
abbrev za6:List CP:=[.d .str,.d .str,.d .str,.d .str,.d (.sl zj),.d zg,.nil,.nil,.d .expr,.d (.sl zg),.d zg]
abbrev P1:List CP:=[.d .str,.d .str,.d .str,.d .str,.vec zj,.d zg,.nil,.nil,.d .expr,.vec zg,.d zg]
def zgz(x0:Sem zz)(x1:Sem zz):Tr (Empty⊕aw):=
 let a0:=x0.1==x1.1
 let a1:=x0.2.1==x1.2.1
 let a2:=x0.2.2.1==x1.2.2.1
 let a3:=x0.t.2==x1.t.2
 let a4:=(x0.2.2.2.1.1,x0.2.2.2.1.2.1,x0.2.2.2.1.2.2.1,x0.2.2.2.1.2.2.2.1,x0.2.2.2.1.t.1,zm x0.2.2.2.1.t.2)
 let a5:=(x1.2.2.2.1.1,x1.2.2.2.1.2.1,x1.2.2.2.1.2.2.1,x1.2.2.2.1.2.2.2.1,x1.2.2.2.1.t.1,zm x1.2.2.2.1.t.2)
 let a6:=rA a4 a5
 Qc
 (bif a0 then
  bif a1 then bif a2 then bif a3 then Hc a4 a5&&bif a6 then GU x0.t.1 x1.t.1 else Q3 else Q3 else Q3 else Q3
 else Q3)
 (re
  (AV.bool (bif a0 then bif a1 then bif a2 then bif a3 then bif a6 then nT x0.t.1 x1.t.1 else Q4 else Q4 else Q4 else Q4 else Q4))
  [])
def F5(x0:Sem zz)(x1:Sem zz):=al [Sh.bool] t0 100000000 (zgz x0 x1)
def F4(x0:Sem zz)(x1:Sem zz):=(F5 x0 x1).isSome
def IY(x0:Sem zz)(x1:Sem zz):=o1 (F5 x0 x1)
def zdo:=FT [zz,zz] [Sh.bool] λx=>F5 x.1 x.2.1
theorem ZA:FK 60 zdo:=rW.T1 (f:=Tryz.f60) (keep:=k0) (e:=e0)
abbrev zPl:AV:=.agg [str [],str [],str [],str [],Qb,ai 0,Qb,Qb,str [],ai 0,ai 0,str [],str [],Qb,Qb,ai 0]
abbrev rE{σ:Type}(e:Int):Tr (σ⊕aw):=.re (.tup [zPl,.int .i64 e]) []
abbrev zgT:Nat->aM:=λj=>if j=7 then{slots:=[0,3,4,8,9,10]}else if j=24 then{slots:=[3,4,8,11,13],prom:=[(8,Q1 4,zj)]}else if j=38 then{slots:=[3,4,8,11,14,15,16]}else if j=48 then{slots:=[3,4,8,14,17],prom:=[(8,Q1 14,.int .i64)]}else if j=64 then{slots:=[3,4,8,20]}else{ }
inductive ke where
 |h7 (l0:List (Sem zh)) (l9:List (Sem Sh.str)) (i10:Int) (z0:zn [CP.d zk]) (z1:zn jB) (z2:zn HP)
 |h24 (i13:Int) (z0:zn [CP.d zk]) (z1:zn jB) (z2:zn NX) (z3:zn [CP.d zo])
 |h38 (i16:Int) (z0:zn [CP.d zk]) (z1:zn jB) (z2:zn HP) (z3:zn [CP.d zo]) (z4:zn [CP.d zo])
 |h64 (i20:Int) (z0:zn [CP.d zk]) (z1:zn jB) (z2:zn za6)
 |h64b (i20:Int) (z0:zn [CP.d zk]) (z1:zn jB) (z2:zn HP)
 |h64bb (i20:Int) (z0:zn [CP.d zk]) (z1:zn jB) (z2:zn NX)
 |h38b (b15:Bool) (i16:Int) (z0:zn [CP.d zk]) (z1:zn jB) (z2:zn HP) (z3:zn [CP.d zo]) (z4:zn [CP.d zo])
 |h48 (i17:Int) (z0:zn [CP.d zk]) (z1:zn jB) (z2:zn P1) (z3:zn [CP.d zo])
 |h64bbb (i20:Int) (z0:zn [CP.d zk]) (z1:zn jB) (z2:zn P1)
abbrev zjA:ke->Nat×St
 |.h7 l0 l9 i10 z0 z1 z2=>(7,⟨tm 339 [(0,sl zh l0),(3,Qf 0 0),(4,Qf 1 0),(8,Qf 2 0),(9,sl Sh.str l9),(10,ai i10)],[Qa (bC [] [CP.d zk] z0),Qa (bC [] jB z1),Qa (bC [] HP z2)]⟩)
 |.h24 i13 z0 z1 z2 z3=>(24,⟨tm 339 [(3,Qf 0 0),(4,Qf 1 0),(8,Qf 2 0),(11,Qf 3 0),(13,ai i13)],[Qa (bC [] [CP.d zk] z0),Qa (bC [] jB z1),Qa (bC [4] NX z2),Qa (bC [] [CP.d zo] z3),AO.vec zj z2.t.1]⟩)
 |.h38 i16 z0 z1 z2 z3 z4=>(38,⟨tm 339 [(3,Qf 0 0),(4,Qf 1 0),(8,Qf 2 0),(11,Qf 3 0),(14,Qf 4 0),(15,kb Q4),(16,ai i16)],[Qa (bC [] [CP.d zk] z0),Qa (bC [] jB z1),Qa (bC [] HP z2),Qa (bC [] [CP.d zo] z3),Qa (bC [] [CP.d zo] z4)]⟩)
 |.h64 i20 z0 z1 z2=>(64,⟨tm 339 [(3,Qf 0 0),(4,Qf 1 0),(8,Qf 2 0),(20,ai i20)],[Qa (bC [] [CP.d zk] z0),Qa (bC [] jB z1),Qa (bC [] za6 z2)]⟩)
 |.h64b i20 z0 z1 z2=>(64,⟨tm 339 [(3,Qf 0 0),(4,Qf 1 0),(8,Qf 2 0),(20,ai i20)],[Qa (bC [] [CP.d zk] z0),Qa (bC [] jB z1),Qa (bC [] HP z2)]⟩)
 |.h64bb i20 z0 z1 z2=>(64,⟨tm 339 [(3,Qf 0 0),(4,Qf 1 0),(8,Qf 2 0),(20,ai i20)],[Qa (bC [] [CP.d zk] z0),Qa (bC [] jB z1),Qa (bC [3] NX z2),AO.vec zj z2.t.1]⟩)
 |.h38b b15 i16 z0 z1 z2 z3 z4=>(38,⟨tm 339 [(3,Qf 0 0),(4,Qf 1 0),(8,Qf 2 0),(11,Qf 3 0),(14,Qf 4 0),(15,AV.bool b15),(16,ai i16)],[Qa (bC [] [CP.d zk] z0),Qa (bC [] jB z1),Qa (bC [] HP z2),Qa (bC [] [CP.d zo] z3),Qa (bC [] [CP.d zo] z4)]⟩)
 |.h48 i17 z0 z1 z2 z3=>(48,⟨tm 339 [(3,Qf 0 0),(4,Qf 1 0),(8,Qf 2 0),(14,Qf 3 0),(17,ai i17)],[Qa (bC [] [CP.d zk] z0),Qa (bC [] jB z1),Qa (bC [4,5] P1 z2),Qa (bC [] [CP.d zo] z3),AO.vec zj z2.t.1,AO.vec zg z2.t.q.2.1]⟩)
 |.h64bbb i20 z0 z1 z2=>(64,⟨tm 339 [(3,Qf 0 0),(4,Qf 1 0),(8,Qf 2 0),(20,ai i20)],[Qa (bC [] [CP.d zk] z0),Qa (bC [] jB z1),Qa (bC [3,4] P1 z2),AO.vec zj z2.t.1,AO.vec zg z2.t.q.2.1]⟩)
def Om(x0:Sem zh.sl)(x1:Sem zk):Tr (ke⊕aw):=
 let a0:=zm x1.t.t.1
 let a1:=(x1.1,x1.2.1,x1.2.2.1,x1.2.2.2.1,x1.t.1,x1.t.2.1,x1.t.q.1,x1.t.q.2.1,a0,x1.t.t.2.1,x1.t.t.q.1,zm x1.t.t.q.2.1,x1.t.t.t)
 let a2:=kK a1
 let a3:=!a2.2
 let a4:=(x1.1,x1.2.2.1,x1.t.t.t,(x1.2.1,[],0,[],[],a0),[],0)
 Qc (ip a1)
 (Qc (bif a3 then Q3 else BV x0)
  (br (bif a3 then Q3 else bif Gy x0 !=0 then Q3 else bif !x1.1==[99,111,112,121]then bif !x1.1==[106,111,105,110]then !x1.1==[103,114,111,117,112]else Q4 else Q4) (rE 1) (Qc (jr a4) (Q9 (ke.h7 x0 (kG a4) 0 (x1,()) ([],[],[],[],0,[],0,0,[],[],0,()) (x1.1,x1.2.2.1,x1.t.t.t,x1.2.1,0,x1.t.t.1,0,()))))))
def dp:ke->Tr (ke⊕aw)
 | .h7 l0 l9 i10 z0 z1 z2=>
  let a0:=kL l0 (l9.getD i10.toNat (zi Sh.str))
  let a1:=kL l0 z0.1.2.1
  let a2:=kL l0 z0.1.2.2.1
  let a3:=l0.getD (toNat a2) (zi zh)
  let a4:=ng a3.1.2.1 z0.1.2.2.2.1
  let a5:=qb a3.1.2.1 z0.1.2.2.2.1
  let a6:=a5.2!=0
  let a7:=(z2.t.2.1,a5.1,z2.t.q)
  let a8:=(a3.1,())
  let a9:=kL l0 z0.1.t.t.t
  let a10:=eB a3.1.2.1 z0.1.t.2.1
  let a11:=l0.getD (toNat a9) (zi zh)
  let a12:=getD a5.1 (toNat 0) (zi zg)
  let a13:=getD a5.1 (toNat 1) (zi zg)
  let a14:=getD a3.1.2.1 (toNat a13) (zi zj)
  let a15:=getD a3.1.2.1 (toNat a12) (zi zj)
  br (Q0 (i10<(↑l9.length:Int)))
  (Qc (zM i10 l9.length) (br (Q0 (a0<0)) (rE 6) (Q9 (ke.h7 l0 l9 (IntKind.i64.wrap (i10+1)) z0 z1 z2))))
  (br (bif Q0 (a1>=0)then Q3 else z0.1.2.2.1==z0.1.t.t.t) (rE 7) (Qc (sA l0 l9) (br (wg l0 l9) (rE 10) (Qc (zM a2 l0.length) (br (z0.1.1==[99,111,112,121]) (Qc a4 (br a6 (rE a5.2) (Q9 (ke.h24 0 z0 z1 (z2.1,z2.2.1,z2.2.2.1,z2.2.2.2.1,[],-1,a7) a8)))) (br (z0.1.1==[106,111,105,110]) (Qc (zM a9 l0.length)
  (Qc (du a3.1.2.1 z0.1.t.2.1) (br (Q0 (a10<0)) (rE 4) (Q9
  (ke.h38 0 z0 z1 (z2.1,z2.2.1,z2.2.2.1,z2.2.2.2.1,z2.t.1,z2.t.2.1,a10,()) a8 (a11.1,())))))) (br (z0.1.1==[103,114,111,117,112]) (Qc a4 (br a6 (rE a5.2) (Qc (zM 0 (length a5.1)) (Qc (zM a12 (length a3.1.2.1)) (Qc (zM 1 (length a5.1)) (Qc (zM a13 (length a3.1.2.1)) (br (a14.2.1!=1) (rE 5) (Q9 (ke.h64 0 z0 z1 (z2.1,z2.2.1,z2.2.2.1,z2.2.2.2.1,[(a15.1,a15.2.1,Q3),(a14.1,a14.2.1,Q4)],z2.t.1,a7)))))))))) (Q9 (ke.h64b 0 z0 z1 z2)))))))))
 | .h24 i13 z0 z1 z2 z3=>
  let a0:=(↑(length z2.t.q.2.1):Int)
  let a1:=zM i13 (length z2.t.q.2.1)
  let a2:=getD z2.t.q.2.1 i13.toNat (zi zg)
  let a3:=zM a2 (length z3.1.2.1)
  let a4:=[getD z3.1.2.1 (toNat a2) (zi zj)]
  let a5:=Q0 (z2.t.1.length+a4.length<=1073741824)
  let a6:=IntKind.i64.wrap (i13+1)
  let a7:=z2.t.1++a4
  br (Q0 (i13<a0))
  (Qc a1 (br (a2==z3.1.2.2.1) (Qc a1 (Qc a3 (Qc a5 (Q9 (ke.h24 a6 z0 z1 (z2.1,z2.2.1,z2.2.2.1,z2.2.2.2.1,a7,i13,z2.t.q) z3))))) (Qc a1 (Qc a3 (Qc a5 (Q9 (ke.h24 a6 z0 z1 (z2.1,z2.2.1,z2.2.2.1,z2.2.2.2.1,a7,z2.t.2) z3)))))))
  (br (Q0 (z2.t.2.1<0)) (rE 1) (Q9 (ke.h64bb 0 z0 z1 z2)))
 | .h38 i16 z0 z1 z2 z3 z4=>
  let a0:=(↑(length z3.1.t.1):Int)
  let a1:=zM i16 (length z3.1.t.1)
  let a2:=getD z3.1.t.1 i16.toNat (zi zr)
  let a3:=a2.1==z2.t.q.1
  br (Q0 (i16<a0))
  (Qc (a1&&bif a3 then a1 else Q3) (Q9 (ke.h38b (bif a3 then a2.2==z0.1.t.t.t else Q4) (IntKind.i64.wrap (i16+1)) z0 z1 z2 z3 z4)))
  (rE 10)
 | .h64 i20 z0 z1 z2=>
  let a0:=(↑(length z2.t.1):Int)
  let a1:=getD z2.t.1 i20.toNat (zi zj)
  let a2:=zm z0.1.t.t.1
  let a3:=wl a2 z2.t.1
  br (Q0 (i20<a0))
  (Qc (zM i20 (length z2.t.1)) (Qc (du z2.t.1 a1.1) (br (eB z2.t.1 a1.1!=i20) (rE 7)
  (Q9 (ke.h64 (IntKind.i64.wrap (i20+1)) z0 z1 z2)))))
  (Qc (qu a2 z2.t.1) (br (a3 !=0) (rE a3) (re (tup [agg [str z2.1,str z2.2.1,str z2.2.2.1,str z2.2.2.2.1,
  sl zj z2.t.1,ai z2.t.2.1,Qb,Qb,str (ze.op z2.t.q.1),ai (ze.v z2.t.q.1).1,ai (ze.v z2.t.q.1).2.1,str (ze.v z2.t.q.1).2.2,str (ze.s z2.t.q.1),sl Sh.expr (ze.l z2.t.q.1),sl zg z2.t.q.2.1,ai z2.t.t.1],ai 0])
  [])))
 | .h64b i20 z0 _ z2=>
  let a0:=zm z0.1.t.t.1
  let a1:=wl a0 []
  br (Q0 (i20<0)) Tr.err
  (Qc (qu a0 []) (br (a1 !=0) (rE a1) (re (tup [agg
  [str z2.1,str z2.2.1,str z2.2.2.1,str z2.2.2.2.1,Qb,ai z2.t.1,Qb,Qb,str (ze.op z2.t.2.1),ai (ze.v z2.t.2.1).1,ai (ze.v z2.t.2.1).2.1,str (ze.v z2.t.2.1).2.2,str (ze.s z2.t.2.1),sl Sh.expr (ze.l z2.t.2.1),Qb,ai z2.t.q.1],
  ai 0]) [])))
 | .h64bb i20 z0 z1 z2=>
  let a0:=(↑z2.t.1.length:Int)
  let a1:=z2.t.1.getD i20.toNat (zi zj)
  let a2:=zm z0.1.t.t.1
  let a3:=wl a2 z2.t.1
  br (Q0 (i20<a0))
  (Qc (zM i20 z2.t.1.length) (Qc (Q0 (i20.toNat<z2.t.1.length)) (Qc (du z2.t.1 a1.1) (br (eB z2.t.1 a1.1!=i20) (rE 7)
  (Q9 (ke.h64bb (IntKind.i64.wrap (i20+1)) z0 z1 z2))))))
  (Qc (qu a2 z2.t.1) (br (a3 !=0) (rE a3) (re (tup [agg
  [str z2.1,str z2.2.1,str z2.2.2.1,str z2.2.2.2.1,AV.vec 0,ai z2.t.2.1,Qb,Qb,str (ze.op z2.t.q.1),ai (ze.v z2.t.q.1).1,ai (ze.v z2.t.q.1).2.1,str (ze.v z2.t.q.1).2.2,str (ze.s z2.t.q.1),sl Sh.expr (ze.l z2.t.q.1),
  sl zg z2.t.q.2.1,ai z2.t.t.1],ai 0]) [AO.vec zj z2.t.1])))
 | .h38b b15 i16 z0 z1 z2 z3 z4=>
  let a0:=(↑(length z3.1.t.1):Int)
  let a1:=zM i16 (length z3.1.t.1)
  let a2:=getD z3.1.t.1 i16.toNat (zi zr)
  let a3:=a2.1==z2.t.q.1
  let a4:=IntKind.i64.wrap ((↑(length z3.1.2.1):Int)+(↑(length z4.1.2.1):Int))
  br (Q0 (i16<a0))
  (Qc (bif b15 then Q3 else a1&&bif a3 then a1 else Q3) (Q9 (ke.h38b (bif b15 then Q3 else bif a3 then a2.2==z0.1.t.t.t else Q4) (IntKind.i64.wrap (i16+1)) z0 z1 z2 z3 z4)))
  (br (!b15) (rE 10) (br (Q0 (a4>9)) (rE 13) (Qc (Q0 (length z3.1.2.1<=1073741824)) (Q9 (ke.h48 0 z0 z1 (z2.1,z2.2.1,z2.2.2.1,z2.2.2.2.1,z3.1.2.1,z3.1.2.2.1,z2.t.2.1,[],z2.t.q) z4)))))
 | .h48 i17 z0 z1 z2 z3=>
  let a0:=(↑(length z3.1.2.1):Int)
  let a1:=[getD z3.1.2.1 i17.toNat (zi zj)]
  let a2:=IntKind.i64.wrap (i17+1)
  br (Q0 (i17<a0))
  (br (i17 !=z3.1.2.2.1) (Qc (Q0 (z2.t.q.2.1.length+[i17].length<=1073741824)) (Qc (zM i17 (length z3.1.2.1)) (Qc (Q0 (z2.t.1.length+a1.length<=1073741824)) (Q9 (ke.h48 a2 z0 z1 (z2.1,z2.2.1,z2.2.2.1,z2.2.2.2.1,z2.t.1++a1,z2.t.2.1,z2.t.q.1,z2.t.q.2.1++[i17],z2.t.t) z3)))))
  (Q9 (ke.h48 a2 z0 z1 z2 z3)))
  (Q9 (ke.h64bbb 0 z0 z1 z2))
 | .h64bbb i20 z0 z1 z2=>
  let a0:=(↑z2.t.1.length:Int)
  let a1:=z2.t.1.getD i20.toNat (zi zj)
  let a2:=zm z0.1.t.t.1
  let a3:=wl a2 z2.t.1
  br (Q0 (i20<a0))
  (Qc (zM i20 z2.t.1.length) (Qc (Q0 (i20.toNat<z2.t.1.length)) (Qc (du z2.t.1 a1.1) (br (eB z2.t.1 a1.1!=i20) (rE 7)
  (Q9 (ke.h64bbb (IntKind.i64.wrap (i20+1)) z0 z1 z2))))))
  (Qc (qu a2 z2.t.1) (br (a3 !=0) (rE a3) (re (tup [agg
  [str z2.1,str z2.2.1,str z2.2.2.1,str z2.2.2.2.1,AV.vec 0,ai z2.t.2.1,Qb,Qb,str (ze.op z2.t.q.1),ai (ze.v z2.t.q.1).1,ai (ze.v z2.t.q.1).2.1,str (ze.v z2.t.q.1).2.2,str (ze.s z2.t.q.1),sl Sh.expr (ze.l z2.t.q.1),AV.vec 1,
  ai z2.t.t.1],ai 0]) [AO.vec zj z2.t.1,AO.vec zg z2.t.q.2.1])))
def Bz(x0:Sem zh.sl)(x1:Sem zk):=al [zz,zg] dp 100000000 (Om x0 x1)
def K8(x0:Sem zh.sl)(x1:Sem zk):=(Bz x0 x1).isSome
def S6(x0:Sem zh.sl)(x1:Sem zk):=o2 (Bz x0 x1)
def zdl:=FT [zh.sl,zk] [zz,zg] λx=>Bz x.1 x.2.1
theorem Zy:FK 25 zdl:=rW.T1 (f:=Tryz.f25) (keep:=zgT) (e:=zjA)
def Fz:=QE.addL [(60,zdo),(25,zdl)]
theorem Ko:zw Fz:=rW.addL<|fc ZA<|fc Zy<|jm
end
def pl3(t:Sem zo)(names:List zB):Nat->oq
 |0=>.h3 t.2.1 names ((0:Nat):Int)
 |i+1=>.h3b t.2.1 names ((i+1:Nat):Int) (kC t (names.take (i+1)))
theorem Wj{t:Sem zo}{names:List zB}(hc:t.2.1.length<=1000000)(hn:names.length<=1000){i:Nat}(hi:i<names.length):(ju (pl3 t names i)).val=if LT.lt (α:=Int) (zO t names[i]) 0 then Q1 (.inr (.tup [.nils,.int .i64 4],[]))else Q1 (.inl (pl3 t names (i+1))):=by
 have e:eB t.2.1 names[i]=zO t names[i]:=j8 hc;have ec:du t.2.1 names[i]=Q3:=iP hc;have hx:kC t (names.take (i+1))=kC t (names.take i)++[zO t names[i]]:=by
  unfold kC;rw[bS hi,gZ];rfl
 cases i with
 | zero=>
  have hx:kC t (names.take 1)=[zO t names[0]]:=hx;show(ju (.h3 _ _ _)).val=_;simp only[ju,Q8,zH hi,zu hi,if_true,zY _ _ hi,e,ec];by_cases h:LT.lt (α:=Int) (zO t names[0]) 0
  ·simp only[zt h,if_true,if_pos h]
  ·simp only[af h,if_neg h,zG,if_false];rw[if_pos sw,zp 0 um];show _=Q1 (Sum.inl (oq.h3b _ _ _ (kC t (names.take 1))));rw[hx]
 | succ i=>
  show(ju (.h3b _ _ _ _)).val=_;simp only[ju,Q8,zH hi,zu hi,if_true,zY _ _ hi,e,ec];by_cases h:LT.lt (α:=Int) (zO t names[i+1]) 0
  ·simp only[zt h,if_true,if_pos h]
  ·simp only[af h,if_neg h,zG,if_false];rw[if_pos (by unfold kC;simp;omega),zp (i+1) um];show _=Q1 (Sum.inl (oq.h3b _ _ _ (kC t (names.take (i+1+1)))));rw[hx]
theorem zlz{l:List Int}(hl:l.length<=1000):zT ju (l.length*1001+1) (.h10b ((0:Nat):Int) l) (if l.Nodup then(.tup [.vec 0,.int .i64 0],[.vec zg l])else(.tup [.nils,.int .i64 7],[])):=by
 have hin:∀i(hi:i<l.length),((∀k(hk:k<i),l[k]≠l[i])/\zQ ju 1001 (.h10b (i:Int) l) (.h10b ((i+1:Nat):Int) l))\/((¬∀k(hk:k<i),l[k]≠l[i])/\zT ju 1001 (.h10b (i:Int) l) (.tup [.nils,.int .i64 7],[])):=by
  intro i hi;have h0:zQ ju 1 (.h10b (i:Int) l) (.h13b (i:Int) ((0:Nat):Int) l):=zQ.of (by
   show(ju (.h10b _ _)).val=_;simp only[ju,Q8,zH hi,if_true];rfl)
  rcases lH (t:=ju) (Φ:=λr=>r=(.tup [.nils,.int .i64 7],[])) 1 (λk=>.h13b (i:Int) (k:Int) l) (λk=>∀h:k<i,l[k]≠l[i]) i (λk hk _=>by
   have hkl:k<l.length:=by omega
   have g1:Q0 ((k:Int)<(i:Int))=Q3:=zH hk;have hv:(ju (.h13b (i:Int) (k:Int) l)).val=if(l[i]==l[k])=Q3 then Q1 (.inr (.tup [.nils,.int .i64 7],[]))else Q1 (.inl (.h13b (i:Int) ((k+1:Nat):Int) l)):=by
    show(ju (.h13b _ _ _)).val=_;simp only[ju,Q8,g1,zu hi,zu hkl,wA hi,wA hkl,zY _ _ hi,zY _ _ hkl,if_true];rw[zp k um]
   by_cases h:l[i]=l[k]
   ·exact .inr ⟨λq=>q hk h.symm,_,zT.of (by rw[hv,if_pos (by simpa using h)]),rfl⟩
   ·exact .inl ⟨λ_=>Ne.symm h,zQ.of (by rw[hv,if_neg (by simpa using h)])⟩)with⟨h1,h2⟩|⟨h1,r,h2,rfl⟩
  ·refine .inl ⟨λk hk=>h1 k hk hk,((h0.trans h2).trans (zQ.of ?_)).mono ow⟩;show(ju (.h13b _ _ _)).val=_;simp only[ju,Q8,zA];rw[zp i um];rfl
  ·exact .inr ⟨λh=>h1 λk hk _=>h k hk,(h0.ends h2).mono ow⟩
 have hnd:l.Nodup↔∀i,i<l.length->∀h:i<l.length,∀k(hk:k<i),l[k]≠l[i]:=by
  unfold List.Nodup;rw[List.pairwise_iff_getElem];exact⟨λh i _ hi k hk=>h k i ow hi hk,λh i j hi hj hij=>h j hj hj i hij⟩
 rcases lH (t:=ju) (Φ:=λr=>r=(.tup [.nils,.int .i64 7],[])) 1001 (λi=>.h10b (i:Int) l) (λi=>∀h:i<l.length,∀k(hk:k<i),l[k]≠l[i]) l.length (λi hi _=>by
  rcases hin i hi with⟨h1,h2⟩|⟨h1,h2⟩
  ·exact .inl ⟨λ_=>h1,h2⟩
  ·exact .inr ⟨λh=>h1 (h hi),_,h2,rfl⟩)with⟨h1,h2⟩|⟨h1,r,h2,rfl⟩
 ·rw[if_pos (hnd.2 h1)];refine(h2.ends (zT.of ?_)).mono ow;show(ju (.h10b _ _)).val=_;simp only[ju,Q8,zA];rfl
 ·rw[if_neg (λh=>h1 (hnd.1 h))];exact h2.mono ow
theorem Ga{t:Sem zo}{names:List zB}(hc:t.2.1.length<=1000000)(hn:names.length<=1000):nh t.2.1 names=Q1 (if fV t names=0 then kC t names else[],fV t names,()):=by
 have hi:(zgD t.2.1 names).val=Q1 (.inl (pl3 t names 0)):=rfl
 rcases lH (t:=ju) (Φ:=λr=>r=(.tup [.nils,.int .i64 4],[])) 1 (pl3 t names) (λi=>∀h:i<names.length,¬LT.lt (α:=Int) (zO t names[i]) 0) names.length (λi hi _=>by
  have hv:=Wj hc hn hi;by_cases h:LT.lt (α:=Int) (zO t names[i]) 0
  ·exact .inr ⟨λq=>q hi h,_,zT.of (by rw[hv,if_pos h]),rfl⟩
  ·exact .inl ⟨λ_=>h,zQ.of (by rw[hv,if_neg h])⟩)with⟨h1,h2⟩|⟨h1,r,h2,rfl⟩
 ·have hA:∀s∈names,¬LT.lt (α:=Int) (zO t s) 0:=by
   intro s hs;obtain⟨j,hj,rfl⟩:=gL hs;exact h1 j hj hj
  have hE:fV t names=if(kC t names).Nodup then 0 else 7:=by unfold fV;rw[if_pos hA];rfl
  have hxl:(kC t names).length=names.length:=by unfold kC;simp
  cases hnm:names.length with
  | zero=>
   have hnil:names=[]:=xD hnm;subst hnil;have h3:zT ju 2 (pl3 t [] 0) (.tup [.nils,.int .i64 0],[]):=by
    refine(zQ.of (s':=.h10 0) ?_).ends (zT.of ?_)
    ·rfl
    ·rfl
   have h0:fV t []=0:=by rw[hE,if_pos (by unfold kC;exact List.nodup_nil)]
   rw[h0,if_pos rfl];exact zx hi h3 ow rfl
  | succ n=>
   rw[hnm]at h2;have e1:kC t (names.take (n+1))=kC t names:=by rw[<-hnm,ji]
   have h3:zQ ju 1 (pl3 t names (n+1)) (.h10b ((0:Nat):Int) (kC t names)):=zQ.of (by
    show(ju (.h3b _ _ _ _)).val=_;rw[e1,<-hnm];simp only[ju,Q8,zA];rfl)
   have h4:=zlz (l:=kC t names) ow;have h5:=h2.ends (h3.ends h4);rw[hE];by_cases hd:(kC t names).Nodup
   ·rw[if_pos hd]at h5⊢;exact zx hi h5 ow rfl
   ·rw[if_neg hd]at h5⊢;exact zx hi h5 ow rfl
 ·have hE:fV t names=4:=by
   unfold fV;rw[if_neg];intro h;exact h1 λi _ hi=>h _ (bq hi)
  rw[hE];exact zx hi h2 ow rfl
theorem I4{t:Sem zo}{names:List zB}(hc:t.2.1.length<=1000000)(hn:names.length<=1000):ng t.2.1 names=Q3/\qb t.2.1 names=(if fV t names=0 then kC t names else[],fV t names):=by
 have h:=Ga hc hn;exact⟨by unfold ng;rw[h];rfl,by unfold qb;rw[h];rfl⟩
def qQ(e:ze)(cols:List (Sem zj)):Int:=
 if(e.op==[])=Q3 then 0 else if(bif (bH e cols).2==0 then bif (bH e cols).1!=3 then(bH e cols).1!=0 else Q4 else Q4)=Q3 then 5 else(bH e cols).2
theorem OT{e:ze}{cols:List (Sem zj)}(hw:rH e)(hl:cols.length<=1000000)(hm:(e.op==[])=Q4->cY e=Q3):yw e cols=Q1 (qQ e cols,()):=by
 unfold qQ;cases ho:(e.op==[])
 ·have hme:=hm ho;have h1:=mr hw;have h2:=ql hw;have h3:=Je hl hme;have t1:nr e cols=Q3:=by unfold nr;rw[h3];rfl
  have t2:il e cols=bH e cols:=by unfold il;rw[h3];rfl
  have hb:(bif (bH e cols).2==0 then bif (bH e cols).1!=0 then(bH e cols).1!=3 else Q4 else Q4)=(bif (bH e cols).2==0 then bif (bH e cols).1!=3 then(bH e cols).1!=0 else Q4 else Q4):=by
   cases((bH e cols).2==0)<;>cases((bH e cols).1!=0)<;>cases((bH e cols).1!=3)<;>rfl
  have hv:(VL e cols).val=Q1 (.inr (.int .i64 (if(bif (bH e cols).2==0 then bif (bH e cols).1!=3 then(bH e cols).1!=0 else Q4 else Q4)=Q3 then 5 else(bH e cols).2),[])):=by
   simp only[VL,Q8,zl,ho,h1,h2,hme,t1,t2,hb,if_true,zG,if_false,fa];split<;>rfl
  exact zN hv rfl
 ·refine zN (r:=(.int .i64 0,[])) ?_ rfl;simp only[VL,Q8,ho,if_true]
theorem BS{e:ze}{cols:List (Sem zj)}(hw:rH e)(hl:cols.length<=1000000)(hm:(e.op==[])=Q4->cY e=Q3):qu e cols=Q3/\wl e cols=qQ e cols:=by
 have h:=OT hw hl hm;exact⟨by unfold qu;rw[h];rfl,by unfold wl;rw[h];rfl⟩
theorem Dg(l:List zB):gq l=Lib.join l [32,44,32]:=by
 have h:=pn l 0 [];unfold gq;rw[h];have e:l.map lC=l:=by
  rw[show(lC:zB->zB)=id from rfl];exact List.map_id l
 rw[DC,e]
theorem WI{s:Sem zk}(h:ol s)(o:s.1=[99,111,112,121])(hk:kD s=Q3):ir s=LK s:=by
 unfold kD at hk;simp only[aD,aP]at hk;rw[(iu (Y2 h.sh o)).2,tC,Ap hk.2.1,Dg];unfold LK;simp
theorem WJ{s:Sem zk}(h:ol s)(o:s.1=[106,111,105,110])(hk:nf s=Q3):ir s=py s:=by
 unfold nf at hk;simp only[aD]at hk;rw[(iu (Y4 h.sh o)).2,tJ,Ap hk.1];unfold py;simp
theorem TK{s:Sem zk}(h:ol s)(o:s.1=[103,114,111,117,112])(hk:gv s=Q3):ir s=lE s:=by
 unfold gv at hk;simp only[aD,aP]at hk;rw[(iu (Y3 h.sh o hk.1)).2,tG,Ap hk.2.1];unfold lE;simp
theorem Ll{s:Sem zk}(h:ol s)(hm:jn s.1):∃t,nA s=Q1 (t,dV s,()):=by
 have key:∀(own:Sem zk)(ok:Bool)(t tx:zB),dv s=Q1 (t,own,ok,())->t.length<=900000->yT own->(ok=Q3->t=tx)->(ok=Q3->ir s=tx)->eW s=(ok&&(zK s.2.1&&eU own s))->∃t,nA s=Q1 (t,dV s,()):=by
  intro own ok t tx h1 h2 h3 h4 h5 h6;obtain⟨t',h7⟩:=EX h h1 h2 h3;refine⟨t',?_⟩;rw[h7,TA,h6];cases hk:ok
  ·rfl
  ·rw[h5 hk,h4 hk];cases zK s.2.1<;>cases eU own s<;>rfl
 rcases hm with o|o|o
 ·obtain⟨t,h1,h2,h3⟩:=Ny h o;exact key _ _ _ _ h1 h2 (ea h (.inl rfl) (.inr rfl) (.inr rfl) (.inr rfl) (.inl rfl) (.inr rfl) (.inr rfl) (.inr rfl)) h3 (WI h o) (MZ h o)
 ·obtain⟨h1,h2⟩:=Nz h o;exact key _ _ _ _ h1 h2 (ea h (.inr rfl) (.inr rfl) (.inr rfl) (.inr rfl) (.inl rfl) (.inr rfl) (.inr rfl) (.inr rfl)) (λ_=>rfl) (WJ h o) (M0 h o)
 ·obtain⟨t,h1,h2,h3⟩:=JW h o;exact key _ _ _ _ h1 h2 (ea h (.inl rfl) (.inr rfl) (.inr rfl) (.inr rfl) (.inl rfl) (.inr rfl) (.inr rfl) (.inr rfl)) h3 (TK h o) (I2 h o)
theorem Mo{g c:ze->ze->Bool}:∀(l m:List ze),l.length=m.length->(∀x∈l,∀y,c x y=Q3/\(g x y=Q3↔x=y))->Oh g c l m=Q3/\(Vv g l m=Q3↔l=m)
 |[],[],_,_=>⟨rfl,by simp[Vv]⟩
 |[],_::_,h,_=>by simp at h
 |_::_,[],h,_=>by simp at h
 | x::r,y::q,h,hx=>by
  obtain⟨c1,g1⟩:=hx x sw y;obtain⟨c2,g2⟩:=Mo r q (by simpa using h) (λz hz=>hx z (by simp[hz]));rw[Oh,Vv];rw[c1];by_cases k:g x y=Q3
  ·have:=g1.1 k;subst this;simp[k,c2,g2]
  ·have hne:x≠y:=λe=>k (g1.2 e)
   simp[k,hne]
theorem JF:∀(N:Nat)(a b:ze),qR N a=Q3->iU N a b=Q3/\(fh N a b=Q3↔a=b)
 |0,_,_,h=>by cases h
 | N + 1,.mk op v s l,.mk op' v' s' l',h=>by
  rw[qR]at h;simp only[aD,aP,dT]at h;obtain⟨_,ha⟩:=h;have e1:iU (N+1) (.mk op v s l) (.mk op' v' s' l')=(bif op==op' then bif TZ v v' then bif s==s' then wY (fh N) (iU N) l l' else Q3 else Q3 else Q3):=rfl;have e2:fh (N+1) (.mk op v s l) (.mk op' v' s' l')=(bif op==op' then bif TZ v v' then bif s==s' then Kt (fh N) l l' else Q4 else Q4 else Q4):=rfl;rw[e1,e2];unfold wY Kt;have hV:TZ v v'=Q3↔v=v':=by unfold TZ;simp[Prod.ext_iff]
  by_cases h1:op=op'
  ·by_cases h2:v=v'
   ·by_cases h3:s=s'
    ·by_cases h4:l.length=l'.length
     ·obtain⟨k1,k2⟩:=Mo (g:=fh N) (c:=iU N) l l' h4 (λx hx y=>JF N x y (ha x hx));have hb:((↑l.length:Int)!=(↑l'.length:Int))=Q4:=by rw[<-gg,iX];exact λh=>h h4
      rw[hb,hV.2 h2];simp[h1,h3,k1,k2,h2]
     ·have hb:((↑l.length:Int)!=(↑l'.length:Int))=Q3:=iX.2 h4;have hne:l≠l':=λe=>h4 (by rw[e])
      rw[hb,hV.2 h2];simp[h1,h3,hne]
    ·rw[hV.2 h2];simp[h1,h3]
   ·have:TZ v v'=Q4:=by rw[<-gg,hV];exact h2
    rw[this];simp[h1,h2]
  ·simp[h1]
theorem JJ{a b:List Int}(h:a.length<=1000000):GU a b=Q3/\(nT a b=Q3↔a=b):=by
 have key:∃r,GV a b=Q1 (r,())/\(r=Q3↔a=b):=by
  by_cases hl:a.length=b.length
  ·have hb:((↑(length a):Int)!=(↑(length b):Int))=Q4:=by rw[<-gg,iX];exact λh=>h hl
   have hi:(VM a b).val=Q1 (.inl (.h4 a b (a.length:Int) 0)):=by
    simp only[VM,Q8,hb];rfl
   rcases lp (t:=zi1) (la:=a) (lb:=b) (λi=>.h4 a b (a.length:Int) i) (.inr (.kb Q3,[])) (λi=>getD a (i:Int).toNat (zi zg)==getD b (i:Int).toNat (zi zg)) (λ_ _=>rfl) (λi _ ha hb=>by rw[aZ,zY _ _ ha,zY _ _ hb]) hl h with⟨q5,k5⟩|⟨q5,k5⟩
   ·exact⟨Q3,zx hi (k5 0 _ rfl) ow rfl,by simp[q5]⟩
   ·exact⟨Q4,zx hi k5 ow rfl,by simp[q5]⟩
  ·refine⟨Q4,zN (r:=EY) ?_ rfl,by simp;exact λe=>hl (by rw[e])⟩;simp only[VM,Q8,iX.2 hl,if_true]
 obtain⟨r,h1,h2⟩:=key;refine⟨by unfold GU;rw[h1];rfl,?_⟩;have:nT a b=r:=by unfold nT;rw[h1];rfl
 rw[this];exact h2
theorem Tv{a b:List (Sem zj)}(h:a.length<=1000000):Lu a b=Q3/\(xv a b=Q3↔a=b):=by
 have key:∃r,GR a b=Q1 (r,())/\(r=Q3↔a=b):=by
  by_cases hl:a.length=b.length
  ·have hb:((↑(length a):Int)!=(↑(length b):Int))=Q4:=by rw[<-gg,iX];exact λh=>h hl
   have hi:(VQ a b).val=Q1 (.inl (.h4 a b (a.length:Int) 0)):=by
    simp only[VQ,Q8,hb];rfl
   rcases lp (t:=zi3) (la:=a) (lb:=b) (λi=>.h4 a b (a.length:Int) i) (.inr (.kb Q3,[])) (λi=>((getD a (i:Int).toNat (zi zj)).1==(getD b (i:Int).toNat (zi zj)).1&&((getD a (i:Int).toNat (zi zj)).2.1==(getD b (i:Int).toNat (zi zj)).2.1&&((getD a (i:Int).toNat (zi zj)).2.2==(getD b (i:Int).toNat (zi zj)).2.2&&Q3)))) (λ_ _=>rfl) (λi _ ha hb=>by rw[PZ,zY _ _ ha,zY _ _ hb]) hl h with⟨q5,k5⟩|⟨q5,k5⟩
   ·exact⟨Q3,zx hi (k5 0 _ rfl) ow rfl,by simp[q5]⟩
   ·exact⟨Q4,zx hi k5 ow rfl,by simp[q5]⟩
  ·refine⟨Q4,zN (r:=EY) ?_ rfl,by simp;exact λe=>hl (by rw[e])⟩;simp only[VQ,Q8,iX.2 hl,if_true]
 obtain⟨r,h1,h2⟩:=key;refine⟨by unfold Lu;rw[h1];rfl,?_⟩;have:xv a b=r:=by unfold xv;rw[h1];rfl
 rw[this];exact h2
theorem Tw{a b:List (Sem zr)}(h:a.length<=1000000):Lv a b=Q3/\(xw a b=Q3↔a=b):=by
 have key:∃r,GS a b=Q1 (r,())/\(r=Q3↔a=b):=by
  by_cases hl:a.length=b.length
  ·have hb:((↑(length a):Int)!=(↑(length b):Int))=Q4:=by rw[<-gg,iX];exact λh=>h hl
   have hi:(VR a b).val=Q1 (.inl (.h4 a b (a.length:Int) 0)):=by
    simp only[VR,Q8,hb];rfl
   rcases lp (t:=zi4) (la:=a) (lb:=b) (λi=>.h4 a b (a.length:Int) i) (.inr (.kb Q3,[])) (λi=>((getD a (i:Int).toNat (zi zr)).1==(getD b (i:Int).toNat (zi zr)).1&&((getD a (i:Int).toNat (zi zr)).2==(getD b (i:Int).toNat (zi zr)).2&&Q3))) (λ_ _=>rfl) (λi _ ha hb=>by rw[zbc,zY _ _ ha,zY _ _ hb]) hl h with⟨q5,k5⟩|⟨q5,k5⟩
   ·exact⟨Q3,zx hi (k5 0 _ rfl) ow rfl,by simp[q5]⟩
   ·exact⟨Q4,zx hi k5 ow rfl,by simp[q5]⟩
  ·refine⟨Q4,zN (r:=EY) ?_ rfl,by simp;exact λe=>hl (by rw[e])⟩;simp only[VR,Q8,iX.2 hl,if_true]
 obtain⟨r,h1,h2⟩:=key;refine⟨by unfold Lv;rw[h1];rfl,?_⟩;have:xw a b=r:=by unfold xw;rw[h1];rfl
 rw[this];exact h2
theorem TH{a b:Sem zo}(hc:a.2.1.length<=1000000)(hu:a.2.2.2.1.length<=1000000)(hr:a.t.1.length<=1000000)(he:qR 16 a.t.2=Q3):Hc a b=Q3/\(rA a b=Q3↔a=b):=by
 obtain⟨a1,a2,a3,a4,a5,a6⟩:=a;obtain⟨b1,b2,b3,b4,b5,b6⟩:=b;obtain⟨c1,d1⟩:=Tv (b:=b2) (show a2.length<=1000000 from hc);obtain⟨c2,d2⟩:=JJ (b:=b4) (show a4.length<=1000000 from hu);obtain⟨c3,d3⟩:=Tw (b:=b5) (show a5.length<=1000000 from hr);obtain⟨c4,d4⟩:=JF 16 a6 b6 he;have hv:Hd (a1,a2,a3,a4,a5,a6) (b1,b2,b3,b4,b5,b6)=Q1 ((bif a1==b1 then bif a3==b3 then bif xv a2 b2 then bif nT a4 b4 then bif xw a5 b5 then fh 16 a6 b6 else Q4 else Q4 else Q4 else Q4 else Q4),()):=by
  refine zN (r:=(.bool _,[])) ?_ rfl;simp only[zgE,Q8,zl,c1,c2,c3,c4];rw[if_pos];cases(a1==b1)<;>cases(a3==b3)<;>cases xv a2 b2<;>cases nT a4 b4<;>cases xw a5 b5<;>rfl
 refine⟨by unfold Hc;rw[hv];rfl,?_⟩;have:rA (a1,a2,a3,a4,a5,a6) (b1,b2,b3,b4,b5,b6)=(bif a1==b1 then bif a3==b3 then bif xv a2 b2 then bif nT a4 b4 then bif xw a5 b5 then fh 16 a6 b6 else Q4 else Q4 else Q4 else Q4 else Q4):=by unfold rA;rw[hv];rfl
 rw[this];simp only[cr];rw[<-d1,<-d2,<-d3,<-d4];have x1:(a1==b1)=Q3↔a1=b1:=aZ;have x3:(a3==b3)=Q3↔a3=b3:=aZ;rw[<-x1,<-x3];cases(a1==b1)<;>cases(a3==b3)<;>cases xv a2 b2<;>cases nT a4 b4<;>cases xw a5 b5<;>cases fh 16 a6 b6<;>simp
theorem SS{a b:Sem zz}(hc:a.2.2.2.1.2.1.length<=1000000)(hu:a.2.2.2.1.2.2.2.1.length<=1000000)(hr:a.2.2.2.1.t.1.length<=1000000)(he:qR 16 a.2.2.2.1.t.2=Q3)(hx:a.t.1.length<=1000000):F4 a b=Q3/\(IY a b=Q3↔a=b):=by
 obtain⟨a1,a2,a3,a4,a5,a6⟩:=a;obtain⟨b1,b2,b3,b4,b5,b6⟩:=b;obtain⟨c1,d1⟩:=TH (b:=b4) hc hu hr he;obtain⟨c2,d2⟩:=JJ (b:=b5) (show a5.length<=1000000 from hx);have c1':Hc (a4.1,a4.2.1,a4.2.2.1,a4.2.2.2.1,a4.t.1,a4.t.2) (b4.1,b4.2.1,b4.2.2.1,b4.2.2.2.1,b4.t.1,b4.t.2)=Q3:=c1;have hs:rA (a4.1,a4.2.1,a4.2.2.1,a4.2.2.2.1,a4.t.1,a4.t.2) (b4.1,b4.2.1,b4.2.2.1,b4.2.2.2.1,b4.t.1,b4.t.2)=rA a4 b4:=rfl;have hv:F5 (a1,a2,a3,a4,a5,a6) (b1,b2,b3,b4,b5,b6)=Q1 ((bif a1==b1 then bif a2==b2 then bif a3==b3 then bif a6==b6 then bif rA a4 b4 then nT a5 b5 else Q4 else Q4 else Q4 else Q4 else Q4),()):=by
  refine zN (r:=(.bool _,[])) ?_ rfl;simp only[zgz,Q8,zl,c1',hs,c2];rw[if_pos];cases(a1==b1)<;>cases(a2==b2)<;>cases(a3==b3)<;>cases(a6==b6)<;>cases rA a4 b4<;>rfl
 refine⟨by unfold F4;rw[hv];rfl,?_⟩;have:IY (a1,a2,a3,a4,a5,a6) (b1,b2,b3,b4,b5,b6)=(bif a1==b1 then bif a2==b2 then bif a3==b3 then bif a6==b6 then bif rA a4 b4 then nT a5 b5 else Q4 else Q4 else Q4 else Q4 else Q4):=by unfold IY;rw[hv];rfl
 rw[this];simp only[cr];rw[<-d1,<-d2];have x1:(a1==b1)=Q3↔a1=b1:=aZ;have x2:(a2==b2)=Q3↔a2=b2:=aZ;have x3:(a3==b3)=Q3↔a3=b3:=aZ;have x6:(a6==b6)=Q3↔a6=b6:=aZ;rw[<-x1,<-x2,<-x3,<-x6];cases(a1==b1)<;>cases(a2==b2)<;>cases(a3==b3)<;>cases(a6==b6)<;>cases rA a4 b4<;>cases nT a5 b5<;>simp
theorem nH.may{t:Sem zo}(h:nH t)(ho:(t.t.2.op==[])=Q4):cY t.t.2=Q3:=by
 have hc:=h.chk;unfold iq at hc;have hn:fh 16 t.t.2 vY=Q4:=by rw[Cm,ho];rfl
 rw[hn,if_neg sw]at hc;rcases zF (cY t.t.2)with c|c
 ·exact c
 ·have ht:bH t.t.2 t.2.1=(0,1):=by unfold bH;rw[c];rfl
  rw[ht]at hc;cases hc
theorem KB(t:Sem zo)(row:List (Sem zf))(i:Int):ef t row [] i=if Hm (jJ t.t.2 t.2.1 row) 0=Q3 then(9:Int)else 0:=by rw[ef];rfl
theorem w7(t:Sem zo)(row:List (Sem zf))(x:Sem zf)(r:List (Sem zf))(i:Nat):ef t row (x::r) (i:Int)=if(bif x.1==0 then(getD t.2.1 i (zi zj)).2.2 else Q4)=Q3 then(8:Int)else if(bif x.1!=0 then x.1!=(getD t.2.1 i (zi zj)).2.1 else Q4)=Q3 then 5 else ef t row r ((i+1:Nat):Int):=by
 rw[ef];simp only[aJ];rfl
theorem AX{t:Sem zo}{row:List (Sem zf)}(hw:JX t)(hT:nH t)(hr:∀v∈row,lK v)(hl:row.length=t.2.1.length):∀(m i:Nat),row.length-i=m->i<=row.length->zT CE (m+1) (.h9 row (i:Int) (t,())) (.int .i64 (ef t row (row.drop i) (i:Int)),[])
 | 0,i,hm,hi=>by
  obtain rfl:i=row.length:=by omega
  have hcl:=hw.ncols;rw[jh,KB];refine zT.of ?_;have h8:=hT.n8;rcases zF (t.t.2.op==[])with c|c
  ·have hm:cY t.t.2=Q4:=by
    rcases zF (cY t.t.2)with h|h
    ·rw[Mf h]at c;cases c
    ·exact h
   have hv:jJ t.t.2 t.2.1 row=(0,0,[]):=by unfold jJ;rw[hm];rfl
   rw[hv];simp only[CE,Q8,zA,zl];rw[c];rfl
  ·have hm:=hT.may c;have hev:=Te (cols:=t.2.1) (row:=row) ow hr hw.chk hm;have hec:yn t.t.2 t.2.1 row=Q3:=by unfold yn;rw[hev];rfl
   have hevv:Gg t.t.2 t.2.1 row=jJ t.t.2 t.2.1 row:=by unfold Gg;rw[hev];rfl
   simp only[CE,Q8,zA,zl,hec,hevv,yj,Gd];rw[c];show(if Q3=Q3 then(if Hm (jJ t.t.2 t.2.1 row) 0=Q3 then Q1 (Sum.inr (ai 9,[]))else Q1 (Sum.inr (ai 0,[])))else none:Option (Ff⊕aw))=_;rcases zF (Hm (jJ t.t.2 t.2.1 row) 0)with k|k<;>rw[k]<;>rfl
 | m+1,i,hm,hi=>by
  have hlt:i<row.length:=by omega
  have h8:=hT.n8;have ih:=AX hw hT hr hl m (i+1) ow ow;have hd:row.drop i=getD row i (zi zf)::row.drop (i+1):=by
   rw[fk hlt,ba,zR hlt];rfl
  rw[hd,w7];have hin:zM (i:Int) t.2.1.length=Q3:=zu ow;have hv:(CE (.h9 row (i:Int) (t,()))).val=if(bif (getD row i (zi zf)).1==0 then(getD t.2.1 i (zi zj)).2.2 else Q4)=Q3 then Q1 (.inr (.int .i64 8,[]))else if(bif (getD row i (zi zf)).1!=0 then(getD row i (zi zf)).1!=(getD t.2.1 i (zi zj)).2.1 else Q4)=Q3 then Q1 (.inr (.int .i64 5,[]))else Q1 (.inl (.h9 row ((i+1:Nat):Int) (t,()))):=by
   simp only[CE,Q8,zH hlt,zu hlt,hin,aJ,if_true];rw[zp i um];cases((getD row i (zi zf)).1==0)<;>cases((getD row i (zi zf)).1!=0)<;>rfl
  rcases zF (bif (getD row i (zi zf)).1==0 then(getD t.2.1 i (zi zj)).2.2 else Q4)with c|c
  ·rw[c,if_pos GM]at hv⊢;exact(zT.of hv).mono ow
  ·rw[c,if_neg sw]at hv⊢;rcases zF (bif (getD row i (zi zf)).1!=0 then(getD row i (zi zf)).1!=(getD t.2.1 i (zi zj)).2.1 else Q4)with c2|c2
   ·rw[c2,if_pos GM]at hv⊢;exact(zT.of hv).mono ow
   ·rw[c2,if_neg sw]at hv⊢;exact(zQ.of hv).ends ih
theorem AW{t:Sem zo}{row:List (Sem zf)}(hw:JX t)(hT:nH t)(hr:∀v∈row,lK v)(hl:row.length=t.2.1.length):∀(m i:Nat),row.length-i=m->i<=row.length->zT CE (m+2+row.length) (.h4 row (i:Int) (t,())) (.int .i64 (fP t row (row.drop i) (i:Int)),[])
 | 0,i,hm,hi=>by
  obtain rfl:i=row.length:=by omega
  rw[jh];have hv:(CE (.h4 row (row.length:Int) (t,()))).val=Q1 (.inl (.h9 row ((0:Nat):Int) (t,()))):=by
   simp only[CE,Q8,zA];rfl
  have h9:=AX hw hT hr hl row.length 0 ow ow;have e:fP t row [] (row.length:Int)=ef t row (row.drop 0) ((0:Nat):Int):=by
   rw[fP];rfl
  rw[e];exact((zQ.of hv).ends h9).mono ow
 | m+1,i,hm,hi=>by
  have hlt:i<row.length:=by omega
  have h8:=hT.n8;have ih:=AW hw hT hr hl m (i+1) ow ow;have hd:row.drop i=getD row i (zi zf)::row.drop (i+1):=by
   rw[fk hlt,ba,zR hlt];rfl
  have hvl:=(hr _ (bI (d:=zi zf) hlt)).2.2;have e:fP t row (row.drop i) (i:Int)=if(!aW (getD row i (zi zf)))=Q3 then(1:Int)else fP t row (row.drop (i+1)) ((i+1:Nat):Int):=by
   rw[hd];rw[fP];rfl
  rw[e];have hv:(CE (.h4 row (i:Int) (t,()))).val=if(!aW (getD row i (zi zf)))=Q3 then Q1 (.inr (.int .i64 1,[]))else Q1 (.inl (.h4 row ((i+1:Nat):Int) (t,()))):=by
   simp only[CE,Q8,zH hlt,zu hlt,aJ,if_true,kH hvl,nj hvl];rw[zp i um]
  rcases zF (!aW (getD row i (zi zf)))with c|c
  ·rw[c,if_pos GM]at hv⊢;exact(zT.of hv).mono ow
  ·rw[c,if_neg sw]at hv⊢;exact((zQ.of hv).ends ih).mono ow
theorem ER{t:Sem zo}{row:List (Sem zf)}(hw:JX t)(hr:∀v∈row,lK v):yv t row=Q1 (dW t row,()):=by
 unfold dW;have hi:(zbK t row).val=if(bif !eF t then Q3 else(row.length:Int)!=(t.2.1.length:Int))=Q3 then Q1 (.inr (.int .i64 1,[]))else Q1 (.inl (.h4 row ((0:Nat):Int) (t,()))):=by
  simp only[zbK,Q8,zl,mu hw,qt hw,if_true];rfl
 rcases zF (bif !eF t then Q3 else(row.length:Int)!=(t.2.1.length:Int))with c|c
 ·rw[if_pos c]at hi⊢;exact zN hi rfl
 ·rw[if_neg (by rw[c];simp)]at hi⊢;have hm:eF t=Q3:=by
   rcases zF (eF t)with k|k
   ·exact k
   ·rw[k]at c;cases c
  rw[hm]at c;have hl:row.length=t.2.1.length:=by
   have:((row.length:Int)!=(t.2.1.length:Int))=Q4:=c;simp at this;omega
  have hT:=(kR t).1 hm;have h8:=hT.n8;exact zx hi (AW hw hT hr hl row.length 0 ow ow) ow rfl
theorem OS{t:Sem zo}{row:List (Sem zf)}(hw:JX t)(hr:∀v∈row,lK v):Gn t row=Q3:=by unfold Gn;rw[ER hw hr];rfl
theorem Tg{t:Sem zo}{row:List (Sem zf)}(hw:JX t)(hr:∀v∈row,lK v):Lh t row=dW t row:=by unfold Lh;rw[ER hw hr];rfl
theorem eq3(a b:Sem zf):(a.1==b.1&&(a.2.1==b.2.1&&(a.2.2==b.2.2&&Q3)))=Q3↔a=b:=by
 obtain⟨k,n,s⟩:=a;obtain⟨k',n',s'⟩:=b;simp
theorem uc{rows:List (List (Sem zf))}{c:Int}(hc:∀r∈rows,zM c (length r)=Q3)(hl:rows.length<=1000):∃b,ua rows c=Q1 (b,())/\(b=Q4↔qO rows c):=by
 have h2:=lH (t:=Dh) (Φ:=λr=>r=(.kb Q3,[])) 1002 (λi=>.h2 rows c (i:Int)) (λi=>∀k,k<i->¬((ao c (getD rows i (zi zf.sl))).1≠0/\ao c (getD rows i (zi zf.sl))=ao c (getD rows k (zi zf.sl)))) rows.length (by
  intro i hi _;have hv:(Dh (.h2 rows c (i:Int))).val=Q1 (.inl (.h5 rows c (i:Int) ((0:Nat):Int))):=by
   simp only[Dh,Q8,zH hi];rfl
  have h5:=lH (t:=Dh) (Φ:=λr=>r=(.kb Q3,[])) 1 (λk=>.h5 rows c (i:Int) (k:Int)) (λk=>¬((ao c (getD rows i (zi zf.sl))).1≠0/\ao c (getD rows i (zi zf.sl))=ao c (getD rows k (zi zf.sl)))) i (by
   intro k hk _;have hk2:k<rows.length:=by omega
   have hv:(Dh (.h5 rows c (i:Int) (k:Int))).val=if(bif (ao c (getD rows i (zi zf.sl))).1!=0 then(ao c (getD rows i (zi zf.sl))).1==(ao c (getD rows k (zi zf.sl))).1&&((ao c (getD rows i (zi zf.sl))).2.1==(ao c (getD rows k (zi zf.sl))).2.1&&((ao c (getD rows i (zi zf.sl))).2.2==(ao c (getD rows k (zi zf.sl))).2.2&&Q3))else Q4)=Q3 then Q1 (.inr (.kb Q3,[]))else Q1 (.inl (.h5 rows c (i:Int) ((k+1:Nat):Int))):=by
    simp only[Dh,Q8,zH hk,zu hi,zu hk2,hc _ (bI (d:=zi zf.sl) hi),hc _ (bI (d:=zi zf.sl) hk2),aJ,if_true];rw[if_pos,zp k um];cases((getD (getD rows i (zi zf.sl)) (toNat c) (zi zf)).1!=0)<;>rfl
   have he:=eq3 (ao c (getD rows i (zi zf.sl))) (ao c (getD rows k (zi zf.sl)));rcases zF ((ao c (getD rows i (zi zf.sl))).1!=0)with d1|d1
   ·have d1':(ao c (getD rows i (zi zf.sl))).1≠0:=bne_iff_ne.1 d1;rcases zF ((ao c (getD rows i (zi zf.sl))).1==(ao c (getD rows k (zi zf.sl))).1&&((ao c (getD rows i (zi zf.sl))).2.1==(ao c (getD rows k (zi zf.sl))).2.1&&((ao c (getD rows i (zi zf.sl))).2.2==(ao c (getD rows k (zi zf.sl))).2.2&&Q3)))with d2|d2
    ·exact .inr ⟨λh=>h ⟨d1',he.1 d2⟩,_,zT.of (by rw[hv,d1,d2,if_pos GM]),rfl⟩
    ·exact .inl ⟨λh=>(by rw[he.2 h.2]at d2;cases d2),zQ.of (by rw[hv,d1,d2,if_neg sw])⟩
   ·refine .inl ⟨λh=>h.1 (by simpa using d1),zQ.of (by rw[hv,d1,if_neg sw])⟩)
  rcases h5 with⟨p5,g5⟩|⟨p5,r,g5,hr⟩
  ·have hv5:(Dh (.h5 rows c (i:Int) (i:Int))).val=Q1 (.inl (.h2 rows c ((i+1:Nat):Int))):=by
    simp only[Dh,Q8,zA];rw[zp i um];rfl
   exact .inl ⟨p5,(((zQ.of hv).trans g5).trans (zQ.of hv5)).mono ow⟩
  ·exact .inr ⟨p5,r,((zQ.of hv).ends g5).mono ow,hr⟩)
 have hu:(∀i,i<rows.length->∀k,k<i->¬((ao c (getD rows i (zi zf.sl))).1≠0/\ao c (getD rows i (zi zf.sl))=ao c (getD rows k (zi zf.sl))))↔qO rows c:=by
  unfold qO;rw[List.pairwise_iff_getElem];have e:∀i(hi:i<rows.length),getD rows i (zi zf.sl)=rows[i]:=λi hi=>by rw[ba,zR hi,dq]
  constructor
  ·intro h i j hi hj hij hne heq;have:=h j hj i hij;rw[e i hi,e j hj]at this;exact this ⟨by rw[<-heq];exact hne,heq.symm⟩
  ·rintro h i hi k hk ⟨h1,h2⟩;rw[e i hi]at h1 h2;rw[e k ow]at h2;exact h k i ow hi hk (by rw[<-h2];exact h1) h2.symm
 have hi:(zgF rows c).val=Q1 (.inl (.h2 rows c ((0:Nat):Int))):=rfl;rcases h2 with⟨p2,g2⟩|⟨p2,r,g2,hr⟩
 ·refine⟨Q4,zx hi (g2.ends (zT.of (r:=(.kb Q4,[])) ?_)) ow rfl,⟨λ_=>hu.1 p2,λ_=>rfl⟩⟩;simp only[Dh,Q8,zA];rfl
 ·subst hr;exact⟨Q3,zx hi g2 ow rfl,⟨λh=>(by cases h),λh=>absurd (hu.2 h) p2⟩⟩
theorem Jk{t:Sem zo}{row:List (Sem zf)}(hw:JX t)(hm:eF t=Q3)(hk:zM t.2.2.1 row.length=Q3):BT t row=Q1 (ao t.2.2.1 row,()):=by
 unfold BT al cU;have h2:Q0 (LT.lt (α:=Int) t.2.2.1 (row.length:Int))=Q3:=by
  unfold zM at hk;simp only[aD]at hk;exact hk.2
 simp only[zgH,Q8,zl,mu hw,qt hw,hm,hk,h2];rfl
theorem Jj{t:Sem zo}{row:List (Sem zf)}(hw:JX t)(hm:eF t=Q3)(hk:zM t.2.2.1 row.length=Q3):Gv t row=Q3:=by unfold Gv;rw[Jk hw hm hk];rfl
theorem M9{t:Sem zo}{row:List (Sem zf)}(hw:JX t)(hm:eF t=Q3)(hk:zM t.2.2.1 row.length=Q3):M8 t row=ao t.2.2.1 row:=by unfold M8;rw[Jk hw hm hk];rfl
theorem ET{x:Sem zh}{v:Sem zf}(hw:JX x.1)(hm:eF x.1=Q3)(hk:∀r∈x.2,zM x.1.2.2.1 (length r)=Q3)(hl:x.2.length<=1000):yx x v=Q1 (ae (λr=>dw r x.1.2.2.1 v) x.2 0,()):=by
 have hh:∀r∈x.2,dw r x.1.2.2.1 v=((ao x.1.2.2.1 r).1==v.1&&((ao x.1.2.2.1 r).2.1==v.2.1&&((ao x.1.2.2.1 r).2.2==v.2.2&&Q3))):=by
  intro r hr;have:=hk r hr;unfold zM at this;simp only[aD]at this;unfold dw;rw[show Q0 (GE.ge (α:=Int) x.1.2.2.1 0)=Q3 from this.1,this.2];rfl
 have hf:=lH (t:=TC) (Φ:=λr=>r=(.int .i64 (ae (λr=>dw r x.1.2.2.1 v) x.2 0),[])) 1 (λi=>.h2 (i:Int) (x,()) (v,())) (λi=>dw (getD x.2 i (zi zf.sl)) x.1.2.2.1 v=Q4) x.2.length (by
  intro i hi hj;have hmem:=bI (d:=zi zf.sl) hi;have hkk:=hk _ hmem;have h2:Q0 (LT.lt (α:=Int) x.1.2.2.1 ((getD x.2 i (zi zf.sl)).length:Int))=Q3:=by
   unfold zM at hkk;simp only[aD]at hkk;exact hkk.2
  have hv:(TC (.h2 (i:Int) (x,()) (v,()))).val=if dw (getD x.2 i (zi zf.sl)) x.1.2.2.1 v=Q3 then Q1 (.inr (.int .i64 i,[]))else Q1 (.inl (.h2 ((i+1:Nat):Int) (x,()) (v,()))):=by
   rw[hh _ hmem];simp only[TC,Q8,zl,zH hi,zu hi,hkk,h2,mu hw,qt hw,hm,aJ,ay,if_true,nK];rw[zp i um]
  rcases zF (dw (getD x.2 i (zi zf.sl)) x.1.2.2.1 v)with h|h
  ·have hp:=mg (p:=λr=>dw r x.1.2.2.1 v) (d:=zi zf.sl) x.2 0 i hi h hj;refine .inr ⟨by rw[h];simp,_,zT.of (by rw[hv,if_pos h]),?_⟩;show _=(ai (ae (λr=>dw r x.1.2.2.1 v) x.2 0),[]);rw[hp];simp
  ·exact .inl ⟨h,zQ.of (by rw[hv,if_neg (by rw[h];simp)])⟩)
 have hi:(zgI x v).val=Q1 (.inl (.h2 ((0:Nat):Int) (x,()) (v,()))):=rfl;rcases hf with⟨h1,h2⟩|⟨h1,r,h2,rfl⟩
 ·have hp:=mh (p:=λr=>dw r x.1.2.2.1 v) (d:=zi zf.sl) x.2 0 h1;rw[hp];refine zx hi (h2.ends (zT.of (r:=(.int .i64 (-1),[])) ?_)) ow rfl;simp only[TC,Q8,zA];rfl
 ·exact zx hi h2 ow rfl
theorem OU{x:Sem zh}{v:Sem zf}(hw:JX x.1)(hm:eF x.1=Q3)(hk:∀r∈x.2,zM x.1.2.2.1 (length r)=Q3)(hl:x.2.length<=1000):Gu x v=Q3:=by unfold Gu;rw[ET hw hm hk hl];rfl
theorem Th{x:Sem zh}{v:Sem zf}(hw:JX x.1)(hm:eF x.1=Q3)(hk:∀r∈x.2,zM x.1.2.2.1 (length r)=Q3)(hl:x.2.length<=1000):Li x v=ae (λr=>dw r x.1.2.2.1 v) x.2 0:=by unfold Li;rw[ET hw hm hk hl];rfl
structure PK (x:Sem zh):Prop where
 t:JX x.1
 rows:x.2.length<=1000
 vals:∀r∈x.2,∀v∈(r:List (Sem zf)),lK v
theorem PK.short{x:Sem zh}(h:PK x):gB x:=⟨h.t.nuq,h.t.nrf,h.rows⟩
theorem En{t:Sem zo}{row:List (Sem zf)}:∀(r:List (Sem zf))(i:Nat),ef t row r (i:Int)=(0:Int)->∀j,j<r.length->(getD t.2.1 (i+j) (zi zj)).2.2=Q3->(getD r j (zi zf)).1≠0
 |[],_,_,j,hj,_=>by simp at hj
 | x::r,i,h,j,hj,hn=>by
  rw[w7]at h;split at h
  ·cases h
  rename_i c;split at h
  ·cases h
  cases j with
  | zero=>
   intro h0;have h0':(x.1==0)=Q3:=by simpa using h0
   rw[h0']at c;exact c hn
  | succ j=>
   have:=En r (i+1) h j (by simpa using hj) (by rw[show i+1+j=i+(j+1) by omega];exact hn);exact this
theorem Ep{t:Sem zo}{row:List (Sem zf)}:∀(r:List (Sem zf))(i:Nat),fP t row r (i:Int)=(0:Int)->(∀v∈r,aW v=Q3)/\ef t row row ((0:Nat):Int)=(0:Int)
 | [],i,h=>by
  rw[fP]at h;exact⟨λv hv=>(by cases hv),h⟩
 | x::r,i,h=>by
  have e:fP t row (x::r) (i:Int)=if(!aW x)=Q3 then(1:Int)else fP t row r ((i+1:Nat):Int):=by
   rw[fP];rfl
  rw[e]at h;split at h
  ·cases h
  rename_i c;obtain⟨h1,h2⟩:=Ep r (i+1) h;refine⟨λv hv=>?_,h2⟩;rcases cj.1 hv with rfl|hv
  ·simpa using c
  ·exact h1 v hv
theorem ft{t:Sem zo}{row:List (Sem zf)}(h:dW t row=(0:Int)):row.length=t.2.1.length/\(∀v∈row,aW v=Q3)/\∀j,j<row.length->(getD t.2.1 j (zi zj)).2.2=Q3->(getD row j (zi zf)).1≠0:=by
 have hl:=AY (t:=t) (row:=row) (by simpa using h);unfold dW at h;split at h
 ·cases h
 obtain⟨h1,h2⟩:=Ep row 0 h;refine⟨hl,h1,λj hj hn=>?_⟩;have:=En row 0 h2 j hj (by rwa [kh]);exact this
theorem K2{a b:Sem zf}(ha:aW a=Q3)(hb:aW b=Q3)(h:cD a b=(0:Int)):a=b:=by
 unfold cD ap at h;rw[ha,hb]at h;have h:F1 [rP a.1 b.1,kk a.2.1 b.2.1,nY a.2.2 b.2.2]=(0:Int):=h;rw[<-R8]at h;rcases zF (a.1==b.1&&(a.2.1==b.2.1&&(a.2.2==b.2.2&&Q3)))with c|c
 ·exact(eq3 a b).1 c
 ·rw[if_neg (by rw[c];simp)]at h;split at h<;>cases h
theorem Gt{x:Sem zh}(hw:PK x):∃e:Int,mv x=Q1 (e,())/\(e=0↔eI x):=by
 have hsw:=hw.rows;have hsu:=hw.t.nuq;by_cases hm:eF x.1=Q3
 case neg=>
  have hm':eF x.1=Q4:=by simpa using hm
  refine⟨1,?_,λh=>(by cases h),λh=>absurd h.may hm⟩;unfold mv al cU;simp only[Rt,Q8,zl,mu hw.t,qt hw.t,hm'];rfl
 by_cases hwl:x.2.length<=200
 case neg=>
  refine⟨13,?_,λh=>(by cases h),λh=>absurd h.few hwl⟩;unfold mv al cU;simp only[Rt,Q8,zl,mu hw.t,qt hw.t,hm];rw[if_pos trivial,if_neg sw,if_pos sg];rfl
 have hi:(Rt x).val=Q1 (.inl (.h6 ((0:Nat):Int) (x,()))):=by
  simp only[Rt,Q8,zl,mu hw.t,qt hw.t,hm];rw[if_pos trivial,if_neg sw,if_neg sg];rfl
 obtain⟨hkc,hrc,huc,_,_⟩:=gR hm;have h6:=lH (t:=po) (Φ:=TW) 1 (λi=>.h6 (i:Int) (x,())) (λi=>dW x.1 (getD x.2 i (zi zf.sl))=(0:Int)) x.2.length (by
  intro i hi _;have hvr:=hw.vals _ (bI (d:=zi zf.sl) hi);have hv:(po (.h6 (i:Int) (x,()))).val=if(dW x.1 (getD x.2 i (zi zf.sl))!=0)=Q3 then Q1 (.inr (.int .i64 (dW x.1 (getD x.2 i (zi zf.sl))),[]))else Q1 (.inl (.h6 ((i+1:Nat):Int) (x,()))):=by
   simp only[po,Q8,zl,zH hi,zu hi,aJ,OS hw.t hvr,Tg hw.t hvr,if_true];rw[zp i um]
  by_cases h:dW x.1 (getD x.2 i (zi zf.sl))=(0:Int)
  ·refine .inl ⟨h,zQ.of ?_⟩;rw[hv,if_neg (by rw[h];simp)]
  ·refine .inr ⟨h,_,zT.of (by rw[hv,if_pos (by simpa using h)]),_,rfl,h⟩)
 rcases h6 with⟨hf,h6⟩|⟨hf,r,h6,e,he,hne⟩
 case inr=>
  subst he;exact⟨e,zx hi h6 ow rfl,λh=>absurd h hne,λh=>absurd ((aq (Q:=λr=>dW x.1 r=(0:Int))).2 h.fits) hf⟩
 have hfits:=(aq (Q:=λr=>dW x.1 r=(0:Int))).1 hf;have hlen:∀r∈x.2,length r=x.1.2.1.length:=λr hr=>(ft (hfits r hr)).1
 have hin:∀c,CV c x.1.2.1.length->∀r∈x.2,zM c (length r)=Q3:=λc hc r hr=>by
  rw[hlen r hr];exact tz hc
 obtain⟨b,hb,hbu⟩:=uc (rows:=x.2) (c:=x.1.2.2.1) (hin _ hkc) hsw;have hbc:mw x.2 x.1.2.2.1=Q3:=by unfold mw;rw[hb];rfl
 have hbv:qv x.2 x.1.2.2.1=b:=by unfold qv;rw[hb];rfl
 have hv6:(po (.h6 (x.2.length:Int) (x,()))).val=if b=Q3 then Q1 (.inr (.int .i64 7,[]))else Q1 (.inl (.h14 ((0:Nat):Int) (x,()))):=by
  simp only[po,Q8,zA,hbc,hbv];rfl
 by_cases hb1:b=Q3
 ·refine⟨7,zx hi (h6.ends (zT.of (by rw[hv6,if_pos hb1]))) ow rfl,λh=>(by cases h),λh=>?_⟩;have:=hbu.2 h.key;rw[hb1]at this;cases this
 have hkey:qO x.2 x.1.2.2.1:=hbu.1 (by simpa using hb1);have g14:zQ po _ (.h6 ((0:Nat):Int) (x,())) _:=h6.trans (zQ.of (by rw[hv6,if_neg hb1]));have h14:=lH (t:=po) (Φ:=TW) 1 (λi=>.h14 (i:Int) (x,())) (λi=>qO x.2 (getD x.1.2.2.2.1 i (zi zg))) x.1.2.2.2.1.length (by
  intro i hi _;obtain⟨b,hb,hbu⟩:=uc (rows:=x.2) (c:=getD x.1.2.2.2.1 i (zi zg)) (hin _ (huc _ (bI hi))) hsw;have hbc:mw x.2 (getD x.1.2.2.2.1 i (zi zg))=Q3:=by unfold mw;rw[hb];rfl
  have hbv:qv x.2 (getD x.1.2.2.2.1 i (zi zg))=b:=by unfold qv;rw[hb];rfl
  have hv:(po (.h14 (i:Int) (x,()))).val=if b=Q3 then Q1 (.inr (.int .i64 7,[]))else Q1 (.inl (.h14 ((i+1:Nat):Int) (x,()))):=by
   simp only[po,Q8,zH hi,zu hi,if_true,aJ,hbc,hbv];rw[zp i um]
  by_cases h:b=Q3
  ·refine .inr ⟨λhu=>?_,_,zT.of (by rw[hv,if_pos h]),7,rfl,by decide⟩;have:=hbu.2 hu;rw[h]at this;cases this
  ·exact .inl ⟨hbu.1 (by simpa using h),zQ.of (by rw[hv,if_neg h])⟩)
 rcases h14 with⟨hq,h14⟩|⟨hq,r,h14,e,he,hne⟩
 case inr=>
  subst he;exact⟨e,zx hi (g14.ends h14) ow rfl,λh=>absurd h hne,λh=>absurd ((aq (Q:=λu=>qO x.2 u)).2 h.uniq) hq⟩
 have huniq:=(aq (Q:=λu=>qO x.2 u)).1 hq;have hv14:(po (.h14 (x.1.2.2.2.1.length:Int) (x,()))).val=Q1 (.inl (.h19 ((0+1:Nat):Int) (x,()))):=by
  simp only[po,Q8,zA];rfl
 have g19:=(g14.trans h14).trans (zQ.of hv14);have hstep:∀i,i+1<x.2.length->(xA (ao x.1.2.2.1 (getD x.2 i (zi zf.sl))) (ao x.1.2.2.1 (getD x.2 (i+1) (zi zf.sl)))↔Q0 (GT.gt (α:=Int) (cD (ao x.1.2.2.1 (getD x.2 i (zi zf.sl))) (ao x.1.2.2.1 (getD x.2 (i+1) (zi zf.sl)))) 0)=Q4):=by
  intro i h2;have h1:i<x.2.length:=by omega
  have m1:=bI (d:=zi zf.sl) h1;have m2:=bI (d:=zi zf.sl) h2;obtain⟨l1,f1,n1⟩:=ft (hfits _ m1);obtain⟨l2,f2,_⟩:=ft (hfits _ m2);have hT:=(kR x.1).1 hm;obtain⟨k1,k2⟩:=hT.key;have hk1:toNat x.1.2.2.1<(getD x.2 i (zi zf.sl)).length:=by rw[l1];omega
  have hk2:toNat x.1.2.2.1<(getD x.2 (i+1) (zi zf.sl)).length:=by rw[l2];omega
  unfold xA;constructor
  ·intro h;exact af ow
  ·intro h;have h:¬GT.gt (α:=Int) (cD (ao x.1.2.2.1 (getD x.2 i (zi zf.sl))) (ao x.1.2.2.1 (getD x.2 (i+1) (zi zf.sl)))) 0:=of_decide_eq_false h;by_cases h0:@Eq Int (cD (ao x.1.2.2.1 (getD x.2 i (zi zf.sl))) (ao x.1.2.2.1 (getD x.2 (i+1) (zi zf.sl)))) 0
   ·exfalso;have he:=K2 (f1 _ (bI hk1)) (f2 _ (bI hk2)) h0;have hne:=n1 _ hk1 hT.nn;have hp:=(List.pairwise_iff_getElem.1 hkey) i (i+1) h1 h2 ow;have e1:getD x.2 i (zi zf.sl)=x.2[i]:=by rw[ba,zR h1,dq]
    have e2:getD x.2 (i+1) (zi zf.sl)=x.2[i+1]:=by rw[ba,zR h2,dq]
    rw[e1]at hne he;rw[e2]at he;exact hp hne he
   ·omega
 have h19:=lH (t:=po) (Φ:=TW) 1 (λi=>.h19 ((i+1:Nat):Int) (x,())) (λi=>xA (ao x.1.2.2.1 (getD x.2 i (zi zf.sl))) (ao x.1.2.2.1 (getD x.2 (i+1) (zi zf.sl)))) (x.2.length-1) (by
  intro i hi _;have h1:i<x.2.length:=by omega
  have h2:i+1<x.2.length:=by omega
  have m1:=bI (d:=zi zf.sl) h1;have m2:=bI (d:=zi zf.sl) h2;have k1:=hin _ hkc _ m1;have k2:=hin _ hkc _ m2;have o1:∀r∈x.2,(ao x.1.2.2.1 r).2.2.length<=1000000:=by
   intro r hr;by_cases h:toNat x.1.2.2.1<length r
   ·exact(hw.vals r hr _ (bI h)).2.2
   ·unfold ao;rw[ba,eX ow];simp[zi]
  have hv:(po (.h19 ((i+1:Nat):Int) (x,()))).val=if Q0 (GT.gt (α:=Int) (cD (ao x.1.2.2.1 (getD x.2 i (zi zf.sl))) (ao x.1.2.2.1 (getD x.2 (i+1) (zi zf.sl)))) 0)=Q3 then Q1 (.inr (.int .i64 15,[]))else Q1 (.inl (.h19 ((i+1+1:Nat):Int) (x,()))):=by
   simp only[po,zl,mL i um];simp only[Q8,zH h2,zu h2,zu h1,aJ,Prod.eta,Jj hw.t hm k1,Jj hw.t hm k2,M9 hw.t hm k1,M9 hw.t hm k2,BF (o1 _ m1) (o1 _ m2),EK (o1 _ m1) (o1 _ m2),if_true];rw[zp (i+1) um]
  rcases zF (Q0 (GT.gt (α:=Int) (cD (ao x.1.2.2.1 (getD x.2 i (zi zf.sl))) (ao x.1.2.2.1 (getD x.2 (i+1) (zi zf.sl)))) 0))with c|c
  ·exact .inr ⟨λh=>(by rw[(hstep i h2).1 h]at c;cases c),_,zT.of (by rw[hv,if_pos c]),15,rfl,by decide⟩
  ·exact .inl ⟨(hstep i h2).2 c,zQ.of (by rw[hv,if_neg (by rw[c];simp)])⟩)
 rcases h19 with⟨hr,h19⟩|⟨hr,r,h19,e,he,hne⟩
 case inr=>
  subst he;exact⟨e,zx hi (g19.ends h19) ow rfl,λh=>absurd h hne,λh=>absurd h.rise hr⟩
 have hv19:(po (.h19 ((x.2.length-1+1:Nat):Int) (x,()))).val=Q1 (.inr (.int .i64 0,[])):=by
  simp only[po,Q8];rw[if_neg sg]
 exact⟨0,zx hi (g19.ends (h19.ends (zT.of hv19))) ow rfl,λ_=>⟨hm,hwl,hfits,hkey,huniq,hr⟩,λ_=>rfl⟩
theorem Jl(s:zB):∀(l:List (Sem zh))(i:Nat),gp s l (i:Int)=ae (λx:Sem zh=>x.1.1==s) l i
 |[],_=>rfl
 | x::r,i=>by
  rw[gp,ae];have h:=Jl s r (i+1);have e:(((i+1:Nat)):Int)=(i:Int)+1:=by omega
  rw[e]at h;by_cases hx:(x.1.1==s)=Q3
  ·rw[if_pos hx,if_pos hx]
  ·rw[if_neg hx,if_neg hx,h]
theorem dm(l:List (Sem zh))(s:zB):kL l s=zS l s:=Jl s l 0
theorem eI.keys{x:Sem zh}(h:eI x):∀r∈x.2,zM x.1.2.2.1 (length r)=Q3:=by
 intro r hr;obtain⟨h1,_⟩:=gR h.may;rw[(ft (h.fits r hr)).1];exact tz h1
theorem QW(x:Sem zh)(c:Int)(v:Sem zf):Q0 (LT.lt (α:=Int) (ae (λr=>dw r c v) x.2 0) 0)=!gH x c v:=by
 unfold gH;rcases ia (λr=>dw r c v) x.2 0 with h|⟨h,_⟩
 ·rw[h];rfl
 ·have:Q0 (ae (λr=>dw r c v) x.2 0>=0)=Q3:=zt ow;rw[this,af ow];rfl
theorem Gx{db:List (Sem zh)}(hok:∀x∈db,eI x)(hw:∀x∈db,PK x)(hl:db.length<=13):∃b,ud db=Q1 (b,())/\(b=Q3↔Do db):=by
 have h2:=lH (t:=qU) (Φ:=TX) 1010000 (λi=>.h2 db (i:Int)) (λi=>∀f∈(getD db i (zi zh)).1.t.1,LE.le (α:=Int) 0 (zS db f.2)/\∀row∈(getD db i (zi zh)).2,(ao f.1 row).1≠0->gH (az db f.2) (az db f.2).1.2.2.1 (ao f.1 row)=true) db.length (by
  intro i hi _;have hm:=bI (d:=zi zh) hi;have s1:=(hw _ hm).t.nrf;have s2:=(hw _ hm).rows;have hcl:=(hok _ hm).cols;generalize hx:getD db i (zi zh)=x at*;have hv:(qU (.h2 db (i:Int))).val=Q1 (.inl (.h5 db (i:Int) ((0:Nat):Int))):=by
   simp only[qU,Q8,zH hi];rfl
  have h5:=lH (t:=qU) (Φ:=TX) 1002 (λk=>.h5 db (i:Int) (k:Int)) (λk=>LE.le (α:=Int) 0 (zS db (getD x.1.t.1 k (zi zr)).2)/\∀row∈x.2,(ao (getD x.1.t.1 k (zi zr)).1 row).1≠0->gH (az db (getD x.1.t.1 k (zi zr)).2) (az db (getD x.1.t.1 k (zi zr)).2).1.2.2.1 (ao (getD x.1.t.1 k (zi zr)).1 row)=Q3) x.1.t.1.length (by
   intro k hk _;have hfm:=bI (d:=zi zr) hk;have hcf:=hcl _ hfm;generalize hf:getD x.1.t.1 k (zi zr)=f at*;have hv:(qU (.h5 db (i:Int) (k:Int))).val=if Q0 (LT.lt (α:=Int) (zS db f.2) 0)=Q3 then Q1 (.inr (.kb Q4,[]))else Q1 (.inl (.h12 db (i:Int) (k:Int) (zS db f.2) ((0:Nat):Int) (f,()))):=by
    simp only[qU,Q8,zu hi,aJ,hx,zH hk,zu hk,hf,dm,if_true];rfl
   by_cases h1:LE.le (α:=Int) 0 (zS db f.2)
   ·have g1:=zQ.of (t:=qU) (s:=.h5 db (i:Int) (k:Int)) (by rw[hv,if_neg (by rw[aP];omega)]);have hto:az db f.2∈db:=bI (by
     rcases wS db f.2 with h|⟨_,h⟩
     ·rw[h]at h1;exact absurd h1 (by decide)
     ·omega)
    have htw:=hw _ hto;have hto2:=hok _ hto;have h12:=lH (t:=qU) (Φ:=TX) 1 (λj=>.h12 db (i:Int) (k:Int) (zS db f.2) (j:Int) (f,())) (λj=>(ao f.1 (getD x.2 j (zi zf.sl))).1≠0->gH (az db f.2) (az db f.2).1.2.2.1 (ao f.1 (getD x.2 j (zi zf.sl)))=Q3) x.2.length (by
     intro j hj _;have hv:(qU (.h12 db (i:Int) (k:Int) (zS db f.2) (j:Int) (f,()))).val=if(bif (ao f.1 (getD x.2 j (zi zf.sl))).1!=0 then !gH (az db f.2) (az db f.2).1.2.2.1 (ao f.1 (getD x.2 j (zi zf.sl)))else Q4)=Q3 then Q1 (.inr (.kb Q4,[]))else Q1 (.inl (.h12 db (i:Int) (k:Int) (zS db f.2) ((j+1:Nat):Int) (f,()))):=by
      simp only[qU,Q8,zl,Prod.eta,zu hi,aJ,hx,zH hj,zu hj,hcf _ (bI (d:=zi zf.sl) hj),dr h1,OU htw.t hto2.may hto2.keys htw.rows,if_true,nK];rw[Th htw.t hto2.may hto2.keys htw.rows,QW];rw[if_pos (by cases((getD (getD x.2 j (zi zf.sl)) (toNat f.1) (zi zf)).1!=0)<;>rfl)];rw[zp j um]
     by_cases d1:(ao f.1 (getD x.2 j (zi zf.sl))).1=0
     ·exact .inl ⟨λh=>absurd d1 h,zQ.of (by rw[hv,if_neg (by rw[d1];simp)])⟩
     ·have d1':((ao f.1 (getD x.2 j (zi zf.sl))).1!=0)=Q3:=by simpa using d1
      by_cases d2:gH (az db f.2) (az db f.2).1.2.2.1 (ao f.1 (getD x.2 j (zi zf.sl)))=Q3
      ·exact .inl ⟨λ_=>d2,zQ.of (by rw[hv,if_neg (by rw[d2,d1'];simp)])⟩
      ·exact .inr ⟨λh=>d2 (h d1),_,zT.of (by rw[hv,if_pos (by rw[d1'];simpa using d2)]),rfl⟩)
    rcases h12 with⟨p12,g12⟩|⟨p12,r,g12,hr⟩
    ·have hv2:(qU (.h12 db (i:Int) (k:Int) (zS db f.2) (x.2.length:Int) (f,()))).val=Q1 (.inl (.h5 db (i:Int) ((k+1:Nat):Int))):=by
      simp only[qU,Q8,zu hi,aJ,hx,zA];rw[zp k um];rfl
     refine .inl ⟨⟨h1,?_⟩,((g1.trans g12).trans (zQ.of hv2)).mono ow⟩;exact(aq (Q:=λrow=>(ao f.1 row).1≠0->gH (az db f.2) (az db f.2).1.2.2.1 (ao f.1 row)=Q3)).1 p12
    ·refine .inr ⟨λh=>p12 ?_,r,(g1.ends g12).mono ow,hr⟩;exact(aq (Q:=λrow=>(ao f.1 row).1≠0->gH (az db f.2) (az db f.2).1.2.2.1 (ao f.1 row)=Q3)).2 h.2
   ·exact .inr ⟨λh=>h1 h.1,_,(zT.of (by rw[hv,if_pos (by rw[aP];omega)])).mono ow,rfl⟩)
  rcases h5 with⟨p5,g5⟩|⟨p5,r,g5,hr⟩
  ·have hv2:(qU (.h5 db (i:Int) (x.1.t.1.length:Int))).val=Q1 (.inl (.h2 db ((i+1:Nat):Int))):=by
    simp only[qU,Q8,zu hi,aJ,hx,zA];rw[zp i um];rfl
   refine .inl ⟨?_,(((zQ.of hv).trans g5).trans (zQ.of hv2)).mono ow⟩;exact(aq (Q:=λf:Sem zr=>LE.le (α:=Int) 0 (zS db f.2)/\∀row∈x.2,(ao f.1 row).1≠0->gH (az db f.2) (az db f.2).1.2.2.1 (ao f.1 row)=Q3)).1 p5
  ·refine .inr ⟨λh=>p5 ?_,r,((zQ.of hv).ends g5).mono ow,hr⟩;exact(aq (Q:=λf:Sem zr=>LE.le (α:=Int) 0 (zS db f.2)/\∀row∈x.2,(ao f.1 row).1≠0->gH (az db f.2) (az db f.2).1.2.2.1 (ao f.1 row)=Q3)).2 h)
 have hb:(∀i,i<db.length->∀f∈(getD db i (zi zh)).1.t.1,LE.le (α:=Int) 0 (zS db f.2)/\∀row∈(getD db i (zi zh)).2,(ao f.1 row).1≠0->gH (az db f.2) (az db f.2).1.2.2.1 (ao f.1 row)=Q3)↔Do db:=
  aq (Q:=λx:Sem zh=>∀f∈x.1.t.1,LE.le (α:=Int) 0 (zS db f.2)/\∀row∈x.2,(ao f.1 row).1≠0->gH (az db f.2) (az db f.2).1.2.2.1 (ao f.1 row)=Q3)
 have hi:(zgB db).val=Q1 (.inl (.h2 db ((0:Nat):Int))):=rfl;rcases h2 with⟨h2,h3⟩|⟨h2,r,h3,h4⟩
 ·refine⟨Q3,zx hi (h3.ends (zT.of (r:=(.kb Q3,[])) ?_)) ow rfl,λ_=>hb.1 h2,λ_=>rfl⟩;simp only[qU,Q8,zA];rfl
 ·unfold TX at h4;subst h4;exact⟨Q4,zx hi h3 ow rfl,λh=>(by cases h),λh=>absurd (hb.2 h) h2⟩
theorem Gz{db:List (Sem zh)}(hw:∀x∈db,PK x):∃e:Int,pj db=Q1 (e,())/\(e=0↔iF db):=by
 by_cases hwl:db.length<=12
 case neg=>
  refine⟨13,?_,λh=>(by cases h),λh=>absurd h.few hwl⟩;unfold pj al cU;simp only[i9p,Q8];rw[if_pos sg];rfl
 have hi:(i9p db).val=Q1 (.inl (.h4 db ((0+1:Nat):Int))):=by
  simp only[i9p,Q8];rw[if_neg sg];rfl
 have h4:=lH (t:=TD) (Φ:=TW) 1 (λi=>.h4 db ((i+1:Nat):Int)) (λi=>Op.bytesLess (getD db i (zi zh)).1.1 (getD db (i+1) (zi zh)).1.1=Q3) (db.length-1) (by
  intro i hi _;have h1:i<db.length:=by omega
  have h2:i+1<db.length:=by omega
  have hv:(TD (.h4 db ((i+1:Nat):Int))).val=if(!Op.bytesLess (getD db i (zi zh)).1.1 (getD db (i+1) (zi zh)).1.1)=Q3 then Q1 (.inr (.int .i64 15,[]))else Q1 (.inl (.h4 db ((i+1+1:Nat):Int))):=by
   simp only[TD,mL i um];simp only[Q8,zH h2,zu h2,zu h1,aJ,if_true];rw[zp (i+1) um]
  by_cases h:Op.bytesLess (getD db i (zi zh)).1.1 (getD db (i+1) (zi zh)).1.1=Q3
  ·exact .inl ⟨h,zQ.of (by rw[hv,if_neg (by rw[h];simp)])⟩
  ·exact .inr ⟨h,_,zT.of (by rw[hv,if_pos (by simpa using h)]),15,rfl,by decide⟩)
 rcases h4 with⟨hn,h4⟩|⟨hn,r,h4,e,he,hne⟩
 case inr=>
  subst he;exact⟨e,zx hi h4 ow rfl,λh=>absurd h hne,λh=>absurd h.names hn⟩
 have hv4:(TD (.h4 db ((db.length-1+1:Nat):Int))).val=Q1 (.inl (.h9 db ((0:Nat):Int))):=by
  simp only[TD,Q8];rw[if_neg sg];rfl
 have g9:=h4.trans (zQ.of hv4);have h9:=lH (t:=TD) (Φ:=TW) 1 (λi=>.h9 db (i:Int)) (λi=>eI (getD db i (zi zh))) db.length (by
  intro i hi _;obtain⟨e,he,heq⟩:=Gt (hw _ (bI (d:=zi zh) hi));have hc:BR (getD db i (zi zh))=Q3:=by unfold BR;rw[he];rfl
  have hv0:Gr (getD db i (zi zh))=e:=by unfold Gr;rw[he];rfl
  have hv:(TD (.h9 db (i:Int))).val=if(e !=0)=Q3 then Q1 (.inr (.int .i64 e,[]))else Q1 (.inl (.h9 db ((i+1:Nat):Int))):=by
   simp only[TD,Q8,zl,zH hi,zu hi,aJ,if_true,Prod.eta,hc,hv0];rw[zp i um]
  by_cases h:e=0
  ·exact .inl ⟨heq.1 h,zQ.of (by rw[hv,if_neg (by rw[h];simp)])⟩
  ·exact .inr ⟨λhr=>h (heq.2 hr),_,zT.of (by rw[hv,if_pos (by simpa using h)]),e,rfl,h⟩)
 rcases h9 with⟨hr,h9⟩|⟨hr,r,h9,e,he,hne⟩
 case inr=>
  subst he;exact⟨e,zx hi (g9.ends h9) ow rfl,λh=>absurd h hne,λh=>absurd ((aq (Q:=eI)).2 h.rels) hr⟩
 have hrels:=(aq (Q:=eI)).1 hr;obtain⟨b,hb,hbb⟩:=Gx (db:=db) hrels hw ow;have hc:BU db=Q3:=by unfold BU;rw[hb];rfl
 have hv0:Gw db=b:=by unfold Gw;rw[hb];rfl
 have hv9:(TD (.h9 db (db.length:Int))).val=if(!b)=Q3 then Q1 (.inr (.int .i64 10,[]))else Q1 (.inr (.int .i64 0,[])):=by
  simp only[TD,Q8,zA,hc,hv0];rfl
 by_cases h:b=Q3
 ·exact⟨0,zx hi (g9.ends (h9.ends (zT.of (by rw[hv9,if_neg (by rw[h];simp)])))) ow rfl,λ_=>⟨hwl,hn,hrels,hbb.1 h⟩,λ_=>rfl⟩
 ·exact⟨10,zx hi (g9.ends (h9.ends (zT.of (by rw[hv9,if_pos (by simpa using h)])))) ow rfl,λh=>(by cases h),λhB=>absurd (hbb.2 hB.bound) h⟩
theorem A9(x:Int):∀(l:List Int)(i:Nat),(∃j,∃hj:j<l.length,eu x l (i:Int)=((i+j:Nat):Int)/\l[j]=x/\∀k(hk:k<j),l[k]≠x)\/(eu x l (i:Int)=(-1:Int)/\x∉l)
 |[],i=>.inr ⟨rfl,sw⟩
 | a::r,i=>by
  rw[eu];by_cases h:x=a
  ·rw[if_pos (by simpa using h)];exact .inl ⟨0,sw,sw,h.symm,λk hk=>absurd hk ow⟩
  ·rw[if_neg (by simpa using h),show((i:Int)+1)=((i+1:Nat):Int) by omega];rcases A9 x r (i+1)with⟨j,hj,h1,h2,h3⟩|⟨h1,h2⟩
   ·refine .inl ⟨j+1,by simpa using hj,by rw[h1];congr 1;omega,h2,λk hk=>?_⟩;cases k with
    |zero=>exact λe=>h e.symm
    |succ k=>exact h3 k ow
   ·exact .inr ⟨h1,by simp[h2,h]⟩
theorem RE(l:List Int)(x:Int):(∃j,∃hj:j<l.length,gP l x=(j:Int)/\l[j]=x/\∀k(hk:k<j),l[k]≠x)\/(gP l x=(-1:Int)/\x∉l):=by
 rcases A9 x l 0 with⟨j,hj,h1,h2⟩|h
 ·exact .inl ⟨j,hj,by show eu x l ((0:Nat):Int)=_;rw[h1,kh],h2⟩
 ·exact .inr h
def WS(c:Sem zj):Prop:=zK c.1=Q3/\LE.le (α:=Int) 1 c.2.1/\LE.le (α:=Int) c.2.1 3
theorem nH.col{t:Sem zo}(h:nH t):∀c∈t.2.1,WS c:=by
 intro c hc;obtain⟨i,hi,rfl⟩:=gL hc;have:=h.cols i hi;rw[ba,zR hi,dq]at this;exact⟨this.1,this.2.1,this.2.2.1⟩
theorem SX{t:Sem zo}{s:zB}(h:¬LT.lt (α:=Int) (zO t s) 0):toNat (zO t s)<t.2.1.length:=by
 rcases uG t s with h1|⟨h1,h2⟩
 ·rw[h1]at h;simp at h
 ·omega
theorem nH.at{t:Sem zo}(h:nH t){s:zB}(hs:¬LT.lt (α:=Int) (zO t s) 0):WS (getD t.2.1 (toNat (zO t s)) (zi zj)):=h.col _ (tr _ _ (SX hs))
theorem Il{db:List (Sem zh)}{n:zB}(hB:iF db)(h:(0:Int)<=zS db n):nH (au db n):=(kR _).1 (hB.rels _ (mf h)).may
theorem EG{t:Sem zo}{names:List zB}(h:fV t names=0):(∀s∈names,¬LT.lt (α:=Int) (zO t s) 0)/\(kC t names).Nodup:=by
 unfold fV at h;split at h
 ·rename_i h1;split at h
  ·exact⟨h1,by assumption⟩
  ·cases h
 ·cases h
theorem OD{s:Sem zk}(hw:ol s)(hst:dV s=Q3)(hm:jn s.1):zK s.2.1=Q3/\bQ s.t.t.1=Q3/\(s.1=[99,111,112,121]->1<=s.2.2.2.1.length/\s.2.2.2.1.length<=8)/\(s.1=[106,111,105,110]->zK s.t.t.t=Q3)/\(s.1=[103,114,111,117,112]->s.2.2.2.1.length=2):=by
 have hp:=lD hst;rcases hm with o|o|o
 ·rw[MZ hw o]at hp;simp only[aD,kD,aP]at hp;exact⟨hp.2.1,hp.1.2.1,λ_=>hp.1.1.2,λk=>(by rw[o]at k;cases k),λk=>(by rw[o]at k;cases k)⟩
 ·rw[M0 hw o]at hp;simp only[aD,nf]at hp;exact⟨hp.2.1,hp.1.1,λk=>(by rw[o]at k;cases k),λ_=>hp.1.2.2.1,λk=>(by rw[o]at k;cases k)⟩
 ·rw[I2 hw o]at hp;simp only[aD,gv,aP]at hp;exact⟨hp.2.1,hp.1.2.1,λk=>(by rw[o]at k;cases k),λk=>(by rw[o]at k;cases k),λ_=>hp.1.1⟩
abbrev rN(e:Int):aw:=(.tup [zPl,.int .i64 e],[])
def uV(r:aw)(x:Int×Sem zz):Prop:=aL r.2 [zz,zg] r.1=Q1 (x.2,x.1,())
theorem dM(e:Int):uV (rN e) (e,jq):=rfl
theorem zcb(st:Nat->ke)(R:aw){p:Sem zz}(hR:uV R (0,p))
  (hv:∀i,i<=p.2.2.2.1.2.1.length->(dp (st i)).val=if i<p.2.2.2.1.2.1.length then(if zZ p.2.2.2.1.2.1 (getD p.2.2.2.1.2.1 i (zi zj)).1=(i:Int)then Q1 (.inl (st (i+1)))else Q1 (.inr (rN 7)))else(if qQ p.2.2.2.1.t.2 p.2.2.2.1.2.1=0 then Q1 (.inr R)else Q1 (.inr (rN (qQ p.2.2.2.1.t.2 p.2.2.2.1.2.1))))):
  ∃r,zT dp (p.2.2.2.1.2.1.length*1+1) (st 0) r/\uV r (jl 0 p):=by
 have hT:uI p.2.2.2.1=if∃i,i<length p.2.2.2.1.2.1/\zO p.2.2.2.1 (getD p.2.2.2.1.2.1 i (zi zj)).1≠(i:Int)then 7 else qQ p.2.2.2.1.t.2 p.2.2.2.1.2.1:=rfl
 unfold jl;rw[if_pos rfl,hT]
 rcases lH (t:=dp) (Φ:=λr=>r=rN 7) 1 st (λi=>zZ p.2.2.2.1.2.1 (getD p.2.2.2.1.2.1 i (zi zj)).1=(i:Int)) p.2.2.2.1.2.1.length (λi hi _=>by
  have h:=hv i ow;rw[if_pos hi]at h;by_cases c:zZ p.2.2.2.1.2.1 (getD p.2.2.2.1.2.1 i (zi zj)).1=(i:Int)
  ·exact .inl ⟨c,zQ.of (by rw[h,if_pos c])⟩
  ·exact .inr ⟨c,_,zT.of (by rw[h,if_neg c]),rfl⟩)with⟨h1,h2⟩|⟨h1,r,h2,rfl⟩
 ·have hn:¬∃i,i<length p.2.2.2.1.2.1/\zO p.2.2.2.1 (getD p.2.2.2.1.2.1 i (zi zj)).1≠(i:Int):=by
   rintro⟨i,hi,hne⟩;exact hne (h1 i hi)
  rw[if_neg hn];have h:=hv _ (aB _);rw[if_neg (Nat.lt_irrefl _)]at h;by_cases c:qQ p.2.2.2.1.t.2 p.2.2.2.1.2.1=0
  ·rw[if_pos c]at h⊢;exact⟨_,(h2.ends (zT.of h)).mono ow,hR⟩
  ·rw[if_neg c]at h⊢;exact⟨_,(h2.ends (zT.of h)).mono ow,dM _⟩
 ·have hy:∃i,i<length p.2.2.2.1.2.1/\zO p.2.2.2.1 (getD p.2.2.2.1.2.1 i (zi zj)).1≠(i:Int):=by
   apply rI;intro hn;refine h1 λi hi=>?_
   apply rI;exact λhc=>hn ⟨i,hi,hc⟩
  rw[if_pos hy,if_neg (by decide)];exact⟨_,h2.mono ow,dM _⟩
structure yS (s:Sem zk):Prop where
 wf:rH s.t.t.1
 may:(s.t.t.1.op==[])=Q4->cY s.t.t.1=Q3
abbrev plQ(z:zn NX):Sem zz:=(z.1,z.2.1,z.2.2.1,(z.2.2.2.1,z.t.1,z.t.2.1,[],[],z.t.q.1),z.t.q.2.1,z.t.t.1)
theorem zhD{s:Sem zk}(hs:yS s)(z1:zn jB)(z:zn za6)(hz:z.t.q.1=s.t.t.1)(hl:length z.t.1<=1000):
  ∃r,zT dp (length z.t.1*1+1) (.h64 ((0:Nat):Int) (s,()) z1 z) r/\uV r (jl 0 (plQ z)):=by
 obtain⟨k1,k2⟩:=BS (cols:=z.t.1) hs.wf ow hs.may;refine zcb (p:=plQ z) (λi=>.h64 (i:Int) (s,()) z1 z) ?R ?h ?v
 case v=>
  intro i hi;by_cases h:i<length z.t.1
  ·have e1:du z.t.1 (getD z.t.1 i (zi zj)).1=Q3:=iP ow;have e2:eB z.t.1 (getD z.t.1 i (zi zj)).1=zZ z.t.1 (getD z.t.1 i (zi zj)).1:=j8 ow;rw[if_pos h];simp only[dp,rE,Q8,zH h,zu h,aJ,e1,e2,if_true];rw[zp i um];by_cases c:zZ z.t.1 (getD z.t.1 i (zi zj)).1=(i:Int)
   ·rw[if_pos c,if_neg (by simpa using c)]
   ·rw[if_neg c,if_pos (by simpa using c)]
  ·obtain rfl:i=length z.t.1:=Nat.le_antisymm hi ow;rw[if_neg h];show(dp (.h64 _ _ _ _)).val=if qQ z.t.q.1 z.t.1=0 then Q1 (Sum.inr _)else Q1 (Sum.inr (rN (qQ z.t.q.1 z.t.1)))
   rw[hz];simp only[dp,rE,Q8,zA,zl,k1,k2,if_true,zG,if_false];by_cases c:qQ s.t.t.1 z.t.1=0
   ·rw[if_pos c,if_neg (by simpa using c)]
   ·rw[if_neg c,if_pos (by simpa using c)]
 case h=>
  unfold uV;obtain⟨z0,z1,z2,z3,z4,z5,e,z7,z8,z9⟩:=z;cases e;rfl
theorem zhE{s:Sem zk}(hs:yS s)(z1:zn jB)(z:zn NX)(hz:z.t.q.1=s.t.t.1)(hl:length z.t.1<=1000):
  ∃r,zT dp (length z.t.1*1+1) (.h64bb ((0:Nat):Int) (s,()) z1 z) r/\uV r (jl 0 (plQ z)):=by
 obtain⟨k1,k2⟩:=BS (cols:=z.t.1) hs.wf ow hs.may;refine zcb (p:=plQ z) (λi=>.h64bb (i:Int) (s,()) z1 z) ?R ?h ?v
 case v=>
  intro i hi;by_cases h:i<length z.t.1
  ·have e1:du z.t.1 (getD z.t.1 i (zi zj)).1=Q3:=iP ow;have e2:eB z.t.1 (getD z.t.1 i (zi zj)).1=zZ z.t.1 (getD z.t.1 i (zi zj)).1:=j8 ow;rw[if_pos h];simp only[dp,rE,Q8,zH h,zu h,aJ,zt h,e1,e2,if_true];rw[zp i um];by_cases c:zZ z.t.1 (getD z.t.1 i (zi zj)).1=(i:Int)
   ·rw[if_pos c,if_neg (by simpa using c)]
   ·rw[if_neg c,if_pos (by simpa using c)]
  ·obtain rfl:i=length z.t.1:=Nat.le_antisymm hi ow;rw[if_neg h];show(dp (.h64bb _ _ _ _)).val=if qQ z.t.q.1 z.t.1=0 then Q1 (Sum.inr _)else Q1 (Sum.inr (rN (qQ z.t.q.1 z.t.1)))
   rw[hz];simp only[dp,rE,Q8,zA,zl,k1,k2,if_true,zG,if_false];by_cases c:qQ s.t.t.1 z.t.1=0
   ·rw[if_pos c,if_neg (by simpa using c)]
   ·rw[if_neg c,if_pos (by simpa using c)]
 case h=>
  unfold uV;obtain⟨z0,z1,z2,z3,z4,z5,e,z7,z8,z9⟩:=z;cases e;rfl
theorem zhF{s:Sem zk}(hs:yS s)(z1:zn jB)(z:zn P1)(hz:z.t.q.1=s.t.t.1)(hl:length z.t.1<=1000):
  ∃r,zT dp (length z.t.1*1+1) (.h64bbb ((0:Nat):Int) (s,()) z1 z) r/\uV r (jl 0 (plQ z)):=by
 obtain⟨k1,k2⟩:=BS (cols:=z.t.1) hs.wf ow hs.may;refine zcb (p:=plQ z) (λi=>.h64bbb (i:Int) (s,()) z1 z) ?R ?h ?v
 case v=>
  intro i hi;by_cases h:i<length z.t.1
  ·have e1:du z.t.1 (getD z.t.1 i (zi zj)).1=Q3:=iP ow;have e2:eB z.t.1 (getD z.t.1 i (zi zj)).1=zZ z.t.1 (getD z.t.1 i (zi zj)).1:=j8 ow;rw[if_pos h];simp only[dp,rE,Q8,zH h,zu h,aJ,zt h,e1,e2,if_true];rw[zp i um];by_cases c:zZ z.t.1 (getD z.t.1 i (zi zj)).1=(i:Int)
   ·rw[if_pos c,if_neg (by simpa using c)]
   ·rw[if_neg c,if_pos (by simpa using c)]
  ·obtain rfl:i=length z.t.1:=Nat.le_antisymm hi ow;rw[if_neg h];show(dp (.h64bbb _ _ _ _)).val=if qQ z.t.q.1 z.t.1=0 then Q1 (Sum.inr _)else Q1 (Sum.inr (rN (qQ z.t.q.1 z.t.1)))
   rw[hz];simp only[dp,rE,Q8,zA,zl,k1,k2,if_true,zG,if_false];by_cases c:qQ s.t.t.1 z.t.1=0
   ·rw[if_pos c,if_neg (by simpa using c)]
   ·rw[if_neg c,if_pos (by simpa using c)]
 case h=>
  unfold uV;obtain⟨z0,z1,z2,z3,z4,z5,e,z7,z8,z9⟩:=z;cases e;rfl
def rq(k:Int)(l:List Int):Nat->Int
 |0=>-1
 |i+1=>if l.getD i 0=k then(i:Int)else rq k l i
theorem IJ{k:Int}{l:List Int}{j:Nat}(hj:j<l.length)(hk:l[j]=k)(hn:l.Nodup):∀i,i<=l.length->rq k l i=if j<i then(j:Int)else -1
 |0,_=>rfl
 | i+1,hi=>by
  rw[rq,IJ hj hk hn i ow,ba,zR (by omega:i<l.length),dq];by_cases h:l[i]=k
  ·have:i=j:=by
    rcases Nat.lt_trichotomy i j with c|c|c
    ·exact absurd (h.trans hk.symm) (List.pairwise_iff_getElem.1 hn i j ow hj c)
    ·exact c
    ·exact absurd (hk.trans h.symm) (List.pairwise_iff_getElem.1 hn j i hj ow c)
   rw[if_pos h,if_pos ow,this]
  ·rw[if_neg h];by_cases c:j<i
   ·rw[if_pos c,if_pos ow]
   ·have:j≠i:=by rintro rfl;exact h hk
    rw[if_neg c,if_neg ow]
theorem IK{k:Int}{l:List Int}(hk:k∉l):∀i,i<=l.length->rq k l i=-1
 |0,_=>rfl
 | i+1,hi=>by
  rw[rq,IK hk i ow,ba,zR (by omega:i<l.length),dq,if_neg];rintro rfl;exact hk (bq _)
theorem R7{k:Int}{l:List Int}(hn:l.Nodup):rq k l l.length=gP l k:=by
 rcases RE l k with⟨j,hj,h1,h2,_⟩|⟨h1,h2⟩
 ·rw[h1,IJ hj h2 hn _ (aB _),if_pos hj]
 ·rw[h1,IK h2 _ (aB _)]
theorem zlu{s:Sem zk}(hs:yS s)(z1:zn jB){t:Sem zo}{a b c d:zB}{l:List Int}{on:Int}(hl:l.length<=1000)(hn:l.Nodup)(hin:∀x∈l,zM x t.2.1.length=Q3):
  ∃r k,zT dp k (.h24 ((0:Nat):Int) (s,()) z1 (a,b,c,d,[],-1,s.t.t.1,l,on,()) (t,())) r/\k<=10000/\
   uV r (jl (if LT.lt (α:=Int) (gP l t.2.2.1) 0 then 1 else 0) (a,b,c,(d,l.map (λx=>getD t.2.1 (toNat x) (zi zj)),gP l t.2.2.1,[],[],s.t.t.1),l,on)):=by
 have hg:=zQ.all (t:=dp) 1 (λi=>.h24 (i:Int) (s,()) z1 (a,b,c,d,(l.take i).map (λx=>getD t.2.1 (toNat x) (zi zj)),rq t.2.2.1 l i,s.t.t.1,l,on,()) (t,())) l.length (by
  intro i hi;refine zQ.of ?_;have e1:getD l ((i:Int).toNat) (zi zg)=l[i]:=zY l _ hi;have e2:zM l[i] t.2.1.length=Q3:=hin _ (bq hi);have e3:rq t.2.2.1 l (i+1)=if l[i]=t.2.2.1 then(i:Int)else rq t.2.2.1 l i:=by
   rw[rq,ba,zR hi,dq]
  have e5:Q0 (length ((l.take i).map (λx=>getD t.2.1 (toNat x) (zi zj)))+length [getD t.2.1 (toNat l[i]) (zi zj)]<=1073741824)=Q3:=zt sg;simp only[dp,rE,Q8,zH hi,zu hi,e1,e2,e5,if_true];rw[zp i um,bS hi,gZ,e3];by_cases k:l[i]=t.2.2.1
  ·rw[if_pos k,if_pos (by simpa using k)];rfl
  ·rw[if_neg k,if_neg (by simpa using k)];rfl)
 rw[ji,R7 hn]at hg;by_cases h:LT.lt (α:=Int) (gP l t.2.2.1) 0
 ·rw[if_pos h];refine⟨rN 1,_,hg.ends (zT.of ?_),ow,dM 1⟩;simp only[dp,rE,Q8,zA,zt h,if_true,zG,if_false]
 ·rw[if_neg h];obtain⟨r,h1,h2⟩:=zhE hs z1 (a,b,c,d,l.map (λx=>getD t.2.1 (toNat x) (zi zj)),gP l t.2.2.1,s.t.t.1,l,on,()) rfl (by simpa using hl);refine⟨r,_,hg.ends ((zQ.of ?_).ends h1),sg,h2⟩;simp only[dp,rE,Q8,zA,af h,zG,if_false];rfl
theorem xg(a:Int)(b:zB):∀(l:List (Sem zr))(i:Nat),GE.ge (α:=Int) (g8 a b l (i:Int)) 0↔(a,b)∈l
 | [],i=>by
  rw[g8];exact⟨λh=>absurd h (by decide),λh=>by cases h⟩
 | x::r,i=>by
  rw[g8];split
  ·rename_i h;have:(a,b)=x:=by
    simp only[Bool.and_true,aD,aZ]at h;exact Prod.ext h.1 h.2
   rw[<-this];exact⟨λ_=>wJ,λ_=>Int.natCast_nonneg i⟩
  ·rename_i h;have:=xg a b r (i+1);rw[sP]at this;rw[cj];refine⟨λh2=>.inr (this.1 h2),λh2=>this.2 (h2.resolve_left ?_)⟩;rintro rfl;simp at h
theorem sf(l:List (Sem zr))(x:Sem zr):jD l x=Q3↔x∈l:=by
 unfold jD;rw[decide_eq_true_iff];exact xg x.1 x.2 l 0
def kz(on:Int)(w:zB)(l:List (Sem zr)):Bool:=l.any λf=>f.1==on&&f.2==w
theorem KC(on:Int)(w:zB)(l:List (Sem zr)):kz on w l=jD l (on,w):=by
 apply iB.2;rw[sf];unfold kz;rw[List.any_eq_true];constructor
 ·rintro⟨f,hf,h⟩;simp only[aD,aZ]at h;have:f=(on,w):=Prod.ext h.1 h.2
  rwa [this]at hf
 ·intro h;exact⟨_,h,sw⟩
theorem w9(on:Int)(w:zB)(l:List (Sem zr))(f:Sem zr):kz on w (l++[f])=bif kz on w l then Q3 else bif f.1==on then f.2==w else Q4:=by
 unfold kz;simp only[List.any_append,List.any_cons,List.any_nil,Bool.or_false];cases(l.any λf=>f.1==on&&f.2==w)<;>cases(f.1==on)<;>rfl
theorem zlw{s:Sem zk}(hs:yS s)(z1:zn jB){t u:Sem zo}{a b c d:zB}{on:Int}(ht:t.2.1.length<=100)(hu:u.2.1.length<=100):
  ∃r k,zT dp k (.h48 ((0:Nat):Int) (s,()) z1 (a,b,c,d,t.2.1,t.2.2.1,s.t.t.1,[],on,()) (u,())) r/\k<=10000/\
   uV r (jl 0 (a,b,c,(d,t.2.1++gn u (length u.2.1),t.2.2.1,[],[],s.t.t.1),jQ u.2.2.1 (length u.2.1),on)):=by
 have hg:=zQ.all (t:=dp) 1 (λi=>.h48 (i:Int) (s,()) z1 (a,b,c,d,t.2.1++gn u i,t.2.2.1,s.t.t.1,jQ u.2.2.1 i,on,()) (u,())) u.2.1.length (by
  intro i hi;refine zQ.of ?_;have hoth:=oY u.2.2.1 i;have hsucc:=EF u.2.2.1 i;have l1:(jQ u.2.2.1 i).length<=100:=by unfold jQ;rw[cX];omega
  have l2:(gn u i).length<=100:=by unfold gn;rw[cX];omega
  simp only[dp,Q8,zH hi,zu hi,if_true,zY _ _ hi];rw[zp i um];by_cases k:((i:Int)!=u.2.2.1)=Q3
  ·rw[if_pos k]at hsucc;rw[if_pos k,if_pos sg,if_pos sg,gn,gn,jQ,jQ,hsucc,gZ,gZ,<-Af];simp[zR hi]
  ·rw[if_neg k]at hsucc;rw[if_neg k,gn,gn,jQ,jQ,hsucc])
 have l1:(gn u (length u.2.1)).length<=100:=by have:=oY u.2.2.1 (length u.2.1);unfold gn;rw[cX];omega
 obtain⟨r,h1,h2⟩:=zhF hs z1 (a,b,c,d,t.2.1++gn u (length u.2.1),t.2.2.1,s.t.t.1,jQ u.2.2.1 (length u.2.1),on,()) rfl sg;have h3:zQ dp 1 (.h48 (u.2.1.length:Int) (s,()) z1 (a,b,c,d,t.2.1++gn u (length u.2.1),t.2.2.1,s.t.t.1,jQ u.2.2.1 (length u.2.1),on,()) (u,())) (.h64bbb ((0:Nat):Int) (s,()) z1 (a,b,c,d,t.2.1++gn u (length u.2.1),t.2.2.1,s.t.t.1,jQ u.2.2.1 (length u.2.1),on,())):=zQ.of (by
  simp only[dp,Q8,zA];rfl)
 have h0:t.2.1++gn u 0=t.2.1:=wN _;have h5:=hg.ends (h3.ends h1);rw[h0]at h5;exact⟨r,_,h5,sg,h2⟩
theorem zlv{s:Sem zk}(hs:yS s)(z1:zn jB){t u:Sem zo}{a b c d:zB}{k0 on:Int}(ht:t.2.1.length<=100)(hu:u.2.1.length<=100)(hr:t.t.1.length<=1000):
  ∃r k,zT dp k (.h38 ((0:Nat):Int) (s,()) z1 (a,b,c,d,k0,s.t.t.1,on,()) (t,()) (u,())) r/\k<=20000/\
   uV r (jl (if jD t.t.1 (on,s.t.t.t)=Q3 then(if LT.lt (α:=Int) 9 ((length t.2.1:Int)+(length u.2.1:Int))then 13 else 0)else 10) (a,b,c,(d,t.2.1++gn u (length u.2.1),t.2.2.1,[],[],s.t.t.1),jQ u.2.2.1 (length u.2.1),on)):=by
 rw[<-KC];by_cases h0:0<t.t.1.length
 ·have hg0:zQ dp 1 (.h38 ((0:Nat):Int) (s,()) z1 (a,b,c,d,k0,s.t.t.1,on,()) (t,()) (u,())) (.h38b (kz on s.t.t.t (t.t.1.take (0+1))) ((0+1:Nat):Int) (s,()) z1 (a,b,c,d,k0,s.t.t.1,on,()) (t,()) (u,())):=zQ.of (by
   have e:t.t.1.take (0+1)=[]++[t.t.1[0]]:=bS h0;rw[e,w9];simp only[dp,rE,Q8,zH h0,zu h0,if_true,zY _ _ h0];rw[zp 0 um];cases((t.t.1[0]).1==on)<;>rfl)
  have hg:=zQ.all (t:=dp) 1 (λi=>.h38b (kz on s.t.t.t (t.t.1.take (i+1))) ((i+1:Nat):Int) (s,()) z1 (a,b,c,d,k0,s.t.t.1,on,()) (t,()) (u,())) (t.t.1.length-1) (by
   intro i hi;have hi:i+1<t.t.1.length:=by omega
   refine zQ.of ?_;rw[bS hi,w9];simp only[dp,rE,Q8,zH hi,zu hi,zY _ _ hi];rw[zp (i+1) um];cases kz on s.t.t.t (t.t.1.take (i+1))<;>cases((t.t.1[i+1]).1==on)<;>rfl)
  have hn:t.t.1.length-1+1=t.t.1.length:=by omega
  rw[hn,ji]at hg;have hw:IntKind.i64.wrap ((↑(length t.2.1):Int)+(↑(length u.2.1):Int))=(↑(length t.2.1):Int)+(↑(length u.2.1):Int):=kX _ ow ow;by_cases hf:kz on s.t.t.t t.t.1=Q3
  ·rw[if_pos hf];by_cases h9:LT.lt (α:=Int) 9 ((length t.2.1:Int)+(length u.2.1:Int))
   ·rw[if_pos h9];refine⟨rN 13,_,(hg0.trans hg).ends (zT.of ?_),ow,dM 13⟩;simp only[dp,rE,Q8,zA,hf,hw,fa,zG,if_false];rw[if_pos (by simpa using h9)]
   ·rw[if_neg h9];obtain⟨r,k,h1,h2,h3⟩:=zlw hs z1 (a:=a) (b:=b) (c:=c) (d:=d) (on:=on) ht hu;refine⟨r,_,(hg0.trans hg).ends ((zQ.of ?_).ends h1),ow,h3⟩;simp only[dp,rE,Q8,zA,hf,hw,fa,zG,if_false];rw[if_neg (by simpa using h9),if_pos sg];rfl
  ·rw[if_neg hf];have hf:kz on s.t.t.t t.t.1=Q4:=by simpa using hf
   refine⟨rN 10,_,(hg0.trans hg).ends (zT.of ?_),ow,dM 10⟩;simp only[dp,rE,Q8,zA,hf,jI,if_true,zG,if_false]
 ·have hnil:t.t.1=[]:=xD ow;rw[hnil,if_neg (by unfold kz;simp)];refine⟨rN 10,1,zT.of ?_,ow,dM 10⟩;simp only[dp,rE,Q8,hnil];rfl
theorem xW{e:Int}{p:Sem zz}(h:e≠0):jl e p=(e,jq):=by unfold jl;rw[if_neg h]
theorem P0(t:Sem zo)(names:List zB):gh t names=(kC t names).map λx=>getD t.2.1 (toNat x) (zi zj):=by
 unfold gh kC;rw[oz];rfl
theorem of7{db:List (Sem zh)}{s:Sem zk}(hB:iF db)(hw:ol s)(hst:dV s=Q3)(hm:jn s.1)(hb:ki db=(0:Int))(hdb:∀x∈db,PK x)(z1:zn jB):
  ∃r k,zT dp k (.h7 db (bD s.2.2.1 s.t.t.t) ((0:Nat):Int) (s,()) z1 (s.1,s.2.2.1,s.t.t.t,s.2.1,0,s.t.t.1,0,())) r/\k<=90000/\uV r (aT db s):=by
 obtain⟨hnm,hmb,m1,m2,m3⟩:=OD hw hst hm;have hs:yS s:=⟨hw.chk,λh=>by
  unfold bQ at hmb;rcases zF (gM s.t.t.1)with c|c
  ·rw[jX.1 c]at h;cases h
  ·rw[c]at hmb;exact hmb⟩
 have hP:aT db s=if nD db s.2.2.1 s.t.t.t s.2.1=0 then dd db s else(nD db s.2.2.1 s.t.t.t s.2.1,jq):=by
  unfold aT;rw[if_pos ⟨hm,hst,hb⟩]
 have hnl:(bD s.2.2.1 s.t.t.t).length<=2:=by unfold bD;split<;>simp
 rw[hP];clear hP
 rcases lH (t:=dp) (Φ:=λr=>r=rN 6) 1 (λi=>.h7 db (bD s.2.2.1 s.t.t.t) (i:Int) (s,()) z1 (s.1,s.2.2.1,s.t.t.t,s.2.1,0,s.t.t.1,0,())) (λi=>∀h:i<(bD s.2.2.1 s.t.t.t).length,LE.le (α:=Int) 0 (zS db (bD s.2.2.1 s.t.t.t)[i])) (bD s.2.2.1 s.t.t.t).length (λi hi _=>by
  have hv:(dp (.h7 db (bD s.2.2.1 s.t.t.t) (i:Int) (s,()) z1 (s.1,s.2.2.1,s.t.t.t,s.2.1,0,s.t.t.1,0,()))).val=if LT.lt (α:=Int) (zS db (bD s.2.2.1 s.t.t.t)[i]) 0 then Q1 (.inr (rN 6))else Q1 (.inl (.h7 db (bD s.2.2.1 s.t.t.t) ((i+1:Nat):Int) (s,()) z1 (s.1,s.2.2.1,s.t.t.t,s.2.1,0,s.t.t.1,0,()))):=by
   simp only[dp,rE,Q8,zH hi,zu hi,if_true,zY _ _ hi,dm];rw[zp i um];by_cases c:LT.lt (α:=Int) (zS db (bD s.2.2.1 s.t.t.t)[i]) 0
   ·rw[if_pos c,if_pos (by simpa using c)]
   ·rw[if_neg c,if_neg (by simpa using c)]
  by_cases c:LT.lt (α:=Int) (zS db (bD s.2.2.1 s.t.t.t)[i]) 0
  ·exact .inr ⟨λh=>by have:=h hi;omega,_,zT.of (by rw[hv,if_pos c]),rfl⟩
  ·exact .inl ⟨λ_=>by omega,zQ.of (by rw[hv,if_neg c])⟩)with⟨h1,h2⟩|⟨h1,r,h2,rfl⟩
 rotate_left
 ·have hE:nD db s.2.2.1 s.t.t.t s.2.1=6:=by
   unfold nD;rw[if_neg];intro h;exact h1 λi _ hi=>h _ (bq hi)
  rw[hE,if_neg (by decide)];exact⟨_,_,h2,ow,dM 6⟩
 have hA:∀n∈bD s.2.2.1 s.t.t.t,LE.le (α:=Int) 0 (zS db n):=by
  intro n hn;obtain⟨j,hj,rfl⟩:=gL hn;exact h1 j hj hj
 have hfr:LE.le (α:=Int) 0 (zS db s.2.2.1):=hA _ (by unfold bD;split<;>simp);have hE:nD db s.2.2.1 s.t.t.t s.2.1=if(Q0 (GE.ge (α:=Int) (zS db s.2.1) 0)||s.2.2.1==s.t.t.t)=Q3 then 7 else if dK db (bD s.2.2.1 s.t.t.t)=Q3 then 10 else 0:=by
  unfold nD;rw[if_pos hA]
 have hl12:=hB.few;obtain⟨f1,f2⟩:=I5 (db:=db) (ns:=bD s.2.2.1 s.t.t.t) ow (λx hx=>(hdb x hx).short.rf|>λh=>by omega) ow;have hT:nH (au db s.2.2.1):=Il hB hfr;have t8:=hT.n8;have hnames:=hw.sh.names.1;have hor:(bif Q0 (GE.ge (α:=Int) (zS db s.2.1) 0)then Q3 else s.2.2.1==s.t.t.t)=(Q0 (GE.ge (α:=Int) (zS db s.2.1) 0)||s.2.2.1==s.t.t.t):=by cases Q0 (GE.ge (α:=Int) (zS db s.2.1) 0)<;>rfl
 rw[hE];by_cases c7:(Q0 (GE.ge (α:=Int) (zS db s.2.1) 0)||s.2.2.1==s.t.t.t)=Q3
 ·rw[if_pos c7,if_neg (by decide)];refine⟨rN 7,_,h2.ends (zT.of ?_),ow,dM 7⟩;simp only[dp,rE,Q8,zA,dm,hor,c7,if_true,zG,if_false]
 rw[if_neg c7];have c7:(Q0 (GE.ge (α:=Int) (zS db s.2.1) 0)||s.2.2.1==s.t.t.t)=Q4:=by simpa using c7
 by_cases c10:dK db (bD s.2.2.1 s.t.t.t)=Q3
 ·rw[if_pos c10,if_neg (by decide)];refine⟨rN 10,_,h2.ends (zT.of ?_),ow,dM 10⟩;simp only[dp,rE,Q8,zA,dm,hor,c7,f1,f2,c10,if_true,zG,if_false]
 rw[if_neg c10,if_pos rfl];have c10:dK db (bD s.2.2.1 s.t.t.t)=Q4:=by simpa using c10
 obtain⟨p1,p2⟩:=I4 (t:=au db s.2.2.1) (names:=s.2.2.2.1) ow ow;have p1:ng (getD db (toNat (zS db s.2.2.1)) (zi zh)).1.2.1 s.2.2.2.1=Q3:=p1;have p2:qb (getD db (toNat (zS db s.2.2.1)) (zi zh)).1.2.1 s.2.2.2.1=(if fV (au db s.2.2.1) s.2.2.2.1=0 then kC (au db s.2.2.1) s.2.2.2.1 else[],fV (au db s.2.2.1) s.2.2.2.1):=p2;unfold dd;by_cases o1:(s.1==[99,111,112,121])=Q3
 ·rw[if_pos o1];unfold uX;by_cases hp:fV (au db s.2.2.1) s.2.2.2.1=0
  ·rw[if_pos hp];obtain⟨q1,q2⟩:=EG hp;obtain⟨r,k,e1,e2,e3⟩:=zlu hs z1 (t:=au db s.2.2.1) (a:=s.1) (b:=s.2.2.1) (c:=s.t.t.t) (d:=s.2.1) (l:=kC (au db s.2.2.1) s.2.2.2.1) (on:=0) (by unfold kC;rw[cX];omega) q2 (by
    intro x hx;obtain⟨n,hn,rfl⟩:=bl.1 hx;exact pS (q1 n hn))
   rw[P0];refine⟨r,_,h2.ends ((zQ.of ?_).ends e1),ow,e3⟩;rw[if_pos hp,hp]at p2;simp only[dp,rE,Q8,zA,dm,hor,c7,f1,f2,c10,dr hfr,o1,p1,p2,if_true,zG,if_false,ld];rfl
  ·rw[if_neg hp,xW hp];refine⟨_,_,h2.ends (zT.of ?_),ow,dM _⟩;rw[if_neg hp]at p2;have hp':(fV (au db s.2.2.1) s.2.2.2.1!=0)=Q3:=by simpa using hp
   simp only[dp,rE,Q8,zA,dm,hor,c7,f1,f2,c10,dr hfr,o1,p1,p2,hp',if_true,zG,if_false]
 rw[if_neg o1];by_cases o2:(s.1==[106,111,105,110])=Q3
 ·rw[if_pos o2];have hr:=m2 (bF o2);have hne:s.t.t.t≠[]:=by intro k;rw[k]at hr;cases hr
  have hwt:fR db s.t.t.t=au db s.t.t.t:=by unfold fR;rw[if_neg hne]
  have hrl:LE.le (α:=Int) 0 (zS db s.t.t.t):=hA _ (by unfold bD;rw[if_neg (by simpa using hne)];simp);have u8:=(Il hB hrl).n8;have hrf:(au db s.2.2.1).t.1.length<=1000:=by have:=(hdb _ (mf hfr)).short.rf;unfold au;omega
  have g1:du (getD db (toNat (zS db s.2.2.1)) (zi zh)).1.2.1 s.t.2.1=Q3:=iP (by show(au db s.2.2.1).2.1.length<=_;omega);have g2:eB (getD db (toNat (zS db s.2.2.1)) (zi zh)).1.2.1 s.t.2.1=zO (au db s.2.2.1) s.t.2.1:=j8 (by show(au db s.2.2.1).2.1.length<=_;omega);rw[hwt];unfold gQ;by_cases h4:LT.lt (α:=Int) (zO (au db s.2.2.1) s.t.2.1) 0
  ·rw[if_pos h4,xW (by decide)];refine⟨rN 4,_,h2.ends (zT.of ?_),ow,dM 4⟩;simp only[dp,rE,Q8,zA,dm,hor,c7,f1,f2,c10,dr hfr,dr hrl,o1,o2,g1,g2,zt h4,if_true,zG,if_false]
  ·rw[if_neg h4];obtain⟨r,k,e1,e2,e3⟩:=zlv hs z1 (t:=au db s.2.2.1) (u:=au db s.t.t.t) (a:=s.1) (b:=s.2.2.1) (c:=s.t.t.t) (d:=s.2.1) (k0:=0) (on:=zO (au db s.2.2.1) s.t.2.1) ow ow hrf;refine⟨r,_,h2.ends ((zQ.of ?_).ends e1),ow,e3⟩;simp only[dp,rE,Q8,zA,dm,hor,c7,f1,f2,c10,dr hfr,dr hrl,o1,o2,g1,g2,af h4,if_true,zG,if_false];rfl
 rw[if_neg o2];have o3:(s.1==[103,114,111,117,112])=Q3:=by
  rcases hm with k|k|k
  ·rw[k]at o1;exact absurd rfl o1
  ·rw[k]at o2;exact absurd rfl o2
  ·rw[k];rfl
 rw[if_pos o3];have hl2:=m3 (bF o3);unfold se;by_cases hp:fV (au db s.2.2.1) s.2.2.2.1=0
 ·rw[if_pos hp];obtain⟨q1,q2⟩:=EG hp;rw[if_pos hp,hp]at p2;obtain⟨n0,n1,hn⟩:∃n0 n1,s.2.2.2.1=[n0,n1]:=by
   match s.2.2.2.1,hl2 with
   |[a,b],_=>exact⟨a,b,rfl⟩
  have i0:zM (zO (au db s.2.2.1) n0) (length (getD db (toNat (zS db s.2.2.1)) (zi zh)).1.2.1)=Q3:=pS (q1 n0 (by rw[hn];simp));have i1:zM (zO (au db s.2.2.1) n1) (length (getD db (toNat (zS db s.2.2.1)) (zi zh)).1.2.1)=Q3:=pS (q1 n1 (by rw[hn];simp));have x0:(kC (au db s.2.2.1) s.2.2.2.1).getD (toNat 0) (zi zg)=zO (au db s.2.2.1) n0:=by rw[hn];rfl
  have x1:(kC (au db s.2.2.1) s.2.2.2.1).getD (toNat 1) (zi zg)=zO (au db s.2.2.1) n1:=by rw[hn];rfl
  have xl:(kC (au db s.2.2.1) s.2.2.2.1).length=2:=by rw[hn];rfl
  have b0:zM 0 2=Q3:=rfl;have b1:zM 1 2=Q3:=rfl;have y1:(gh (au db s.2.2.1) s.2.2.2.1).getD 1 (zi zj)=getD (getD db (toNat (zS db s.2.2.1)) (zi zh)).1.2.1 (toNat (zO (au db s.2.2.1) n1)) (zi zj):=by rw[hn];rfl
  have y0:(gh (au db s.2.2.1) s.2.2.2.1).getD 0 (zi zj)=getD (getD db (toNat (zS db s.2.2.1)) (zi zh)).1.2.1 (toNat (zO (au db s.2.2.1) n0)) (zi zj):=by rw[hn];rfl
  unfold Db;rw[y1,y0];by_cases h5:(getD (getD db (toNat (zS db s.2.2.1)) (zi zh)).1.2.1 (toNat (zO (au db s.2.2.1) n1)) (zi zj)).2.1=(1:Int)
  ·rw[if_pos h5];obtain⟨r,e1,e3⟩:=zhD hs z1 (s.1,s.2.2.1,s.t.t.t,s.2.1,[((getD (getD db (toNat (zS db s.2.2.1)) (zi zh)).1.2.1 (toNat (zO (au db s.2.2.1) n0)) (zi zj)).1,(getD (getD db (toNat (zS db s.2.2.1)) (zi zh)).1.2.1 (toNat (zO (au db s.2.2.1) n0)) (zi zj)).2.1,Q3),((getD (getD db (toNat (zS db s.2.2.1)) (zi zh)).1.2.1 (toNat (zO (au db s.2.2.1) n1)) (zi zj)).1,(getD (getD db (toNat (zS db s.2.2.1)) (zi zh)).1.2.1 (toNat (zO (au db s.2.2.1) n1)) (zi zj)).2.1,Q4)],0,s.t.t.1,kC (au db s.2.2.1) s.2.2.2.1,0,()) rfl sw;have h5':((getD (getD db (toNat (zS db s.2.2.1)) (zi zh)).1.2.1 (toNat (zO (au db s.2.2.1) n1)) (zi zj)).2.1!=1)=Q4:=by rw[h5];rfl
   refine⟨r,_,h2.ends ((zQ.of ?_).ends e1),sg,e3⟩;simp only[dp,rE,Q8,zA,dm,hor,c7,f1,f2,c10,dr hfr,o1,o2,o3,p1,p2,x0,x1,xl,b0,b1,i0,i1,h5',if_true,zG,if_false,ld];rfl
  ·rw[if_neg h5,xW (by decide)];have h5':((getD (getD db (toNat (zS db s.2.2.1)) (zi zh)).1.2.1 (toNat (zO (au db s.2.2.1) n1)) (zi zj)).2.1!=1)=Q3:=by simpa using h5
   refine⟨rN 5,_,h2.ends (zT.of ?_),ow,dM 5⟩;simp only[dp,rE,Q8,zA,dm,hor,c7,f1,f2,c10,dr hfr,o1,o2,o3,p1,p2,x0,x1,xl,b0,b1,i0,i1,h5',if_true,zG,if_false,ld]
 ·rw[if_neg hp,xW hp];refine⟨_,_,h2.ends (zT.of ?_),ow,dM _⟩;rw[if_neg hp]at p2;have hp':(fV (au db s.2.2.1) s.2.2.2.1!=0)=Q3:=by simpa using hp
  simp only[dp,rE,Q8,zA,dm,hor,c7,f1,f2,c10,dr hfr,o1,o2,o3,p1,p2,hp',if_true,zG,if_false]
theorem S7{db:List (Sem zh)}{s:Sem zk}(hdb:∀x∈db,PK x)(hw:ol s):Bz db s=Q1 ((aT db s).2,(aT db s).1,()):=by
 have hsh:∀x∈db,gB x:=λx hx=>(hdb x hx).short
 obtain⟨e,c1,c2⟩:=Gz hdb;have k1:BV db=Q3:=by unfold BV;rw[c1];rfl
 have k2:Gy db=e:=by unfold Gy;rw[c1];rfl
 have one:(Om db s).val=Q1 (.inr (rN 1))->aT db s=(1,jq)->Bz db s=Q1 ((aT db s).2,(aT db s).1,()):=by
  intro h h2;rw[h2];exact zN h (dM 1)
 have hS:∀p:Sem zz,jr p=Q3/\kG p=bD p.2.1 p.2.2.1:=λp=>⟨ru p,tQ p⟩
 by_cases hm:jn s.1
 ·obtain⟨t,h⟩:=Ll hw hm;have t1:ip s=Q3:=by unfold ip;rw[h];rfl
  have t2:kK s=(t,dV s):=by unfold kK;rw[h];rfl
  have hop:(bif !s.1==[99,111,112,121]then bif !s.1==[106,111,105,110]then !s.1==[103,114,111,117,112]else Q4 else Q4)=Q4:=by
   rcases hm with k|k|k<;>rw[k]<;>rfl
  by_cases hst:dV s=Q3
  ·by_cases he:e=0
   ·have hB:=c2.1 he;have hb:=(jV hsh).2 hB;obtain⟨r,k,e1,e2,e3⟩:=of7 hB hw hst hm hb hdb ([],[],[],[],0,[],0,0,[],[],0,());refine zx ?_ e1 ow e3;simp only[Om,rE,Q8,zl,Prod.eta,t1,t2,k1,k2,hst,he,hop,hS,fa,aN,if_true,ld,zG,if_false];rfl
   ·refine one ?_ ?_
    ·have he':(e !=0)=Q3:=by simpa using he
     simp only[Om,rE,Q8,zl,Prod.eta,t1,t2,k1,k2,hst,he',fa,aN,ay,if_true]
    ·unfold aT;rw[if_neg];rintro⟨_,_,h⟩;exact he (c2.2 ((jV hsh).1 h))
  ·have hst':dV s=Q4:=by simpa using hst
   refine one ?_ ?_
   ·simp only[Om,rE,Q8,zl,Prod.eta,t1,t2,hst',jI,ay,if_true]
   ·unfold aT;rw[if_neg];rintro⟨_,h,_⟩;exact hst h
 ·obtain⟨t,b,h⟩:=Lk hw;have t1:ip s=Q3:=by unfold ip;rw[h];rfl
  have t2:kK s=(t,b):=by unfold kK;rw[h];rfl
  have hop:(bif !s.1==[99,111,112,121]then bif !s.1==[106,111,105,110]then !s.1==[103,114,111,117,112]else Q4 else Q4)=Q3:=by
   have x1:(s.1==[99,111,112,121])=Q4:=by simpa using λk=>hm (.inl k)
   have x2:(s.1==[106,111,105,110])=Q4:=by simpa using λk=>hm (.inr (.inl k))
   have x3:(s.1==[103,114,111,117,112])=Q4:=by simpa using λk=>hm (.inr (.inr k))
   rw[x1,x2,x3];rfl
  refine one ?_ ?_
  ·simp only[Om,rE,Q8,zl,Prod.eta,t1,t2,k1,k2,hop,if_true];cases b<;>cases(e !=0)<;>rfl
  ·unfold aT;rw[if_neg λh=>hm h.1]
end Cad
