/- The same plans; the document's plans. The document's plans: places, conditions. Statements: a MIGRATE may be, by the document, just if it may be by the program. -/
import Derived.Test.YtkmcdhahdadkpaaGreatDoorA16
import Derived.Test.YtkmcdhahdadkpaaGreatDoorA13
import Derived.Test.YtkmcdhahdadkpaaGreatDoorA15
namespace Cad
open Go Go.Proofs
open AV renaming ptr→Qf,nils→Qb
open Tr renaming chk→Qc,«to»→Q9,val→Q8
open AO renaming box→Qa
open Bool renaming false→Q4,true→Q3
open Option renaming some→Q1
open Decidable renaming decide→Q0
open Int (toNat)
open List (getD length)
open Tr (chk br re)
open AV (nils agg tup ptr kb str sl)
noncomputable section
set_option maxHeartbeats 4000000
abbrev jP:List CP:=[.d .str,.d .str,.d .str,.d .str,.nil,.d zg,.nil,.nil,.d .str,.d zg,.d zg,.d .str,.d .str,.nil,.nil,.d zg]
abbrev Iz:List CP:=[.d .str,.d .str,.d .str,.d .str,.nil,.d zg,.nil,.nil,.d .expr,.nil,.d zg]
abbrev OT:List CP:=[.d .str,.d .str,.d .str,.d .str,.vec zj,.d zg,.nil,.nil,.d .expr,.d (.sl zg),.d zg]
abbrev zcq:List CP:=[.d .str,.d .str,.d .str,.d .str,.d (.sl zj),.d zg,.nil,.nil,.d .expr,.d (.sl zg),.d zg]
abbrev Rg:List CP:=[.d .str,.d .str,.d .str,.d .str,.vec zj,.d zg,.nil,.nil,.d .expr,.vec zg,.d zg]
def zif(x0:Sem zr)(x1:Sem zr):Tr (Empty⊕aw):=
 let a0:=x0.1==x1.1
 let a1:=x0.2.1==x1.2.1
 let a2:=x0.2.2.1==x1.2.2.1
 let a3:=x0.t.2==x1.t.2
 let a4:=(x0.2.2.2.1.1,x0.2.2.2.1.2.1,x0.2.2.2.1.2.2.1,x0.2.2.2.1.2.2.2.1,x0.2.2.2.1.t.1,zn x0.2.2.2.1.t.2)
 let a5:=(x1.2.2.2.1.1,x1.2.2.2.1.2.1,x1.2.2.2.1.2.2.1,x1.2.2.2.1.2.2.2.1,x1.2.2.2.1.t.1,zn x1.2.2.2.1.t.2)
 let a6:=rX a4 a5
 Qc
 (bif a0 then
  bif a1 then bif a2 then bif a3 then HU a4 a5&&bif a6 then HC x0.t.1 x1.t.1 else Q3 else Q3 else Q3 else Q3
 else Q3)
 (re
  (AV.bool (bif a0 then bif a1 then bif a2 then bif a3 then bif a6 then oA x0.t.1 x1.t.1 else Q4 else Q4 else Q4 else Q4 else Q4))
  [])
def GM(x0:Sem zr)(x1:Sem zr):=al [Sh.bool] t0 100000000 (zif x0 x1)
def GL(x0:Sem zr)(x1:Sem zr):=(GM x0 x1).isSome
def JF(x0:Sem zr)(x1:Sem zr):=o1 (GM x0 x1)
def zeQ:=FT [zr,zr] [Sh.bool] λx=>GM x.1 x.2.1
theorem zaG:FK 60 zeQ:=sA.T1 (f:=Tryz.f60) (keep:=k0) (e:=e0)
abbrev zPl:AV:=.agg [str [],str [],str [],str [],Qb,ai 0,Qb,Qb,str [],ai 0,ai 0,str [],str [],Qb,Qb,ai 0]
abbrev rE{σ:Type}(e:Int):Tr (σ⊕aw):=.re (.tup [zPl,.int .i64 e]) []
abbrev ziG:Nat->aO:=λj=>if j=7 then{slots:=[0,3,4,8,9,10]}else if j=24 then{slots:=[3,4,8,11,13],prom:=[(8,Q1 4,zj)]}else if j=38 then{slots:=[3,4,8,11,14,15,16]}else if j=48 then{slots:=[3,4,8,14,17],prom:=[(8,Q1 14,.int .i64)]}else if j=64 then{slots:=[3,4,8,20]}else{ }
inductive kz where
 |h7 (l0:List (Sem zh)) (l9:List (Sem Sh.str)) (i10:Int) (z0:zm [CP.d zl]) (z1:zm jP) (z2:zm Iz)
 |h24 (i13:Int) (z0:zm [CP.d zl]) (z1:zm jP) (z2:zm OT) (z3:zm [CP.d zo])
 |h38 (i16:Int) (z0:zm [CP.d zl]) (z1:zm jP) (z2:zm Iz) (z3:zm [CP.d zo]) (z4:zm [CP.d zo])
 |h64 (i20:Int) (z0:zm [CP.d zl]) (z1:zm jP) (z2:zm zcq)
 |h64b (i20:Int) (z0:zm [CP.d zl]) (z1:zm jP) (z2:zm Iz)
 |h64bb (i20:Int) (z0:zm [CP.d zl]) (z1:zm jP) (z2:zm OT)
 |h38b (b15:Bool) (i16:Int) (z0:zm [CP.d zl]) (z1:zm jP) (z2:zm Iz) (z3:zm [CP.d zo]) (z4:zm [CP.d zo])
 |h48 (i17:Int) (z0:zm [CP.d zl]) (z1:zm jP) (z2:zm Rg) (z3:zm [CP.d zo])
 |h64bbb (i20:Int) (z0:zm [CP.d zl]) (z1:zm jP) (z2:zm Rg)
abbrev zlr:kz->Nat×St
 |.h7 l0 l9 i10 z0 z1 z2=>(7,⟨tm 339 [(0,sl zh l0),(3,Qf 0 0),(4,Qf 1 0),(8,Qf 2 0),(9,sl Sh.str l9),(10,ai i10)],[Qa (bv [] [CP.d zl] z0),Qa (bv [] jP z1),Qa (bv [] Iz z2)]⟩)
 |.h24 i13 z0 z1 z2 z3=>(24,⟨tm 339 [(3,Qf 0 0),(4,Qf 1 0),(8,Qf 2 0),(11,Qf 3 0),(13,ai i13)],[Qa (bv [] [CP.d zl] z0),Qa (bv [] jP z1),Qa (bv [4] OT z2),Qa (bv [] [CP.d zo] z3),AO.vec zj z2.t.1]⟩)
 |.h38 i16 z0 z1 z2 z3 z4=>(38,⟨tm 339 [(3,Qf 0 0),(4,Qf 1 0),(8,Qf 2 0),(11,Qf 3 0),(14,Qf 4 0),(15,kb Q4),(16,ai i16)],[Qa (bv [] [CP.d zl] z0),Qa (bv [] jP z1),Qa (bv [] Iz z2),Qa (bv [] [CP.d zo] z3),Qa (bv [] [CP.d zo] z4)]⟩)
 |.h64 i20 z0 z1 z2=>(64,⟨tm 339 [(3,Qf 0 0),(4,Qf 1 0),(8,Qf 2 0),(20,ai i20)],[Qa (bv [] [CP.d zl] z0),Qa (bv [] jP z1),Qa (bv [] zcq z2)]⟩)
 |.h64b i20 z0 z1 z2=>(64,⟨tm 339 [(3,Qf 0 0),(4,Qf 1 0),(8,Qf 2 0),(20,ai i20)],[Qa (bv [] [CP.d zl] z0),Qa (bv [] jP z1),Qa (bv [] Iz z2)]⟩)
 |.h64bb i20 z0 z1 z2=>(64,⟨tm 339 [(3,Qf 0 0),(4,Qf 1 0),(8,Qf 2 0),(20,ai i20)],[Qa (bv [] [CP.d zl] z0),Qa (bv [] jP z1),Qa (bv [3] OT z2),AO.vec zj z2.t.1]⟩)
 |.h38b b15 i16 z0 z1 z2 z3 z4=>(38,⟨tm 339 [(3,Qf 0 0),(4,Qf 1 0),(8,Qf 2 0),(11,Qf 3 0),(14,Qf 4 0),(15,AV.bool b15),(16,ai i16)],[Qa (bv [] [CP.d zl] z0),Qa (bv [] jP z1),Qa (bv [] Iz z2),Qa (bv [] [CP.d zo] z3),Qa (bv [] [CP.d zo] z4)]⟩)
 |.h48 i17 z0 z1 z2 z3=>(48,⟨tm 339 [(3,Qf 0 0),(4,Qf 1 0),(8,Qf 2 0),(14,Qf 3 0),(17,ai i17)],[Qa (bv [] [CP.d zl] z0),Qa (bv [] jP z1),Qa (bv [4,5] Rg z2),Qa (bv [] [CP.d zo] z3),AO.vec zj z2.t.1,AO.vec zg z2.t.q.2.1]⟩)
 |.h64bbb i20 z0 z1 z2=>(64,⟨tm 339 [(3,Qf 0 0),(4,Qf 1 0),(8,Qf 2 0),(20,ai i20)],[Qa (bv [] [CP.d zl] z0),Qa (bv [] jP z1),Qa (bv [3,4] Rg z2),AO.vec zj z2.t.1,AO.vec zg z2.t.q.2.1]⟩)
def Pi(x0:Sem zh.sl)(x1:Sem zl):Tr (kz⊕aw):=
 let a0:=zn x1.t.t.1
 let a1:=(x1.1,x1.2.1,x1.2.2.1,x1.2.2.2.1,x1.t.1,x1.t.2.1,x1.t.q.1,x1.t.q.2.1,a0,x1.t.t.2.1,x1.t.t.q.1,zn x1.t.t.q.2.1,x1.t.t.t)
 let a2:=kZ a1
 let a3:=!a2.2
 let a4:=(x1.1,x1.2.2.1,x1.t.t.t,(x1.2.1,[],0,[],[],a0),[],0)
 Qc (iG a1)
 (Qc (bif a3 then Q3 else CE x0)
  (br (bif a3 then Q3 else bif Hi x0 !=0 then Q3 else bif !x1.1==[99,111,112,121]then bif !x1.1==[106,111,105,110]then !x1.1==[103,114,111,117,112]else Q4 else Q4) (rE 1) (Qc (jG a4) (Q9 (kz.h7 x0 (kU a4) 0 (x1,()) ([],[],[],[],0,[],0,0,[],[],0,()) (x1.1,x1.2.2.1,x1.t.t.t,x1.2.1,0,x1.t.t.1,0,()))))))
def du:kz->Tr (kz⊕aw)
 | .h7 l0 l9 i10 z0 z1 z2=>
  let a0:=lc l0 (l9.getD i10.toNat (zi Sh.str))
  let a1:=lc l0 z0.1.2.1
  let a2:=lc l0 z0.1.2.2.1
  let a3:=l0.getD (toNat a2) (zi zh)
  let a4:=nJ a3.1.2.1 z0.1.2.2.2.1
  let a5:=qw a3.1.2.1 z0.1.2.2.2.1
  let a6:=a5.2!=0
  let a7:=(z2.t.2.1,a5.1,z2.t.q)
  let a8:=(a3.1,())
  let a9:=lc l0 z0.1.t.t.t
  let a10:=eK a3.1.2.1 z0.1.t.2.1
  let a11:=l0.getD (toNat a9) (zi zh)
  let a12:=getD a5.1 (toNat 0) (zi zg)
  let a13:=getD a5.1 (toNat 1) (zi zg)
  let a14:=getD a3.1.2.1 (toNat a13) (zi zj)
  let a15:=getD a3.1.2.1 (toNat a12) (zi zj)
  br (Q0 (i10<(↑l9.length:Int)))
  (Qc (zK i10 l9.length) (br (Q0 (a0<0)) (rE 6) (Q9 (kz.h7 l0 l9 (IntKind.i64.wrap (i10+1)) z0 z1 z2))))
  (br (bif Q0 (a1>=0)then Q3 else z0.1.2.2.1==z0.1.t.t.t) (rE 7) (Qc (sV l0 l9) (br (wJ l0 l9) (rE 10) (Qc (zK a2 l0.length) (br (z0.1.1==[99,111,112,121]) (Qc a4 (br a6 (rE a5.2) (Q9 (kz.h24 0 z0 z1 (z2.1,z2.2.1,z2.2.2.1,z2.2.2.2.1,[],-1,a7) a8)))) (br (z0.1.1==[106,111,105,110]) (Qc (zK a9 l0.length)
  (Qc (dC a3.1.2.1 z0.1.t.2.1) (br (Q0 (a10<0)) (rE 4) (Q9
  (kz.h38 0 z0 z1 (z2.1,z2.2.1,z2.2.2.1,z2.2.2.2.1,z2.t.1,z2.t.2.1,a10,()) a8 (a11.1,())))))) (br (z0.1.1==[103,114,111,117,112]) (Qc a4 (br a6 (rE a5.2) (Qc (zK 0 (length a5.1)) (Qc (zK a12 (length a3.1.2.1)) (Qc (zK 1 (length a5.1)) (Qc (zK a13 (length a3.1.2.1)) (br (a14.2.1!=1) (rE 5) (Q9 (kz.h64 0 z0 z1 (z2.1,z2.2.1,z2.2.2.1,z2.2.2.2.1,[(a15.1,a15.2.1,Q3),(a14.1,a14.2.1,Q4)],z2.t.1,a7)))))))))) (Q9 (kz.h64b 0 z0 z1 z2)))))))))
 | .h24 i13 z0 z1 z2 z3=>
  let a0:=(↑(length z2.t.q.2.1):Int)
  let a1:=zK i13 (length z2.t.q.2.1)
  let a2:=getD z2.t.q.2.1 i13.toNat (zi zg)
  let a3:=zK a2 (length z3.1.2.1)
  let a4:=[getD z3.1.2.1 (toNat a2) (zi zj)]
  let a5:=Q0 (z2.t.1.length+a4.length<=1073741824)
  let a6:=IntKind.i64.wrap (i13+1)
  let a7:=z2.t.1++a4
  br (Q0 (i13<a0))
  (Qc a1 (br (a2==z3.1.2.2.1) (Qc a1 (Qc a3 (Qc a5 (Q9 (kz.h24 a6 z0 z1 (z2.1,z2.2.1,z2.2.2.1,z2.2.2.2.1,a7,i13,z2.t.q) z3))))) (Qc a1 (Qc a3 (Qc a5 (Q9 (kz.h24 a6 z0 z1 (z2.1,z2.2.1,z2.2.2.1,z2.2.2.2.1,a7,z2.t.2) z3)))))))
  (br (Q0 (z2.t.2.1<0)) (rE 1) (Q9 (kz.h64bb 0 z0 z1 z2)))
 | .h38 i16 z0 z1 z2 z3 z4=>
  let a0:=(↑(length z3.1.t.1):Int)
  let a1:=zK i16 (length z3.1.t.1)
  let a2:=getD z3.1.t.1 i16.toNat (zi zu)
  let a3:=a2.1==z2.t.q.1
  br (Q0 (i16<a0))
  (Qc (a1&&bif a3 then a1 else Q3) (Q9 (kz.h38b (bif a3 then a2.2==z0.1.t.t.t else Q4) (IntKind.i64.wrap (i16+1)) z0 z1 z2 z3 z4)))
  (rE 10)
 | .h64 i20 z0 z1 z2=>
  let a0:=(↑(length z2.t.1):Int)
  let a1:=getD z2.t.1 i20.toNat (zi zj)
  let a2:=zn z0.1.t.t.1
  let a3:=wP a2 z2.t.1
  br (Q0 (i20<a0))
  (Qc (zK i20 (length z2.t.1)) (Qc (dC z2.t.1 a1.1) (br (eK z2.t.1 a1.1!=i20) (rE 7)
  (Q9 (kz.h64 (IntKind.i64.wrap (i20+1)) z0 z1 z2)))))
  (Qc (qO a2 z2.t.1) (br (a3 !=0) (rE a3) (re (tup [agg [str z2.1,str z2.2.1,str z2.2.2.1,str z2.2.2.2.1,
  sl zj z2.t.1,ai z2.t.2.1,Qb,Qb,str (zf.op z2.t.q.1),ai (zf.v z2.t.q.1).1,ai (zf.v z2.t.q.1).2.1,str (zf.v z2.t.q.1).2.2,str (zf.s z2.t.q.1),sl Sh.expr (zf.l z2.t.q.1),sl zg z2.t.q.2.1,ai z2.t.t.1],ai 0])
  [])))
 | .h64b i20 z0 _ z2=>
  let a0:=zn z0.1.t.t.1
  let a1:=wP a0 []
  br (Q0 (i20<0)) Tr.err
  (Qc (qO a0 []) (br (a1 !=0) (rE a1) (re (tup [agg
  [str z2.1,str z2.2.1,str z2.2.2.1,str z2.2.2.2.1,Qb,ai z2.t.1,Qb,Qb,str (zf.op z2.t.2.1),ai (zf.v z2.t.2.1).1,ai (zf.v z2.t.2.1).2.1,str (zf.v z2.t.2.1).2.2,str (zf.s z2.t.2.1),sl Sh.expr (zf.l z2.t.2.1),Qb,ai z2.t.q.1],
  ai 0]) [])))
 | .h64bb i20 z0 z1 z2=>
  let a0:=(↑z2.t.1.length:Int)
  let a1:=z2.t.1.getD i20.toNat (zi zj)
  let a2:=zn z0.1.t.t.1
  let a3:=wP a2 z2.t.1
  br (Q0 (i20<a0))
  (Qc (zK i20 z2.t.1.length) (Qc (Q0 (i20.toNat<z2.t.1.length)) (Qc (dC z2.t.1 a1.1) (br (eK z2.t.1 a1.1!=i20) (rE 7)
  (Q9 (kz.h64bb (IntKind.i64.wrap (i20+1)) z0 z1 z2))))))
  (Qc (qO a2 z2.t.1) (br (a3 !=0) (rE a3) (re (tup [agg
  [str z2.1,str z2.2.1,str z2.2.2.1,str z2.2.2.2.1,AV.vec 0,ai z2.t.2.1,Qb,Qb,str (zf.op z2.t.q.1),ai (zf.v z2.t.q.1).1,ai (zf.v z2.t.q.1).2.1,str (zf.v z2.t.q.1).2.2,str (zf.s z2.t.q.1),sl Sh.expr (zf.l z2.t.q.1),
  sl zg z2.t.q.2.1,ai z2.t.t.1],ai 0]) [AO.vec zj z2.t.1])))
 | .h38b b15 i16 z0 z1 z2 z3 z4=>
  let a0:=(↑(length z3.1.t.1):Int)
  let a1:=zK i16 (length z3.1.t.1)
  let a2:=getD z3.1.t.1 i16.toNat (zi zu)
  let a3:=a2.1==z2.t.q.1
  let a4:=IntKind.i64.wrap ((↑(length z3.1.2.1):Int)+(↑(length z4.1.2.1):Int))
  br (Q0 (i16<a0))
  (Qc (bif b15 then Q3 else a1&&bif a3 then a1 else Q3) (Q9 (kz.h38b (bif b15 then Q3 else bif a3 then a2.2==z0.1.t.t.t else Q4) (IntKind.i64.wrap (i16+1)) z0 z1 z2 z3 z4)))
  (br (!b15) (rE 10) (br (Q0 (a4>9)) (rE 13) (Qc (Q0 (length z3.1.2.1<=1073741824)) (Q9 (kz.h48 0 z0 z1 (z2.1,z2.2.1,z2.2.2.1,z2.2.2.2.1,z3.1.2.1,z3.1.2.2.1,z2.t.2.1,[],z2.t.q) z4)))))
 | .h48 i17 z0 z1 z2 z3=>
  let a0:=(↑(length z3.1.2.1):Int)
  let a1:=[getD z3.1.2.1 i17.toNat (zi zj)]
  let a2:=IntKind.i64.wrap (i17+1)
  br (Q0 (i17<a0))
  (br (i17 !=z3.1.2.2.1) (Qc (Q0 (z2.t.q.2.1.length+[i17].length<=1073741824)) (Qc (zK i17 (length z3.1.2.1)) (Qc (Q0 (z2.t.1.length+a1.length<=1073741824)) (Q9 (kz.h48 a2 z0 z1 (z2.1,z2.2.1,z2.2.2.1,z2.2.2.2.1,z2.t.1++a1,z2.t.2.1,z2.t.q.1,z2.t.q.2.1++[i17],z2.t.t) z3)))))
  (Q9 (kz.h48 a2 z0 z1 z2 z3)))
  (Q9 (kz.h64bbb 0 z0 z1 z2))
 | .h64bbb i20 z0 z1 z2=>
  let a0:=(↑z2.t.1.length:Int)
  let a1:=z2.t.1.getD i20.toNat (zi zj)
  let a2:=zn z0.1.t.t.1
  let a3:=wP a2 z2.t.1
  br (Q0 (i20<a0))
  (Qc (zK i20 z2.t.1.length) (Qc (Q0 (i20.toNat<z2.t.1.length)) (Qc (dC z2.t.1 a1.1) (br (eK z2.t.1 a1.1!=i20) (rE 7)
  (Q9 (kz.h64bbb (IntKind.i64.wrap (i20+1)) z0 z1 z2))))))
  (Qc (qO a2 z2.t.1) (br (a3 !=0) (rE a3) (re (tup [agg
  [str z2.1,str z2.2.1,str z2.2.2.1,str z2.2.2.2.1,AV.vec 0,ai z2.t.2.1,Qb,Qb,str (zf.op z2.t.q.1),ai (zf.v z2.t.q.1).1,ai (zf.v z2.t.q.1).2.1,str (zf.v z2.t.q.1).2.2,str (zf.s z2.t.q.1),sl Sh.expr (zf.l z2.t.q.1),AV.vec 1,
  ai z2.t.t.1],ai 0]) [AO.vec zj z2.t.1,AO.vec zg z2.t.q.2.1])))
def Cg(x0:Sem zh.sl)(x1:Sem zl):=al [zr,zg] du 100000000 (Pi x0 x1)
def L1(x0:Sem zh.sl)(x1:Sem zl):=(Cg x0 x1).isSome
def T9(x0:Sem zh.sl)(x1:Sem zl):=o2 (Cg x0 x1)
def zeN:=FT [zh.sl,zl] [zr,zg] λx=>Cg x.1 x.2.1
theorem zaE:FK 25 zeN:=sA.T1 (f:=Tryz.f25) (keep:=ziG) (e:=zlr)
def Gf:=RL.addL [(60,zeQ),(25,zeN)]
theorem K5:zy Gf:=sA.addL<|fc zaG<|fc zaE<|iM
end
def pl3(t:Sem zo)(names:List zD):Nat->oM
 |0=>.h3 t.2.1 names ((0:Nat):Int)
 |i+1=>.h3b t.2.1 names ((i+1:Nat):Int) (kP t (names.take (i+1)))
theorem Xs{t:Sem zo}{names:List zD}(hc:t.2.1.length<=1000000)(hn:names.length<=1000){i:Nat}(hi:i<names.length):(jK (pl3 t names i)).val=if LT.lt (α:=Int) (zT t names[i]) 0 then Q1 (.inr (.tup [.nils,.int .i64 4],[]))else Q1 (.inl (pl3 t names (i+1))):=by
 have e:eK t.2.1 names[i]=zT t names[i]:=kq hc;have ec:dC t.2.1 names[i]=Q3:=je hc;have hx:kP t (names.take (i+1))=kP t (names.take i)++[zT t names[i]]:=by
  unfold kP;rw[bV hi,iP];rfl
 cases i with
 | zero=>
  have hx:kP t (names.take 1)=[zT t names[0]]:=hx;show(jK (.h3 _ _ _)).val=_;simp only[jK,Q8,zC hi,zt hi,if_true,zM _ _ hi,e,ec];by_cases h:LT.lt (α:=Int) (zT t names[0]) 0
  ·simp only[zx h,if_true,if_pos h]
  ·simp only[aj h,if_neg h,zB,if_false];rw[if_pos sw,zp 0 um];show _=Q1 (Sum.inl (oM.h3b _ _ _ (kP t (names.take 1))));rw[hx]
 | succ i=>
  show(jK (.h3b _ _ _ _)).val=_;simp only[jK,Q8,zC hi,zt hi,if_true,zM _ _ hi,e,ec];by_cases h:LT.lt (α:=Int) (zT t names[i+1]) 0
  ·simp only[zx h,if_true,if_pos h]
  ·simp only[aj h,if_neg h,zB,if_false];rw[if_pos (by unfold kP;simp;omega),zp (i+1) um];show _=Q1 (Sum.inl (oM.h3b _ _ _ (kP t (names.take (i+1+1)))));rw[hx]
theorem znw{l:List Int}(hl:l.length<=1000):zU jK (l.length*1001+1) (.h10b ((0:Nat):Int) l) (if l.Nodup then(.tup [.vec 0,.int .i64 0],[.vec zg l])else(.tup [.nils,.int .i64 7],[])):=by
 have hin:∀i(hi:i<l.length),((∀k(hk:k<i),l[k]≠l[i])/\zQ jK 1001 (.h10b (i:Int) l) (.h10b ((i+1:Nat):Int) l))\/((¬∀k(hk:k<i),l[k]≠l[i])/\zU jK 1001 (.h10b (i:Int) l) (.tup [.nils,.int .i64 7],[])):=by
  intro i hi;have h0:zQ jK 1 (.h10b (i:Int) l) (.h13b (i:Int) ((0:Nat):Int) l):=zQ.of (by
   show(jK (.h10b _ _)).val=_;simp only[jK,Q8,zC hi,if_true];rfl)
  rcases ly (t:=jK) (Φ:=λr=>r=(.tup [.nils,.int .i64 7],[])) 1 (λk=>.h13b (i:Int) (k:Int) l) (λk=>∀h:k<i,l[k]≠l[i]) i (λk hk _=>by
   have hkl:k<l.length:=by omega
   have g1:Q0 ((k:Int)<(i:Int))=Q3:=zC hk;have hv:(jK (.h13b (i:Int) (k:Int) l)).val=if(l[i]==l[k])=Q3 then Q1 (.inr (.tup [.nils,.int .i64 7],[]))else Q1 (.inl (.h13b (i:Int) ((k+1:Nat):Int) l)):=by
    show(jK (.h13b _ _ _)).val=_;simp only[jK,Q8,g1,zt hi,zt hkl,w7 hi,w7 hkl,zM _ _ hi,zM _ _ hkl,if_true];rw[zp k um]
   by_cases h:l[i]=l[k]
   ·exact .inr ⟨λq=>q hk h.symm,_,zU.of (by rw[hv,if_pos (by simpa using h)]),rfl⟩
   ·exact .inl ⟨λ_=>Ne.symm h,zQ.of (by rw[hv,if_neg (by simpa using h)])⟩)with⟨h1,h2⟩|⟨h1,r,h2,rfl⟩
  ·refine .inl ⟨λk hk=>h1 k hk hk,((h0.trans h2).trans (zQ.of ?_)).mono ow⟩;show(jK (.h13b _ _ _)).val=_;simp only[jK,Q8,zA];rw[zp i um];rfl
  ·exact .inr ⟨λh=>h1 λk hk _=>h k hk,(h0.ends h2).mono ow⟩
 have hnd:l.Nodup↔∀i,i<l.length->∀h:i<l.length,∀k(hk:k<i),l[k]≠l[i]:=by
  unfold List.Nodup;rw[List.pairwise_iff_getElem];exact⟨λh i _ hi k hk=>h k i ow hi hk,λh i j hi hj hij=>h j hj hj i hij⟩
 rcases ly (t:=jK) (Φ:=λr=>r=(.tup [.nils,.int .i64 7],[])) 1001 (λi=>.h10b (i:Int) l) (λi=>∀h:i<l.length,∀k(hk:k<i),l[k]≠l[i]) l.length (λi hi _=>by
  rcases hin i hi with⟨h1,h2⟩|⟨h1,h2⟩
  ·exact .inl ⟨λ_=>h1,h2⟩
  ·exact .inr ⟨λh=>h1 (h hi),_,h2,rfl⟩)with⟨h1,h2⟩|⟨h1,r,h2,rfl⟩
 ·rw[if_pos (hnd.2 h1)];refine(h2.ends (zU.of ?_)).mono ow;show(jK (.h10b _ _)).val=_;simp only[jK,Q8,zA];rfl
 ·rw[if_neg (λh=>h1 (hnd.1 h))];exact h2.mono ow
theorem GQ{t:Sem zo}{names:List zD}(hc:t.2.1.length<=1000000)(hn:names.length<=1000):nK t.2.1 names=Q1 (if gq t names=0 then kP t names else[],gq t names,()):=by
 have hi:(zio t.2.1 names).val=Q1 (.inl (pl3 t names 0)):=rfl
 rcases ly (t:=jK) (Φ:=λr=>r=(.tup [.nils,.int .i64 4],[])) 1 (pl3 t names) (λi=>∀h:i<names.length,¬LT.lt (α:=Int) (zT t names[i]) 0) names.length (λi hi _=>by
  have hv:=Xs hc hn hi;by_cases h:LT.lt (α:=Int) (zT t names[i]) 0
  ·exact .inr ⟨λq=>q hi h,_,zU.of (by rw[hv,if_pos h]),rfl⟩
  ·exact .inl ⟨λ_=>h,zQ.of (by rw[hv,if_neg h])⟩)with⟨h1,h2⟩|⟨h1,r,h2,rfl⟩
 ·have hA:∀s∈names,¬LT.lt (α:=Int) (zT t s) 0:=by
   intro s hs;obtain⟨j,hj,rfl⟩:=fW hs;exact h1 j hj hj
  have hE:gq t names=if(kP t names).Nodup then 0 else 7:=by unfold gq;rw[if_pos hA];rfl
  have hxl:(kP t names).length=names.length:=by unfold kP;simp
  cases hnm:names.length with
  | zero=>
   have hnil:names=[]:=yk hnm;subst hnil;have h3:zU jK 2 (pl3 t [] 0) (.tup [.nils,.int .i64 0],[]):=by
    refine(zQ.of (s':=.h10 0) ?_).ends (zU.of ?_)
    ·rfl
    ·rfl
   have h0:gq t []=0:=by rw[hE,if_pos (by unfold kP;exact List.nodup_nil)]
   rw[h0,if_pos rfl];exact zw hi h3 ow rfl
  | succ n=>
   rw[hnm]at h2;have e1:kP t (names.take (n+1))=kP t names:=by rw[<-hnm,jx]
   have h3:zQ jK 1 (pl3 t names (n+1)) (.h10b ((0:Nat):Int) (kP t names)):=zQ.of (by
    show(jK (.h3b _ _ _ _)).val=_;rw[e1,<-hnm];simp only[jK,Q8,zA];rfl)
   have h4:=znw (l:=kP t names) ow;have h5:=h2.ends (h3.ends h4);rw[hE];by_cases hd:(kP t names).Nodup
   ·rw[if_pos hd]at h5⊢;exact zw hi h5 ow rfl
   ·rw[if_neg hd]at h5⊢;exact zw hi h5 ow rfl
 ·have hE:gq t names=4:=by
   unfold gq;rw[if_neg];intro h;exact h1 λi _ hi=>h _ (bd hi)
  rw[hE];exact zw hi h2 ow rfl
theorem JL{t:Sem zo}{names:List zD}(hc:t.2.1.length<=1000000)(hn:names.length<=1000):nJ t.2.1 names=Q3/\qw t.2.1 names=(if gq t names=0 then kP t names else[],gq t names):=by
 have h:=GQ hc hn;exact⟨by unfold nJ;rw[h];rfl,by unfold qw;rw[h];rfl⟩
def rr(e:zf)(cols:List (Sem zj)):Int:=
 if(e.op==[])=Q3 then 0 else if(bif (bK e cols).2==0 then bif (bK e cols).1!=3 then(bK e cols).1!=0 else Q4 else Q4)=Q3 then 5 else(bK e cols).2
theorem PO{e:zf}{cols:List (Sem zj)}(hw:sb e)(hl:cols.length<=1000000)(hm:(e.op==[])=Q4->de e=Q3):Ah e cols=Q1 (rr e cols,()):=by
 unfold rr;cases ho:(e.op==[])
 ·have hme:=hm ho;have h1:=mM hw;have h2:=qH hw;have h3:=JV hl hme;have t1:nO e cols=Q3:=by unfold nO;rw[h3];rfl
  have t2:iD e cols=bK e cols:=by unfold iD;rw[h3];rfl
  have hb:(bif (bK e cols).2==0 then bif (bK e cols).1!=0 then(bK e cols).1!=3 else Q4 else Q4)=(bif (bK e cols).2==0 then bif (bK e cols).1!=3 then(bK e cols).1!=0 else Q4 else Q4):=by
   cases((bK e cols).2==0)<;>cases((bK e cols).1!=0)<;>cases((bK e cols).1!=3)<;>rfl
  have hv:(WT e cols).val=Q1 (.inr (.int .i64 (if(bif (bK e cols).2==0 then bif (bK e cols).1!=3 then(bK e cols).1!=0 else Q4 else Q4)=Q3 then 5 else(bK e cols).2),[])):=by
   simp only[WT,Q8,zk,ho,h1,h2,hme,t1,t2,hb,if_true,zB,if_false,bG];split<;>rfl
  exact zJ hv rfl
 ·refine zJ (r:=(.int .i64 0,[])) ?_ rfl;simp only[WT,Q8,ho,if_true]
theorem CB{e:zf}{cols:List (Sem zj)}(hw:sb e)(hl:cols.length<=1000000)(hm:(e.op==[])=Q4->de e=Q3):qO e cols=Q3/\wP e cols=rr e cols:=by
 have h:=PO hw hl hm;exact⟨by unfold qO;rw[h];rfl,by unfold wP;rw[h];rfl⟩
theorem DT(l:List zD):gD l=Lib.join l [32,44,32]:=by
 have h:=pJ l 0 [];unfold gD;rw[h];have e:l.map lU=l:=by
  rw[show(lU:zD->zD)=id from rfl];exact List.map_id l
 rw[Ec,e]
theorem XR{s:Sem zl}(h:oI s)(o:s.1=[99,111,112,121])(hk:kR s=Q3):iJ s=MB s:=by
 unfold kR at hk;simp only[aC,aP]at hk;rw[(iK (Z8 h.sh o)).2,tC,A1 hk.2.1,DT];unfold MB;simp
theorem XS{s:Sem zl}(h:oI s)(o:s.1=[106,111,105,110])(hk:nI s=Q3):iJ s=pP s:=by
 unfold nI at hk;simp only[aC]at hk;rw[(iK (zaa h.sh o)).2,tJ,A1 hk.1];unfold pP;simp
theorem UO{s:Sem zl}(h:oI s)(o:s.1=[103,114,111,117,112])(hk:gI s=Q3):iJ s=lW s:=by
 unfold gI at hk;simp only[aC,aP]at hk;rw[(iK (Z9 h.sh o hk.1)).2,tG,A1 hk.2.1];unfold lW;simp
theorem Mg{s:Sem zl}(h:oI s)(hm:jC s.1):∃t,nT s=Q1 (t,dZ s,()):=by
 have key:∀(own:Sem zl)(ok:Bool)(t tx:zD),dD s=Q1 (t,own,ok,())->t.length<=900000->AF own->(ok=Q3->t=tx)->(ok=Q3->iJ s=tx)->fh s=(ok&&(zO s.2.1&&ff own s))->∃t,nT s=Q1 (t,dZ s,()):=by
  intro own ok t tx h1 h2 h3 h4 h5 h6;obtain⟨t',h7⟩:=FB h h1 h2 h3;refine⟨t',?_⟩;rw[h7,UE,h6];cases hk:ok
  ·rfl
  ·rw[h5 hk,h4 hk];cases zO s.2.1<;>cases ff own s<;>rfl
 rcases hm with o|o|o
 ·obtain⟨t,h1,h2,h3⟩:=On h o;exact key _ _ _ _ h1 h2 (ej h (.inl rfl) (.inr rfl) (.inr rfl) (.inr rfl) (.inl rfl) (.inr rfl) (.inr rfl) (.inr rfl)) h3 (XR h o) (NO h o)
 ·obtain⟨h1,h2⟩:=Oo h o;exact key _ _ _ _ h1 h2 (ej h (.inr rfl) (.inr rfl) (.inr rfl) (.inr rfl) (.inl rfl) (.inr rfl) (.inr rfl) (.inr rfl)) (λ_=>rfl) (XS h o) (NP h o)
 ·obtain⟨t,h1,h2,h3⟩:=KD h o;exact key _ _ _ _ h1 h2 (ej h (.inl rfl) (.inr rfl) (.inr rfl) (.inr rfl) (.inl rfl) (.inr rfl) (.inr rfl) (.inr rfl)) h3 (UO h o) (JJ h o)
theorem Nb{g c:zf->zf->Bool}:∀(l m:List zf),l.length=m.length->(∀x∈l,∀y,c x y=Q3/\(g x y=Q3↔x=y))->Pd g c l m=Q3/\(WC g l m=Q3↔l=m)
 |[],[],_,_=>⟨rfl,by simp[WC]⟩
 |[],_::_,h,_=>by simp at h
 |_::_,[],h,_=>by simp at h
 | x::r,y::q,h,hx=>by
  obtain⟨c1,g1⟩:=hx x sw y;obtain⟨c2,g2⟩:=Nb r q (by simpa using h) (λz hz=>hx z (by simp[hz]));rw[Pd,WC];rw[c1];by_cases k:g x y=Q3
  ·have:=g1.1 k;subst this;simp[k,c2,g2]
  ·have hne:x≠y:=λe=>k (g1.2 e)
   simp[k,hne]
theorem Km:∀(N:Nat)(a b:zf),rt N a=Q3->jj N a b=Q3/\(fw N a b=Q3↔a=b)
 |0,_,_,h=>by cases h
 | N + 1,.mk op v s l,.mk op' v' s' l',h=>by
  rw[rt]at h;simp only[aC,aP,dX]at h;obtain⟨_,ha⟩:=h;have e1:jj (N+1) (.mk op v s l) (.mk op' v' s' l')=(bif op==op' then bif U8 v v' then bif s==s' then xE (fw N) (jj N) l l' else Q3 else Q3 else Q3):=rfl;have e2:fw (N+1) (.mk op v s l) (.mk op' v' s' l')=(bif op==op' then bif U8 v v' then bif s==s' then Lb (fw N) l l' else Q4 else Q4 else Q4):=rfl;rw[e1,e2];unfold xE Lb;have hV:U8 v v'=Q3↔v=v':=by unfold U8;simp[Prod.ext_iff]
  by_cases h1:op=op'
  ·by_cases h2:v=v'
   ·by_cases h3:s=s'
    ·by_cases h4:l.length=l'.length
     ·obtain⟨k1,k2⟩:=Nb (g:=fw N) (c:=jj N) l l' h4 (λx hx y=>Km N x y (ha x hx));have hb:((↑l.length:Int)!=(↑l'.length:Int))=Q4:=by rw[<-gy,jm];exact λh=>h h4
      rw[hb,hV.2 h2];simp[h1,h3,k1,k2,h2]
     ·have hb:((↑l.length:Int)!=(↑l'.length:Int))=Q3:=jm.2 h4;have hne:l≠l':=λe=>h4 (by rw[e])
      rw[hb,hV.2 h2];simp[h1,h3,hne]
    ·rw[hV.2 h2];simp[h1,h3]
   ·have:U8 v v'=Q4:=by rw[<-gy,hV];exact h2
    rw[this];simp[h1,h2]
  ·simp[h1]
theorem Kq{a b:List Int}(h:a.length<=1000000):HC a b=Q3/\(oA a b=Q3↔a=b):=by
 have key:∃r,HD a b=Q1 (r,())/\(r=Q3↔a=b):=by
  by_cases hl:a.length=b.length
  ·have hb:((↑(length a):Int)!=(↑(length b):Int))=Q4:=by rw[<-gy,jm];exact λh=>h hl
   have hi:(WU a b).val=Q1 (.inl (.h4 a b (a.length:Int) 0)):=by
    simp only[WU,Q8,hb];rfl
   rcases lI (t:=zkU) (la:=a) (lb:=b) (λi=>.h4 a b (a.length:Int) i) (.inr (.kb Q3,[])) (λi=>getD a (i:Int).toNat (zi zg)==getD b (i:Int).toNat (zi zg)) (λ_ _=>rfl) (λi _ ha hb=>by rw[bf,zM _ _ ha,zM _ _ hb]) hl h with⟨q5,k5⟩|⟨q5,k5⟩
   ·exact⟨Q3,zw hi (k5 0 _ rfl) ow rfl,by simp[q5]⟩
   ·exact⟨Q4,zw hi k5 ow rfl,by simp[q5]⟩
  ·refine⟨Q4,zJ (r:=FC) ?_ rfl,by simp;exact λe=>hl (by rw[e])⟩;simp only[WU,Q8,jm.2 hl,if_true]
 obtain⟨r,h1,h2⟩:=key;refine⟨by unfold HC;rw[h1];rfl,?_⟩;have:oA a b=r:=by unfold oA;rw[h1];rfl
 rw[this];exact h2
theorem Uz{a b:List (Sem zj)}(h:a.length<=1000000):Mq a b=Q3/\(xX a b=Q3↔a=b):=by
 have key:∃r,HA a b=Q1 (r,())/\(r=Q3↔a=b):=by
  by_cases hl:a.length=b.length
  ·have hb:((↑(length a):Int)!=(↑(length b):Int))=Q4:=by rw[<-gy,jm];exact λh=>h hl
   have hi:(WY a b).val=Q1 (.inl (.h4 a b (a.length:Int) 0)):=by
    simp only[WY,Q8,hb];rfl
   rcases lI (t:=zkW) (la:=a) (lb:=b) (λi=>.h4 a b (a.length:Int) i) (.inr (.kb Q3,[])) (λi=>((getD a (i:Int).toNat (zi zj)).1==(getD b (i:Int).toNat (zi zj)).1&&((getD a (i:Int).toNat (zi zj)).2.1==(getD b (i:Int).toNat (zi zj)).2.1&&((getD a (i:Int).toNat (zi zj)).2.2==(getD b (i:Int).toNat (zi zj)).2.2&&Q3)))) (λ_ _=>rfl) (λi _ ha hb=>by rw[Re,zM _ _ ha,zM _ _ hb]) hl h with⟨q5,k5⟩|⟨q5,k5⟩
   ·exact⟨Q3,zw hi (k5 0 _ rfl) ow rfl,by simp[q5]⟩
   ·exact⟨Q4,zw hi k5 ow rfl,by simp[q5]⟩
  ·refine⟨Q4,zJ (r:=FC) ?_ rfl,by simp;exact λe=>hl (by rw[e])⟩;simp only[WY,Q8,jm.2 hl,if_true]
 obtain⟨r,h1,h2⟩:=key;refine⟨by unfold Mq;rw[h1];rfl,?_⟩;have:xX a b=r:=by unfold xX;rw[h1];rfl
 rw[this];exact h2
theorem UA{a b:List (Sem zu)}(h:a.length<=1000000):Mr a b=Q3/\(xY a b=Q3↔a=b):=by
 have key:∃r,HB a b=Q1 (r,())/\(r=Q3↔a=b):=by
  by_cases hl:a.length=b.length
  ·have hb:((↑(length a):Int)!=(↑(length b):Int))=Q4:=by rw[<-gy,jm];exact λh=>h hl
   have hi:(WZ a b).val=Q1 (.inl (.h4 a b (a.length:Int) 0)):=by
    simp only[WZ,Q8,hb];rfl
   rcases lI (t:=zkX) (la:=a) (lb:=b) (λi=>.h4 a b (a.length:Int) i) (.inr (.kb Q3,[])) (λi=>((getD a (i:Int).toNat (zi zu)).1==(getD b (i:Int).toNat (zi zu)).1&&((getD a (i:Int).toNat (zi zu)).2==(getD b (i:Int).toNat (zi zu)).2&&Q3))) (λ_ _=>rfl) (λi _ ha hb=>by rw[zcx,zM _ _ ha,zM _ _ hb]) hl h with⟨q5,k5⟩|⟨q5,k5⟩
   ·exact⟨Q3,zw hi (k5 0 _ rfl) ow rfl,by simp[q5]⟩
   ·exact⟨Q4,zw hi k5 ow rfl,by simp[q5]⟩
  ·refine⟨Q4,zJ (r:=FC) ?_ rfl,by simp;exact λe=>hl (by rw[e])⟩;simp only[WZ,Q8,jm.2 hl,if_true]
 obtain⟨r,h1,h2⟩:=key;refine⟨by unfold Mr;rw[h1];rfl,?_⟩;have:xY a b=r:=by unfold xY;rw[h1];rfl
 rw[this];exact h2
theorem UL{a b:Sem zo}(hc:a.2.1.length<=1000000)(hu:a.2.2.2.1.length<=1000000)(hr:a.t.1.length<=1000000)(he:rt 16 a.t.2=Q3):HU a b=Q3/\(rX a b=Q3↔a=b):=by
 obtain⟨a1,a2,a3,a4,a5,a6⟩:=a;obtain⟨b1,b2,b3,b4,b5,b6⟩:=b;obtain⟨c1,d1⟩:=Uz (b:=b2) (show a2.length<=1000000 from hc);obtain⟨c2,d2⟩:=Kq (b:=b4) (show a4.length<=1000000 from hu);obtain⟨c3,d3⟩:=UA (b:=b5) (show a5.length<=1000000 from hr);obtain⟨c4,d4⟩:=Km 16 a6 b6 he;have hv:HV (a1,a2,a3,a4,a5,a6) (b1,b2,b3,b4,b5,b6)=Q1 ((bif a1==b1 then bif a3==b3 then bif xX a2 b2 then bif oA a4 b4 then bif xY a5 b5 then fw 16 a6 b6 else Q4 else Q4 else Q4 else Q4 else Q4),()):=by
  refine zJ (r:=(.bool _,[])) ?_ rfl;simp only[ziq,Q8,zk,c1,c2,c3,c4];rw[if_pos];cases(a1==b1)<;>cases(a3==b3)<;>cases xX a2 b2<;>cases oA a4 b4<;>cases xY a5 b5<;>rfl
 refine⟨by unfold HU;rw[hv];rfl,?_⟩;have:rX (a1,a2,a3,a4,a5,a6) (b1,b2,b3,b4,b5,b6)=(bif a1==b1 then bif a3==b3 then bif xX a2 b2 then bif oA a4 b4 then bif xY a5 b5 then fw 16 a6 b6 else Q4 else Q4 else Q4 else Q4 else Q4):=by unfold rX;rw[hv];rfl
 rw[this];simp only[cA];rw[<-d1,<-d2,<-d3,<-d4];have x1:(a1==b1)=Q3↔a1=b1:=bf;have x3:(a3==b3)=Q3↔a3=b3:=bf;rw[<-x1,<-x3];cases(a1==b1)<;>cases(a3==b3)<;>cases xX a2 b2<;>cases oA a4 b4<;>cases xY a5 b5<;>cases fw 16 a6 b6<;>simp
theorem TU{a b:Sem zr}(hc:a.2.2.2.1.2.1.length<=1000000)(hu:a.2.2.2.1.2.2.2.1.length<=1000000)(hr:a.2.2.2.1.t.1.length<=1000000)(he:rt 16 a.2.2.2.1.t.2=Q3)(hx:a.t.1.length<=1000000):GL a b=Q3/\(JF a b=Q3↔a=b):=by
 obtain⟨a1,a2,a3,a4,a5,a6⟩:=a;obtain⟨b1,b2,b3,b4,b5,b6⟩:=b;obtain⟨c1,d1⟩:=UL (b:=b4) hc hu hr he;obtain⟨c2,d2⟩:=Kq (b:=b5) (show a5.length<=1000000 from hx);have c1':HU (a4.1,a4.2.1,a4.2.2.1,a4.2.2.2.1,a4.t.1,a4.t.2) (b4.1,b4.2.1,b4.2.2.1,b4.2.2.2.1,b4.t.1,b4.t.2)=Q3:=c1;have hs:rX (a4.1,a4.2.1,a4.2.2.1,a4.2.2.2.1,a4.t.1,a4.t.2) (b4.1,b4.2.1,b4.2.2.1,b4.2.2.2.1,b4.t.1,b4.t.2)=rX a4 b4:=rfl;have hv:GM (a1,a2,a3,a4,a5,a6) (b1,b2,b3,b4,b5,b6)=Q1 ((bif a1==b1 then bif a2==b2 then bif a3==b3 then bif a6==b6 then bif rX a4 b4 then oA a5 b5 else Q4 else Q4 else Q4 else Q4 else Q4),()):=by
  refine zJ (r:=(.bool _,[])) ?_ rfl;simp only[zif,Q8,zk,c1',hs,c2];rw[if_pos];cases(a1==b1)<;>cases(a2==b2)<;>cases(a3==b3)<;>cases(a6==b6)<;>cases rX a4 b4<;>rfl
 refine⟨by unfold GL;rw[hv];rfl,?_⟩;have:JF (a1,a2,a3,a4,a5,a6) (b1,b2,b3,b4,b5,b6)=(bif a1==b1 then bif a2==b2 then bif a3==b3 then bif a6==b6 then bif rX a4 b4 then oA a5 b5 else Q4 else Q4 else Q4 else Q4 else Q4):=by unfold JF;rw[hv];rfl
 rw[this];simp only[cA];rw[<-d1,<-d2];have x1:(a1==b1)=Q3↔a1=b1:=bf;have x2:(a2==b2)=Q3↔a2=b2:=bf;have x3:(a3==b3)=Q3↔a3=b3:=bf;have x6:(a6==b6)=Q3↔a6=b6:=bf;rw[<-x1,<-x2,<-x3,<-x6];cases(a1==b1)<;>cases(a2==b2)<;>cases(a3==b3)<;>cases(a6==b6)<;>cases rX a4 b4<;>cases oA a5 b5<;>simp
theorem oh.may{t:Sem zo}(h:oh t)(ho:(t.t.2.op==[])=Q4):de t.t.2=Q3:=by
 have hc:=h.chk;unfold iI at hc;have hn:fw 16 t.t.2 wD=Q4:=by rw[C5,ho];rfl
 rw[hn,if_neg sw]at hc;rcases zI (de t.t.2)with c|c
 ·exact c
 ·have ht:bK t.t.2 t.2.1=(0,1):=by unfold bK;rw[c];rfl
  rw[ht]at hc;cases hc
theorem Lj(t:Sem zo)(row:List (Sem ze))(i:Int):ez t row [] i=if H2 (jY t.t.2 t.2.1 row) 0=Q3 then(9:Int)else 0:=by rw[ez];rfl
theorem xG(t:Sem zo)(row:List (Sem ze))(x:Sem ze)(r:List (Sem ze))(i:Nat):ez t row (x::r) (i:Int)=if(bif x.1==0 then(getD t.2.1 i (zi zj)).2.2 else Q4)=Q3 then(8:Int)else if(bif x.1!=0 then x.1!=(getD t.2.1 i (zi zj)).2.1 else Q4)=Q3 then 5 else ez t row r ((i+1:Nat):Int):=by
 rw[ez];simp only[aG];rfl
theorem BC{t:Sem zo}{row:List (Sem ze)}(hw:KE t)(hT:oh t)(hr:∀v∈row,l7 v)(hl:row.length=t.2.1.length):∀(m i:Nat),row.length-i=m->i<=row.length->zU Di (m+1) (.h9 row (i:Int) (t,())) (.int .i64 (ez t row (row.drop i) (i:Int)),[])
 | 0,i,hm,hi=>by
  obtain rfl:i=row.length:=by omega
  have hcl:=hw.ncols;rw[jw,Lj];refine zU.of ?_;have h8:=hT.n8;rcases zI (t.t.2.op==[])with c|c
  ·have hm:de t.t.2=Q4:=by
    rcases zI (de t.t.2)with h|h
    ·rw[M2 h]at c;cases c
    ·exact h
   have hv:jY t.t.2 t.2.1 row=(0,0,[]):=by unfold jY;rw[hm];rfl
   rw[hv];simp only[Di,Q8,zA,zk];rw[c];rfl
  ·have hm:=hT.may c;have hev:=Uh (cols:=t.2.1) (row:=row) ow hr hw.chk hm;have hec:Aa t.t.2 t.2.1 row=Q3:=by unfold Aa;rw[hev];rfl
   have hevv:G1 t.t.2 t.2.1 row=jY t.t.2 t.2.1 row:=by unfold G1;rw[hev];rfl
   simp only[Di,Q8,zA,zk,hec,hevv,yU,GX];rw[c];show(if Q3=Q3 then(if H2 (jY t.t.2 t.2.1 row) 0=Q3 then Q1 (Sum.inr (ai 9,[]))else Q1 (Sum.inr (ai 0,[])))else none:Option (FV⊕aw))=_;rcases zI (H2 (jY t.t.2 t.2.1 row) 0)with k|k<;>rw[k]<;>rfl
 | m+1,i,hm,hi=>by
  have hlt:i<row.length:=by omega
  have h8:=hT.n8;have ih:=BC hw hT hr hl m (i+1) ow ow;have hd:row.drop i=getD row i (zi ze)::row.drop (i+1):=by
   rw[eY hlt,bc,zS hlt];rfl
  rw[hd,xG];have hin:zK (i:Int) t.2.1.length=Q3:=zt ow;have hv:(Di (.h9 row (i:Int) (t,()))).val=if(bif (getD row i (zi ze)).1==0 then(getD t.2.1 i (zi zj)).2.2 else Q4)=Q3 then Q1 (.inr (.int .i64 8,[]))else if(bif (getD row i (zi ze)).1!=0 then(getD row i (zi ze)).1!=(getD t.2.1 i (zi zj)).2.1 else Q4)=Q3 then Q1 (.inr (.int .i64 5,[]))else Q1 (.inl (.h9 row ((i+1:Nat):Int) (t,()))):=by
   simp only[Di,Q8,zC hlt,zt hlt,hin,aG,if_true];rw[zp i um];cases((getD row i (zi ze)).1==0)<;>cases((getD row i (zi ze)).1!=0)<;>rfl
  rcases zI (bif (getD row i (zi ze)).1==0 then(getD t.2.1 i (zi zj)).2.2 else Q4)with c|c
  ·rw[c,if_pos H3]at hv⊢;exact(zU.of hv).mono ow
  ·rw[c,if_neg sw]at hv⊢;rcases zI (bif (getD row i (zi ze)).1!=0 then(getD row i (zi ze)).1!=(getD t.2.1 i (zi zj)).2.1 else Q4)with c2|c2
   ·rw[c2,if_pos H3]at hv⊢;exact(zU.of hv).mono ow
   ·rw[c2,if_neg sw]at hv⊢;exact(zQ.of hv).ends ih
theorem BB{t:Sem zo}{row:List (Sem ze)}(hw:KE t)(hT:oh t)(hr:∀v∈row,l7 v)(hl:row.length=t.2.1.length):∀(m i:Nat),row.length-i=m->i<=row.length->zU Di (m+2+row.length) (.h4 row (i:Int) (t,())) (.int .i64 (fZ t row (row.drop i) (i:Int)),[])
 | 0,i,hm,hi=>by
  obtain rfl:i=row.length:=by omega
  rw[jw];have hv:(Di (.h4 row (row.length:Int) (t,()))).val=Q1 (.inl (.h9 row ((0:Nat):Int) (t,()))):=by
   simp only[Di,Q8,zA];rfl
  have h9:=BC hw hT hr hl row.length 0 ow ow;have e:fZ t row [] (row.length:Int)=ez t row (row.drop 0) ((0:Nat):Int):=by
   rw[fZ];rfl
  rw[e];exact((zQ.of hv).ends h9).mono ow
 | m+1,i,hm,hi=>by
  have hlt:i<row.length:=by omega
  have h8:=hT.n8;have ih:=BB hw hT hr hl m (i+1) ow ow;have hd:row.drop i=getD row i (zi ze)::row.drop (i+1):=by
   rw[eY hlt,bc,zS hlt];rfl
  have hvl:=(hr _ (bL (d:=zi ze) hlt)).2.2;have e:fZ t row (row.drop i) (i:Int)=if(!aR (getD row i (zi ze)))=Q3 then(1:Int)else fZ t row (row.drop (i+1)) ((i+1:Nat):Int):=by
   rw[hd];rw[fZ];rfl
  rw[e];have hv:(Di (.h4 row (i:Int) (t,()))).val=if(!aR (getD row i (zi ze)))=Q3 then Q1 (.inr (.int .i64 1,[]))else Q1 (.inl (.h4 row ((i+1:Nat):Int) (t,()))):=by
   simp only[Di,Q8,zC hlt,zt hlt,aG,if_true,jH hvl,lR hvl];rw[zp i um]
  rcases zI (!aR (getD row i (zi ze)))with c|c
  ·rw[c,if_pos H3]at hv⊢;exact(zU.of hv).mono ow
  ·rw[c,if_neg sw]at hv⊢;exact((zQ.of hv).ends ih).mono ow
theorem Fv{t:Sem zo}{row:List (Sem ze)}(hw:KE t)(hr:∀v∈row,l7 v):Ag t row=Q1 (eb t row,()):=by
 unfold eb;have hi:(zc6 t row).val=if(bif !eD t then Q3 else(row.length:Int)!=(t.2.1.length:Int))=Q3 then Q1 (.inr (.int .i64 1,[]))else Q1 (.inl (.h4 row ((0:Nat):Int) (t,()))):=by
  simp only[zc6,Q8,zk,mO hw,qN hw,if_true];rfl
 rcases zI (bif !eD t then Q3 else(row.length:Int)!=(t.2.1.length:Int))with c|c
 ·rw[if_pos c]at hi⊢;exact zJ hi rfl
 ·rw[if_neg (by rw[c];simp)]at hi⊢;have hm:eD t=Q3:=by
   rcases zI (eD t)with k|k
   ·exact k
   ·rw[k]at c;cases c
  rw[hm]at c;have hl:row.length=t.2.1.length:=by
   have:((row.length:Int)!=(t.2.1.length:Int))=Q4:=c;simp at this;omega
  have hT:=(lm t).1 hm;have h8:=hT.n8;exact zw hi (BB hw hT hr hl row.length 0 ow ow) ow rfl
theorem PN{t:Sem zo}{row:List (Sem ze)}(hw:KE t)(hr:∀v∈row,l7 v):G8 t row=Q3:=by unfold G8;rw[Fv hw hr];rfl
theorem Uj{t:Sem zo}{row:List (Sem ze)}(hw:KE t)(hr:∀v∈row,l7 v):Mb t row=eb t row:=by unfold Mb;rw[Fv hw hr];rfl
theorem eq3(a b:Sem ze):(a.1==b.1&&(a.2.1==b.2.1&&(a.2.2==b.2.2&&Q3)))=Q3↔a=b:=by
 obtain⟨k,n,s⟩:=a;obtain⟨k',n',s'⟩:=b;simp
theorem uz{rows:List (List (Sem ze))}{c:Int}(hc:∀r∈rows,zK c (length r)=Q3)(hl:rows.length<=1000):∃b,uy rows c=Q1 (b,())/\(b=Q4↔ro rows c):=by
 have h2:=ly (t:=DU) (Φ:=λr=>r=(.kb Q3,[])) 1002 (λi=>.h2 rows c (i:Int)) (λi=>∀k,k<i->¬((zR c (getD rows i (zi ze.sl))).1≠0/\zR c (getD rows i (zi ze.sl))=zR c (getD rows k (zi ze.sl)))) rows.length (by
  intro i hi _;have hv:(DU (.h2 rows c (i:Int))).val=Q1 (.inl (.h5 rows c (i:Int) ((0:Nat):Int))):=by
   simp only[DU,Q8,zC hi];rfl
  have h5:=ly (t:=DU) (Φ:=λr=>r=(.kb Q3,[])) 1 (λk=>.h5 rows c (i:Int) (k:Int)) (λk=>¬((zR c (getD rows i (zi ze.sl))).1≠0/\zR c (getD rows i (zi ze.sl))=zR c (getD rows k (zi ze.sl)))) i (by
   intro k hk _;have hk2:k<rows.length:=by omega
   have hv:(DU (.h5 rows c (i:Int) (k:Int))).val=if(bif (zR c (getD rows i (zi ze.sl))).1!=0 then(zR c (getD rows i (zi ze.sl))).1==(zR c (getD rows k (zi ze.sl))).1&&((zR c (getD rows i (zi ze.sl))).2.1==(zR c (getD rows k (zi ze.sl))).2.1&&((zR c (getD rows i (zi ze.sl))).2.2==(zR c (getD rows k (zi ze.sl))).2.2&&Q3))else Q4)=Q3 then Q1 (.inr (.kb Q3,[]))else Q1 (.inl (.h5 rows c (i:Int) ((k+1:Nat):Int))):=by
    simp only[DU,Q8,zC hk,zt hi,zt hk2,hc _ (bL (d:=zi ze.sl) hi),hc _ (bL (d:=zi ze.sl) hk2),aG,if_true];rw[if_pos,zp k um];cases((getD (getD rows i (zi ze.sl)) (toNat c) (zi ze)).1!=0)<;>rfl
   have he:=eq3 (zR c (getD rows i (zi ze.sl))) (zR c (getD rows k (zi ze.sl)));rcases zI ((zR c (getD rows i (zi ze.sl))).1!=0)with d1|d1
   ·have d1':(zR c (getD rows i (zi ze.sl))).1≠0:=bne_iff_ne.1 d1;rcases zI ((zR c (getD rows i (zi ze.sl))).1==(zR c (getD rows k (zi ze.sl))).1&&((zR c (getD rows i (zi ze.sl))).2.1==(zR c (getD rows k (zi ze.sl))).2.1&&((zR c (getD rows i (zi ze.sl))).2.2==(zR c (getD rows k (zi ze.sl))).2.2&&Q3)))with d2|d2
    ·exact .inr ⟨λh=>h ⟨d1',he.1 d2⟩,_,zU.of (by rw[hv,d1,d2,if_pos H3]),rfl⟩
    ·exact .inl ⟨λh=>(by rw[he.2 h.2]at d2;cases d2),zQ.of (by rw[hv,d1,d2,if_neg sw])⟩
   ·refine .inl ⟨λh=>h.1 (by simpa using d1),zQ.of (by rw[hv,d1,if_neg sw])⟩)
  rcases h5 with⟨p5,g5⟩|⟨p5,r,g5,hr⟩
  ·have hv5:(DU (.h5 rows c (i:Int) (i:Int))).val=Q1 (.inl (.h2 rows c ((i+1:Nat):Int))):=by
    simp only[DU,Q8,zA];rw[zp i um];rfl
   exact .inl ⟨p5,(((zQ.of hv).trans g5).trans (zQ.of hv5)).mono ow⟩
  ·exact .inr ⟨p5,r,((zQ.of hv).ends g5).mono ow,hr⟩)
 have hu:(∀i,i<rows.length->∀k,k<i->¬((zR c (getD rows i (zi ze.sl))).1≠0/\zR c (getD rows i (zi ze.sl))=zR c (getD rows k (zi ze.sl))))↔ro rows c:=by
  unfold ro;rw[List.pairwise_iff_getElem];have e:∀i(hi:i<rows.length),getD rows i (zi ze.sl)=rows[i]:=λi hi=>by rw[bc,zS hi,dw]
  constructor
  ·intro h i j hi hj hij hne heq;have:=h j hj i hij;rw[e i hi,e j hj]at this;exact this ⟨by rw[<-heq];exact hne,heq.symm⟩
  ·rintro h i hi k hk ⟨h1,h2⟩;rw[e i hi]at h1 h2;rw[e k ow]at h2;exact h k i ow hi hk (by rw[<-h2];exact h1) h2.symm
 have hi:(zir rows c).val=Q1 (.inl (.h2 rows c ((0:Nat):Int))):=rfl;rcases h2 with⟨p2,g2⟩|⟨p2,r,g2,hr⟩
 ·refine⟨Q4,zw hi (g2.ends (zU.of (r:=(.kb Q4,[])) ?_)) ow rfl,⟨λ_=>hu.1 p2,λ_=>rfl⟩⟩;simp only[DU,Q8,zA];rfl
 ·subst hr;exact⟨Q3,zw hi g2 ow rfl,⟨λh=>(by cases h),λh=>absurd (hu.2 h) p2⟩⟩
theorem J2{t:Sem zo}{row:List (Sem ze)}(hw:KE t)(hm:eD t=Q3)(hk:zK t.2.2.1 row.length=Q3):CC t row=Q1 (zR t.2.2.1 row,()):=by
 unfold CC al cT;have h2:Q0 (LT.lt (α:=Int) t.2.2.1 (row.length:Int))=Q3:=by
  unfold zK at hk;simp only[aC]at hk;exact hk.2
 simp only[zit,Q8,zk,mO hw,qN hw,hm,hk,h2];rfl
theorem J1{t:Sem zo}{row:List (Sem ze)}(hw:KE t)(hm:eD t=Q3)(hk:zK t.2.2.1 row.length=Q3):Hf t row=Q3:=by unfold Hf;rw[J2 hw hm hk];rfl
theorem NY{t:Sem zo}{row:List (Sem ze)}(hw:KE t)(hm:eD t=Q3)(hk:zK t.2.2.1 row.length=Q3):NX t row=zR t.2.2.1 row:=by unfold NX;rw[J2 hw hm hk];rfl
theorem Fx{x:Sem zh}{v:Sem ze}(hw:KE x.1)(hm:eD x.1=Q3)(hk:∀r∈x.2,zK x.1.2.2.1 (length r)=Q3)(hl:x.2.length<=1000):Ai x v=Q1 (zW (λr=>bz r x.1.2.2.1 v) x.2 0,()):=by
 have hh:∀r∈x.2,bz r x.1.2.2.1 v=((zR x.1.2.2.1 r).1==v.1&&((zR x.1.2.2.1 r).2.1==v.2.1&&((zR x.1.2.2.1 r).2.2==v.2.2&&Q3))):=by
  intro r hr;have:=hk r hr;unfold zK at this;simp only[aC]at this;unfold bz;rw[show Q0 (GE.ge (α:=Int) x.1.2.2.1 0)=Q3 from this.1,this.2];rfl
 have hf:=ly (t:=UG) (Φ:=λr=>r=(.int .i64 (zW (λr=>bz r x.1.2.2.1 v) x.2 0),[])) 1 (λi=>.h2 (i:Int) (x,()) (v,())) (λi=>bz (getD x.2 i (zi ze.sl)) x.1.2.2.1 v=Q4) x.2.length (by
  intro i hi hj;have hmem:=bL (d:=zi ze.sl) hi;have hkk:=hk _ hmem;have h2:Q0 (LT.lt (α:=Int) x.1.2.2.1 ((getD x.2 i (zi ze.sl)).length:Int))=Q3:=by
   unfold zK at hkk;simp only[aC]at hkk;exact hkk.2
  have hv:(UG (.h2 (i:Int) (x,()) (v,()))).val=if bz (getD x.2 i (zi ze.sl)) x.1.2.2.1 v=Q3 then Q1 (.inr (.int .i64 i,[]))else Q1 (.inl (.h2 ((i+1:Nat):Int) (x,()) (v,()))):=by
   rw[hh _ hmem];simp only[UG,Q8,zk,zC hi,zt hi,hkk,h2,mO hw,qN hw,hm,aG,ae,if_true,lD];rw[zp i um]
  rcases zI (bz (getD x.2 i (zi ze.sl)) x.1.2.2.1 v)with h|h
  ·have hp:=mD (p:=λr=>bz r x.1.2.2.1 v) (d:=zi ze.sl) x.2 0 i hi h hj;refine .inr ⟨by rw[h];simp,_,zU.of (by rw[hv,if_pos h]),?_⟩;show _=(ai (zW (λr=>bz r x.1.2.2.1 v) x.2 0),[]);rw[hp];simp
  ·exact .inl ⟨h,zQ.of (by rw[hv,if_neg (by rw[h];simp)])⟩)
 have hi:(ziu x v).val=Q1 (.inl (.h2 ((0:Nat):Int) (x,()) (v,()))):=rfl;rcases hf with⟨h1,h2⟩|⟨h1,r,h2,rfl⟩
 ·have hp:=mE (p:=λr=>bz r x.1.2.2.1 v) (d:=zi ze.sl) x.2 0 h1;rw[hp];refine zw hi (h2.ends (zU.of (r:=(.int .i64 (-1),[])) ?_)) ow rfl;simp only[UG,Q8,zA];rfl
 ·exact zw hi h2 ow rfl
theorem PP{x:Sem zh}{v:Sem ze}(hw:KE x.1)(hm:eD x.1=Q3)(hk:∀r∈x.2,zK x.1.2.2.1 (length r)=Q3)(hl:x.2.length<=1000):Hd x v=Q3:=by unfold Hd;rw[Fx hw hm hk hl];rfl
theorem Uk{x:Sem zh}{v:Sem ze}(hw:KE x.1)(hm:eD x.1=Q3)(hk:∀r∈x.2,zK x.1.2.2.1 (length r)=Q3)(hl:x.2.length<=1000):Mc x v=zW (λr=>bz r x.1.2.2.1 v) x.2 0:=by unfold Mc;rw[Fx hw hm hk hl];rfl
structure Qs (x:Sem zh):Prop where
 t:KE x.1
 rows:x.2.length<=1000
 vals:∀r∈x.2,∀v∈(r:List (Sem ze)),l7 v
theorem Qs.short{x:Sem zh}(h:Qs x):gN x:=⟨h.t.nuq,h.t.nrf,h.rows⟩
theorem EY{t:Sem zo}{row:List (Sem ze)}:∀(r:List (Sem ze))(i:Nat),ez t row r (i:Int)=(0:Int)->∀j,j<r.length->(getD t.2.1 (i+j) (zi zj)).2.2=Q3->(getD r j (zi ze)).1≠0
 |[],_,_,j,hj,_=>by simp at hj
 | x::r,i,h,j,hj,hn=>by
  rw[xG]at h;split at h
  ·cases h
  rename_i c;split at h
  ·cases h
  cases j with
  | zero=>
   intro h0;have h0':(x.1==0)=Q3:=by simpa using h0
   rw[h0']at c;exact c hn
  | succ j=>
   have:=EY r (i+1) h j (by simpa using hj) (by rw[show i+1+j=i+(j+1) by omega];exact hn);exact this
theorem E1{t:Sem zo}{row:List (Sem ze)}:∀(r:List (Sem ze))(i:Nat),fZ t row r (i:Int)=(0:Int)->(∀v∈r,aR v=Q3)/\ez t row row ((0:Nat):Int)=(0:Int)
 | [],i,h=>by
  rw[fZ]at h;exact⟨λv hv=>(by cases hv),h⟩
 | x::r,i,h=>by
  have e:fZ t row (x::r) (i:Int)=if(!aR x)=Q3 then(1:Int)else fZ t row r ((i+1:Nat):Int):=by
   rw[fZ];rfl
  rw[e]at h;split at h
  ·cases h
  rename_i c;obtain⟨h1,h2⟩:=E1 r (i+1) h;refine⟨λv hv=>?_,h2⟩;rcases cu.1 hv with rfl|hv
  ·simpa using c
  ·exact h1 v hv
theorem fD{t:Sem zo}{row:List (Sem ze)}(h:eb t row=(0:Int)):row.length=t.2.1.length/\(∀v∈row,aR v=Q3)/\∀j,j<row.length->(getD t.2.1 j (zi zj)).2.2=Q3->(getD row j (zi ze)).1≠0:=by
 have hl:=BD (t:=t) (row:=row) (by simpa using h);unfold eb at h;split at h
 ·cases h
 obtain⟨h1,h2⟩:=E1 row 0 h;refine⟨hl,h1,λj hj hn=>?_⟩;have:=EY row 0 h2 j hj (by rwa [eX]);exact this
theorem B9{a b:Sem ze}(ha:aR a=Q3)(hb:aR b=Q3)(h:bj a b=(0:Int)):a=b:=by
 unfold bj ao at h;rw[ha,hb]at h;have h:Fg [rq a.1 b.1,jX a.2.1 b.2.1,nj a.2.2 b.2.2]=(0:Int):=h;rw[<-LJ]at h;rcases zI (a.1==b.1&&(a.2.1==b.2.1&&(a.2.2==b.2.2&&Q3)))with c|c
 ·exact(eq3 a b).1 c
 ·rw[if_neg (by rw[c];simp)]at h;split at h<;>cases h
theorem Hc{x:Sem zh}(hw:Qs x):∃e:Int,mP x=Q1 (e,())/\(e=0↔eh x):=by
 have hsw:=hw.rows;have hsu:=hw.t.nuq;by_cases hm:eD x.1=Q3
 case neg=>
  have hm':eD x.1=Q4:=by simpa using hm
  refine⟨1,?_,λh=>(by cases h),λh=>absurd h.may hm⟩;unfold mP al cT;simp only[Sx,Q8,zk,mO hw.t,qN hw.t,hm'];rfl
 by_cases hwl:x.2.length<=200
 case neg=>
  refine⟨13,?_,λh=>(by cases h),λh=>absurd h.few hwl⟩;unfold mP al cT;simp only[Sx,Q8,zk,mO hw.t,qN hw.t,hm];rw[if_pos trivial,if_neg sw,if_pos sg];rfl
 have hi:(Sx x).val=Q1 (.inl (.h6 ((0:Nat):Int) (x,()))):=by
  simp only[Sx,Q8,zk,mO hw.t,qN hw.t,hm];rw[if_pos trivial,if_neg sw,if_neg sg];rfl
 obtain⟨hkc,hrc,huc,_,_⟩:=g8 hm;have h6:=ly (t:=pK) (Φ:=U5) 1 (λi=>.h6 (i:Int) (x,())) (λi=>eb x.1 (getD x.2 i (zi ze.sl))=(0:Int)) x.2.length (by
  intro i hi _;have hvr:=hw.vals _ (bL (d:=zi ze.sl) hi);have hv:(pK (.h6 (i:Int) (x,()))).val=if(eb x.1 (getD x.2 i (zi ze.sl))!=0)=Q3 then Q1 (.inr (.int .i64 (eb x.1 (getD x.2 i (zi ze.sl))),[]))else Q1 (.inl (.h6 ((i+1:Nat):Int) (x,()))):=by
   simp only[pK,Q8,zk,zC hi,zt hi,aG,PN hw.t hvr,Uj hw.t hvr,if_true];rw[zp i um]
  by_cases h:eb x.1 (getD x.2 i (zi ze.sl))=(0:Int)
  ·refine .inl ⟨h,zQ.of ?_⟩;rw[hv,if_neg (by rw[h];simp)]
  ·refine .inr ⟨h,_,zU.of (by rw[hv,if_pos (by simpa using h)]),_,rfl,h⟩)
 rcases h6 with⟨hf,h6⟩|⟨hf,r,h6,e,he,hne⟩
 case inr=>
  subst he;exact⟨e,zw hi h6 ow rfl,λh=>absurd h hne,λh=>absurd ((au (Q:=λr=>eb x.1 r=(0:Int))).2 h.fits) hf⟩
 have hfits:=(au (Q:=λr=>eb x.1 r=(0:Int))).1 hf;have hlen:∀r∈x.2,length r=x.1.2.1.length:=λr hr=>(fD (hfits r hr)).1
 have hin:∀c,Dx c x.1.2.1.length->∀r∈x.2,zK c (length r)=Q3:=λc hc r hr=>by
  rw[hlen r hr];exact tX hc
 obtain⟨b,hb,hbu⟩:=uz (rows:=x.2) (c:=x.1.2.2.1) (hin _ hkc) hsw;have hbc:mQ x.2 x.1.2.2.1=Q3:=by unfold mQ;rw[hb];rfl
 have hbv:qP x.2 x.1.2.2.1=b:=by unfold qP;rw[hb];rfl
 have hv6:(pK (.h6 (x.2.length:Int) (x,()))).val=if b=Q3 then Q1 (.inr (.int .i64 7,[]))else Q1 (.inl (.h14 ((0:Nat):Int) (x,()))):=by
  simp only[pK,Q8,zA,hbc,hbv];rfl
 by_cases hb1:b=Q3
 ·refine⟨7,zw hi (h6.ends (zU.of (by rw[hv6,if_pos hb1]))) ow rfl,λh=>(by cases h),λh=>?_⟩;have:=hbu.2 h.key;rw[hb1]at this;cases this
 have hkey:ro x.2 x.1.2.2.1:=hbu.1 (by simpa using hb1);have g14:zQ pK _ (.h6 ((0:Nat):Int) (x,())) _:=h6.trans (zQ.of (by rw[hv6,if_neg hb1]));have h14:=ly (t:=pK) (Φ:=U5) 1 (λi=>.h14 (i:Int) (x,())) (λi=>ro x.2 (getD x.1.2.2.2.1 i (zi zg))) x.1.2.2.2.1.length (by
  intro i hi _;obtain⟨b,hb,hbu⟩:=uz (rows:=x.2) (c:=getD x.1.2.2.2.1 i (zi zg)) (hin _ (huc _ (bL hi))) hsw;have hbc:mQ x.2 (getD x.1.2.2.2.1 i (zi zg))=Q3:=by unfold mQ;rw[hb];rfl
  have hbv:qP x.2 (getD x.1.2.2.2.1 i (zi zg))=b:=by unfold qP;rw[hb];rfl
  have hv:(pK (.h14 (i:Int) (x,()))).val=if b=Q3 then Q1 (.inr (.int .i64 7,[]))else Q1 (.inl (.h14 ((i+1:Nat):Int) (x,()))):=by
   simp only[pK,Q8,zC hi,zt hi,if_true,aG,hbc,hbv];rw[zp i um]
  by_cases h:b=Q3
  ·refine .inr ⟨λhu=>?_,_,zU.of (by rw[hv,if_pos h]),7,rfl,by decide⟩;have:=hbu.2 hu;rw[h]at this;cases this
  ·exact .inl ⟨hbu.1 (by simpa using h),zQ.of (by rw[hv,if_neg h])⟩)
 rcases h14 with⟨hq,h14⟩|⟨hq,r,h14,e,he,hne⟩
 case inr=>
  subst he;exact⟨e,zw hi (g14.ends h14) ow rfl,λh=>absurd h hne,λh=>absurd ((au (Q:=λu=>ro x.2 u)).2 h.uniq) hq⟩
 have huniq:=(au (Q:=λu=>ro x.2 u)).1 hq;have hv14:(pK (.h14 (x.1.2.2.2.1.length:Int) (x,()))).val=Q1 (.inl (.h19 ((0+1:Nat):Int) (x,()))):=by
  simp only[pK,Q8,zA];rfl
 have g19:=(g14.trans h14).trans (zQ.of hv14);have hstep:∀i,i+1<x.2.length->(yg (zR x.1.2.2.1 (getD x.2 i (zi ze.sl))) (zR x.1.2.2.1 (getD x.2 (i+1) (zi ze.sl)))↔Q0 (GT.gt (α:=Int) (bj (zR x.1.2.2.1 (getD x.2 i (zi ze.sl))) (zR x.1.2.2.1 (getD x.2 (i+1) (zi ze.sl)))) 0)=Q4):=by
  intro i h2;have h1:i<x.2.length:=by omega
  have m1:=bL (d:=zi ze.sl) h1;have m2:=bL (d:=zi ze.sl) h2;obtain⟨l1,f1,n1⟩:=fD (hfits _ m1);obtain⟨l2,f2,_⟩:=fD (hfits _ m2);have hT:=(lm x.1).1 hm;obtain⟨k1,k2⟩:=hT.key;have hk1:toNat x.1.2.2.1<(getD x.2 i (zi ze.sl)).length:=by rw[l1];omega
  have hk2:toNat x.1.2.2.1<(getD x.2 (i+1) (zi ze.sl)).length:=by rw[l2];omega
  unfold yg;constructor
  ·intro h;exact aj ow
  ·intro h;have h:¬GT.gt (α:=Int) (bj (zR x.1.2.2.1 (getD x.2 i (zi ze.sl))) (zR x.1.2.2.1 (getD x.2 (i+1) (zi ze.sl)))) 0:=of_decide_eq_false h;by_cases h0:@Eq Int (bj (zR x.1.2.2.1 (getD x.2 i (zi ze.sl))) (zR x.1.2.2.1 (getD x.2 (i+1) (zi ze.sl)))) 0
   ·exfalso;have he:=B9 (f1 _ (bL hk1)) (f2 _ (bL hk2)) h0;have hne:=n1 _ hk1 hT.nn;have hp:=(List.pairwise_iff_getElem.1 hkey) i (i+1) h1 h2 ow;have e1:getD x.2 i (zi ze.sl)=x.2[i]:=by rw[bc,zS h1,dw]
    have e2:getD x.2 (i+1) (zi ze.sl)=x.2[i+1]:=by rw[bc,zS h2,dw]
    rw[e1]at hne he;rw[e2]at he;exact hp hne he
   ·omega
 have h19:=ly (t:=pK) (Φ:=U5) 1 (λi=>.h19 ((i+1:Nat):Int) (x,())) (λi=>yg (zR x.1.2.2.1 (getD x.2 i (zi ze.sl))) (zR x.1.2.2.1 (getD x.2 (i+1) (zi ze.sl)))) (x.2.length-1) (by
  intro i hi _;have h1:i<x.2.length:=by omega
  have h2:i+1<x.2.length:=by omega
  have m1:=bL (d:=zi ze.sl) h1;have m2:=bL (d:=zi ze.sl) h2;have k1:=hin _ hkc _ m1;have k2:=hin _ hkc _ m2;have o1:∀r∈x.2,(zR x.1.2.2.1 r).2.2.length<=1000000:=by
   intro r hr;by_cases h:toNat x.1.2.2.1<length r
   ·exact(hw.vals r hr _ (bL h)).2.2
   ·unfold zR;rw[bc,eE ow];simp[zi]
  have hv:(pK (.h19 ((i+1:Nat):Int) (x,()))).val=if Q0 (GT.gt (α:=Int) (bj (zR x.1.2.2.1 (getD x.2 i (zi ze.sl))) (zR x.1.2.2.1 (getD x.2 (i+1) (zi ze.sl)))) 0)=Q3 then Q1 (.inr (.int .i64 15,[]))else Q1 (.inl (.h19 ((i+1+1:Nat):Int) (x,()))):=by
   simp only[pK,zk,pU i um];simp only[Q8,zC h2,zt h2,zt h1,aG,Prod.eta,J1 hw.t hm k1,J1 hw.t hm k2,NY hw.t hm k1,NY hw.t hm k2,sX (o1 _ m1) (o1 _ m2),wL (o1 _ m1) (o1 _ m2),if_true];rw[zp (i+1) um]
  rcases zI (Q0 (GT.gt (α:=Int) (bj (zR x.1.2.2.1 (getD x.2 i (zi ze.sl))) (zR x.1.2.2.1 (getD x.2 (i+1) (zi ze.sl)))) 0))with c|c
  ·exact .inr ⟨λh=>(by rw[(hstep i h2).1 h]at c;cases c),_,zU.of (by rw[hv,if_pos c]),15,rfl,by decide⟩
  ·exact .inl ⟨(hstep i h2).2 c,zQ.of (by rw[hv,if_neg (by rw[c];simp)])⟩)
 rcases h19 with⟨hr,h19⟩|⟨hr,r,h19,e,he,hne⟩
 case inr=>
  subst he;exact⟨e,zw hi (g19.ends h19) ow rfl,λh=>absurd h hne,λh=>absurd h.rise hr⟩
 have hv19:(pK (.h19 ((x.2.length-1+1:Nat):Int) (x,()))).val=Q1 (.inr (.int .i64 0,[])):=by
  simp only[pK,Q8];rw[if_neg sg]
 exact⟨0,zw hi (g19.ends (h19.ends (zU.of hv19))) ow rfl,λ_=>⟨hm,hwl,hfits,hkey,huniq,hr⟩,λ_=>rfl⟩
theorem J3(s:zD):∀(l:List (Sem zh))(i:Nat),gC s l (i:Int)=zW (λx:Sem zh=>x.1.1==s) l i
 |[],_=>rfl
 | x::r,i=>by
  rw[gC,zW];have h:=J3 s r (i+1);have e:(((i+1:Nat)):Int)=(i:Int)+1:=by omega
  rw[e]at h;by_cases hx:(x.1.1==s)=Q3
  ·rw[if_pos hx,if_pos hx]
  ·rw[if_neg hx,if_neg hx,h]
theorem dr(l:List (Sem zh))(s:zD):lc l s=zX l s:=J3 s l 0
theorem eh.keys{x:Sem zh}(h:eh x):∀r∈x.2,zK x.1.2.2.1 (length r)=Q3:=by
 intro r hr;obtain⟨h1,_⟩:=g8 h.may;rw[(fD (h.fits r hr)).1];exact tX h1
theorem R8(x:Sem zh)(c:Int)(v:Sem ze):Q0 (LT.lt (α:=Int) (zW (λr=>bz r c v) x.2 0) 0)=!gT x c v:=by
 unfold gT;rcases fL (λr=>bz r c v) x.2 0 with h|⟨h,_⟩
 ·rw[h];rfl
 ·have:Q0 (zW (λr=>bz r c v) x.2 0>=0)=Q3:=zx ow;rw[this,aj ow];rfl
theorem Hh{db:List (Sem zh)}(hok:∀x∈db,eh x)(hw:∀x∈db,Qs x)(hl:db.length<=13):∃b,uA db=Q1 (b,())/\(b=Q3↔DZ db):=by
 have h2:=ly (t:=ry) (Φ:=U6) 1010000 (λi=>.h2 db (i:Int)) (λi=>∀f∈(getD db i (zi zh)).1.t.1,LE.le (α:=Int) 0 (zX db f.2)/\∀row∈(getD db i (zi zh)).2,(zR f.1 row).1≠0->gT (aB db f.2) (aB db f.2).1.2.2.1 (zR f.1 row)=true) db.length (by
  intro i hi _;have hm:=bL (d:=zi zh) hi;have s1:=(hw _ hm).t.nrf;have s2:=(hw _ hm).rows;have hcl:=(hok _ hm).cols;generalize hx:getD db i (zi zh)=x at*;have hv:(ry (.h2 db (i:Int))).val=Q1 (.inl (.h5 db (i:Int) ((0:Nat):Int))):=by
   simp only[ry,Q8,zC hi];rfl
  have h5:=ly (t:=ry) (Φ:=U6) 1002 (λk=>.h5 db (i:Int) (k:Int)) (λk=>LE.le (α:=Int) 0 (zX db (getD x.1.t.1 k (zi zu)).2)/\∀row∈x.2,(zR (getD x.1.t.1 k (zi zu)).1 row).1≠0->gT (aB db (getD x.1.t.1 k (zi zu)).2) (aB db (getD x.1.t.1 k (zi zu)).2).1.2.2.1 (zR (getD x.1.t.1 k (zi zu)).1 row)=Q3) x.1.t.1.length (by
   intro k hk _;have hfm:=bL (d:=zi zu) hk;have hcf:=hcl _ hfm;generalize hf:getD x.1.t.1 k (zi zu)=f at*;have hv:(ry (.h5 db (i:Int) (k:Int))).val=if Q0 (LT.lt (α:=Int) (zX db f.2) 0)=Q3 then Q1 (.inr (.kb Q4,[]))else Q1 (.inl (.h12 db (i:Int) (k:Int) (zX db f.2) ((0:Nat):Int) (f,()))):=by
    simp only[ry,Q8,zt hi,aG,hx,zC hk,zt hk,hf,dr,if_true];rfl
   by_cases h1:LE.le (α:=Int) 0 (zX db f.2)
   ·have g1:=zQ.of (t:=ry) (s:=.h5 db (i:Int) (k:Int)) (by rw[hv,if_neg (by rw[aP];omega)]);have hto:aB db f.2∈db:=bL (by
     rcases xy db f.2 with h|⟨_,h⟩
     ·rw[h]at h1;exact absurd h1 (by decide)
     ·omega)
    have htw:=hw _ hto;have hto2:=hok _ hto;have h12:=ly (t:=ry) (Φ:=U6) 1 (λj=>.h12 db (i:Int) (k:Int) (zX db f.2) (j:Int) (f,())) (λj=>(zR f.1 (getD x.2 j (zi ze.sl))).1≠0->gT (aB db f.2) (aB db f.2).1.2.2.1 (zR f.1 (getD x.2 j (zi ze.sl)))=Q3) x.2.length (by
     intro j hj _;have hv:(ry (.h12 db (i:Int) (k:Int) (zX db f.2) (j:Int) (f,()))).val=if(bif (zR f.1 (getD x.2 j (zi ze.sl))).1!=0 then !gT (aB db f.2) (aB db f.2).1.2.2.1 (zR f.1 (getD x.2 j (zi ze.sl)))else Q4)=Q3 then Q1 (.inr (.kb Q4,[]))else Q1 (.inl (.h12 db (i:Int) (k:Int) (zX db f.2) ((j+1:Nat):Int) (f,()))):=by
      simp only[ry,Q8,zk,Prod.eta,zt hi,aG,hx,zC hj,zt hj,hcf _ (bL (d:=zi ze.sl) hj),dA h1,PP htw.t hto2.may hto2.keys htw.rows,if_true,lD];rw[Uk htw.t hto2.may hto2.keys htw.rows,R8];rw[if_pos (by cases((getD (getD x.2 j (zi ze.sl)) (toNat f.1) (zi ze)).1!=0)<;>rfl)];rw[zp j um]
     by_cases d1:(zR f.1 (getD x.2 j (zi ze.sl))).1=0
     ·exact .inl ⟨λh=>absurd d1 h,zQ.of (by rw[hv,if_neg (by rw[d1];simp)])⟩
     ·have d1':((zR f.1 (getD x.2 j (zi ze.sl))).1!=0)=Q3:=by simpa using d1
      by_cases d2:gT (aB db f.2) (aB db f.2).1.2.2.1 (zR f.1 (getD x.2 j (zi ze.sl)))=Q3
      ·exact .inl ⟨λ_=>d2,zQ.of (by rw[hv,if_neg (by rw[d2,d1'];simp)])⟩
      ·exact .inr ⟨λh=>d2 (h d1),_,zU.of (by rw[hv,if_pos (by rw[d1'];simpa using d2)]),rfl⟩)
    rcases h12 with⟨p12,g12⟩|⟨p12,r,g12,hr⟩
    ·have hv2:(ry (.h12 db (i:Int) (k:Int) (zX db f.2) (x.2.length:Int) (f,()))).val=Q1 (.inl (.h5 db (i:Int) ((k+1:Nat):Int))):=by
      simp only[ry,Q8,zt hi,aG,hx,zA];rw[zp k um];rfl
     refine .inl ⟨⟨h1,?_⟩,((g1.trans g12).trans (zQ.of hv2)).mono ow⟩;exact(au (Q:=λrow=>(zR f.1 row).1≠0->gT (aB db f.2) (aB db f.2).1.2.2.1 (zR f.1 row)=Q3)).1 p12
    ·refine .inr ⟨λh=>p12 ?_,r,(g1.ends g12).mono ow,hr⟩;exact(au (Q:=λrow=>(zR f.1 row).1≠0->gT (aB db f.2) (aB db f.2).1.2.2.1 (zR f.1 row)=Q3)).2 h.2
   ·exact .inr ⟨λh=>h1 h.1,_,(zU.of (by rw[hv,if_pos (by rw[aP];omega)])).mono ow,rfl⟩)
  rcases h5 with⟨p5,g5⟩|⟨p5,r,g5,hr⟩
  ·have hv2:(ry (.h5 db (i:Int) (x.1.t.1.length:Int))).val=Q1 (.inl (.h2 db ((i+1:Nat):Int))):=by
    simp only[ry,Q8,zt hi,aG,hx,zA];rw[zp i um];rfl
   refine .inl ⟨?_,(((zQ.of hv).trans g5).trans (zQ.of hv2)).mono ow⟩;exact(au (Q:=λf:Sem zu=>LE.le (α:=Int) 0 (zX db f.2)/\∀row∈x.2,(zR f.1 row).1≠0->gT (aB db f.2) (aB db f.2).1.2.2.1 (zR f.1 row)=Q3)).1 p5
  ·refine .inr ⟨λh=>p5 ?_,r,((zQ.of hv).ends g5).mono ow,hr⟩;exact(au (Q:=λf:Sem zu=>LE.le (α:=Int) 0 (zX db f.2)/\∀row∈x.2,(zR f.1 row).1≠0->gT (aB db f.2) (aB db f.2).1.2.2.1 (zR f.1 row)=Q3)).2 h)
 have hb:(∀i,i<db.length->∀f∈(getD db i (zi zh)).1.t.1,LE.le (α:=Int) 0 (zX db f.2)/\∀row∈(getD db i (zi zh)).2,(zR f.1 row).1≠0->gT (aB db f.2) (aB db f.2).1.2.2.1 (zR f.1 row)=Q3)↔DZ db:=
  au (Q:=λx:Sem zh=>∀f∈x.1.t.1,LE.le (α:=Int) 0 (zX db f.2)/\∀row∈x.2,(zR f.1 row).1≠0->gT (aB db f.2) (aB db f.2).1.2.2.1 (zR f.1 row)=Q3)
 have hi:(zik db).val=Q1 (.inl (.h2 db ((0:Nat):Int))):=rfl;rcases h2 with⟨h2,h3⟩|⟨h2,r,h3,h4⟩
 ·refine⟨Q3,zw hi (h3.ends (zU.of (r:=(.kb Q3,[])) ?_)) ow rfl,λ_=>hb.1 h2,λ_=>rfl⟩;simp only[ry,Q8,zA];rfl
 ·unfold U6 at h4;subst h4;exact⟨Q4,zw hi h3 ow rfl,λh=>(by cases h),λh=>absurd (hb.2 h) h2⟩
theorem Hj{db:List (Sem zh)}(hw:∀x∈db,Qs x):∃e:Int,pF db=Q1 (e,())/\(e=0↔iU db):=by
 by_cases hwl:db.length<=12
 case neg=>
  refine⟨13,?_,λh=>(by cases h),λh=>absurd h.few hwl⟩;unfold pF al cT;simp only[i9p,Q8];rw[if_pos sg];rfl
 have hi:(i9p db).val=Q1 (.inl (.h4 db ((0+1:Nat):Int))):=by
  simp only[i9p,Q8];rw[if_neg sg];rfl
 have h4:=ly (t:=UH) (Φ:=U5) 1 (λi=>.h4 db ((i+1:Nat):Int)) (λi=>Op.bytesLess (getD db i (zi zh)).1.1 (getD db (i+1) (zi zh)).1.1=Q3) (db.length-1) (by
  intro i hi _;have h1:i<db.length:=by omega
  have h2:i+1<db.length:=by omega
  have hv:(UH (.h4 db ((i+1:Nat):Int))).val=if(!Op.bytesLess (getD db i (zi zh)).1.1 (getD db (i+1) (zi zh)).1.1)=Q3 then Q1 (.inr (.int .i64 15,[]))else Q1 (.inl (.h4 db ((i+1+1:Nat):Int))):=by
   simp only[UH,pU i um];simp only[Q8,zC h2,zt h2,zt h1,aG,if_true];rw[zp (i+1) um]
  by_cases h:Op.bytesLess (getD db i (zi zh)).1.1 (getD db (i+1) (zi zh)).1.1=Q3
  ·exact .inl ⟨h,zQ.of (by rw[hv,if_neg (by rw[h];simp)])⟩
  ·exact .inr ⟨h,_,zU.of (by rw[hv,if_pos (by simpa using h)]),15,rfl,by decide⟩)
 rcases h4 with⟨hn,h4⟩|⟨hn,r,h4,e,he,hne⟩
 case inr=>
  subst he;exact⟨e,zw hi h4 ow rfl,λh=>absurd h hne,λh=>absurd h.names hn⟩
 have hv4:(UH (.h4 db ((db.length-1+1:Nat):Int))).val=Q1 (.inl (.h9 db ((0:Nat):Int))):=by
  simp only[UH,Q8];rw[if_neg sg];rfl
 have g9:=h4.trans (zQ.of hv4);have h9:=ly (t:=UH) (Φ:=U5) 1 (λi=>.h9 db (i:Int)) (λi=>eh (getD db i (zi zh))) db.length (by
  intro i hi _;obtain⟨e,he,heq⟩:=Hc (hw _ (bL (d:=zi zh) hi));have hc:CA (getD db i (zi zh))=Q3:=by unfold CA;rw[he];rfl
  have hv0:Hb (getD db i (zi zh))=e:=by unfold Hb;rw[he];rfl
  have hv:(UH (.h9 db (i:Int))).val=if(e !=0)=Q3 then Q1 (.inr (.int .i64 e,[]))else Q1 (.inl (.h9 db ((i+1:Nat):Int))):=by
   simp only[UH,Q8,zk,zC hi,zt hi,aG,if_true,Prod.eta,hc,hv0];rw[zp i um]
  by_cases h:e=0
  ·exact .inl ⟨heq.1 h,zQ.of (by rw[hv,if_neg (by rw[h];simp)])⟩
  ·exact .inr ⟨λhr=>h (heq.2 hr),_,zU.of (by rw[hv,if_pos (by simpa using h)]),e,rfl,h⟩)
 rcases h9 with⟨hr,h9⟩|⟨hr,r,h9,e,he,hne⟩
 case inr=>
  subst he;exact⟨e,zw hi (g9.ends h9) ow rfl,λh=>absurd h hne,λh=>absurd ((au (Q:=eh)).2 h.rels) hr⟩
 have hrels:=(au (Q:=eh)).1 hr;obtain⟨b,hb,hbb⟩:=Hh (db:=db) hrels hw ow;have hc:CD db=Q3:=by unfold CD;rw[hb];rfl
 have hv0:Hg db=b:=by unfold Hg;rw[hb];rfl
 have hv9:(UH (.h9 db (db.length:Int))).val=if(!b)=Q3 then Q1 (.inr (.int .i64 10,[]))else Q1 (.inr (.int .i64 0,[])):=by
  simp only[UH,Q8,zA,hc,hv0];rfl
 by_cases h:b=Q3
 ·exact⟨0,zw hi (g9.ends (h9.ends (zU.of (by rw[hv9,if_neg (by rw[h];simp)])))) ow rfl,λ_=>⟨hwl,hn,hrels,hbb.1 h⟩,λ_=>rfl⟩
 ·exact⟨10,zw hi (g9.ends (h9.ends (zU.of (by rw[hv9,if_pos (by simpa using h)])))) ow rfl,λh=>(by cases h),λhB=>absurd (hbb.2 hB.bound) h⟩
theorem BO(x:Int):∀(l:List Int)(i:Nat),(∃j,∃hj:j<l.length,eH x l (i:Int)=((i+j:Nat):Int)/\l[j]=x/\∀k(hk:k<j),l[k]≠x)\/(eH x l (i:Int)=(-1:Int)/\x∉l)
 |[],i=>.inr ⟨rfl,sw⟩
 | a::r,i=>by
  rw[eH];by_cases h:x=a
  ·rw[if_pos (by simpa using h)];exact .inl ⟨0,sw,sw,h.symm,λk hk=>absurd hk ow⟩
  ·rw[if_neg (by simpa using h),show((i:Int)+1)=((i+1:Nat):Int) by omega];rcases BO x r (i+1)with⟨j,hj,h1,h2,h3⟩|⟨h1,h2⟩
   ·refine .inl ⟨j+1,by simpa using hj,by rw[h1];congr 1;omega,h2,λk hk=>?_⟩;cases k with
    |zero=>exact λe=>h e.symm
    |succ k=>exact h3 k ow
   ·exact .inr ⟨h1,by simp[h2,h]⟩
theorem SH(l:List Int)(x:Int):(∃j,∃hj:j<l.length,g6 l x=(j:Int)/\l[j]=x/\∀k(hk:k<j),l[k]≠x)\/(g6 l x=(-1:Int)/\x∉l):=by
 rcases BO x l 0 with⟨j,hj,h1,h2⟩|h
 ·exact .inl ⟨j,hj,by show eH x l ((0:Nat):Int)=_;rw[h1,eX],h2⟩
 ·exact .inr h
def X1(c:Sem zj):Prop:=zO c.1=Q3/\LE.le (α:=Int) 1 c.2.1/\LE.le (α:=Int) c.2.1 3
theorem oh.col{t:Sem zo}(h:oh t):∀c∈t.2.1,X1 c:=by
 intro c hc;obtain⟨i,hi,rfl⟩:=fW hc;have:=h.cols i hi;rw[bc,zS hi,dw]at this;exact⟨this.1,this.2.1,this.2.2.1⟩
theorem TY{t:Sem zo}{s:zD}(h:¬LT.lt (α:=Int) (zT t s) 0):toNat (zT t s)<t.2.1.length:=by
 rcases vl t s with h1|⟨h1,h2⟩
 ·rw[h1]at h;simp at h
 ·omega
theorem oh.at{t:Sem zo}(h:oh t){s:zD}(hs:¬LT.lt (α:=Int) (zT t s) 0):X1 (getD t.2.1 (toNat (zT t s)) (zi zj)):=h.col _ (tS _ _ (TY hs))
theorem I6{db:List (Sem zh)}{n:zD}(hB:iU db)(h:(0:Int)<=zX db n):oh (az db n):=(lm _).1 (hB.rels _ (mC h)).may
theorem Fj{t:Sem zo}{names:List zD}(h:gq t names=0):(∀s∈names,¬LT.lt (α:=Int) (zT t s) 0)/\(kP t names).Nodup:=by
 unfold gq at h;split at h
 ·rename_i h1;split at h
  ·exact⟨h1,by assumption⟩
  ·cases h
 ·cases h
theorem Py{s:Sem zl}(hw:oI s)(hst:dZ s=Q3)(hm:jC s.1):zO s.2.1=Q3/\bT s.t.t.1=Q3/\(s.1=[99,111,112,121]->1<=s.2.2.2.1.length/\s.2.2.2.1.length<=8)/\(s.1=[106,111,105,110]->zO s.t.t.t=Q3)/\(s.1=[103,114,111,117,112]->s.2.2.2.1.length=2):=by
 have hp:=lV hst;rcases hm with o|o|o
 ·rw[NO hw o]at hp;simp only[aC,kR,aP]at hp;exact⟨hp.2.1,hp.1.2.1,λ_=>hp.1.1.2,λk=>(by rw[o]at k;cases k),λk=>(by rw[o]at k;cases k)⟩
 ·rw[NP hw o]at hp;simp only[aC,nI]at hp;exact⟨hp.2.1,hp.1.1,λk=>(by rw[o]at k;cases k),λ_=>hp.1.2.2.1,λk=>(by rw[o]at k;cases k)⟩
 ·rw[JJ hw o]at hp;simp only[aC,gI,aP]at hp;exact⟨hp.2.1,hp.1.2.1,λk=>(by rw[o]at k;cases k),λk=>(by rw[o]at k;cases k),λ_=>hp.1.1⟩
abbrev rN(e:Int):aw:=(.tup [zPl,.int .i64 e],[])
def vH(r:aw)(x:Int×Sem zr):Prop:=aL r.2 [zr,zg] r.1=Q1 (x.2,x.1,())
theorem dQ(e:Int):vH (rN e) (e,jF):=rfl
theorem zdy(st:Nat->kz)(R:aw){p:Sem zr}(hR:vH R (0,p))
  (hv:∀i,i<=p.2.2.2.1.2.1.length->(du (st i)).val=if i<p.2.2.2.1.2.1.length then(if ah p.2.2.2.1.2.1 (getD p.2.2.2.1.2.1 i (zi zj)).1=(i:Int)then Q1 (.inl (st (i+1)))else Q1 (.inr (rN 7)))else(if rr p.2.2.2.1.t.2 p.2.2.2.1.2.1=0 then Q1 (.inr R)else Q1 (.inr (rN (rr p.2.2.2.1.t.2 p.2.2.2.1.2.1))))):
  ∃r,zU du (p.2.2.2.1.2.1.length*1+1) (st 0) r/\vH r (jB 0 p):=by
 have hT:vo p.2.2.2.1=if∃i,i<length p.2.2.2.1.2.1/\zT p.2.2.2.1 (getD p.2.2.2.1.2.1 i (zi zj)).1≠(i:Int)then 7 else rr p.2.2.2.1.t.2 p.2.2.2.1.2.1:=rfl
 unfold jB;rw[if_pos rfl,hT]
 rcases ly (t:=du) (Φ:=λr=>r=rN 7) 1 st (λi=>ah p.2.2.2.1.2.1 (getD p.2.2.2.1.2.1 i (zi zj)).1=(i:Int)) p.2.2.2.1.2.1.length (λi hi _=>by
  have h:=hv i ow;rw[if_pos hi]at h;by_cases c:ah p.2.2.2.1.2.1 (getD p.2.2.2.1.2.1 i (zi zj)).1=(i:Int)
  ·exact .inl ⟨c,zQ.of (by rw[h,if_pos c])⟩
  ·exact .inr ⟨c,_,zU.of (by rw[h,if_neg c]),rfl⟩)with⟨h1,h2⟩|⟨h1,r,h2,rfl⟩
 ·have hn:¬∃i,i<length p.2.2.2.1.2.1/\zT p.2.2.2.1 (getD p.2.2.2.1.2.1 i (zi zj)).1≠(i:Int):=by
   rintro⟨i,hi,hne⟩;exact hne (h1 i hi)
  rw[if_neg hn];have h:=hv _ (aA _);rw[if_neg (Nat.lt_irrefl _)]at h;by_cases c:rr p.2.2.2.1.t.2 p.2.2.2.1.2.1=0
  ·rw[if_pos c]at h⊢;exact⟨_,(h2.ends (zU.of h)).mono ow,hR⟩
  ·rw[if_neg c]at h⊢;exact⟨_,(h2.ends (zU.of h)).mono ow,dQ _⟩
 ·have hy:∃i,i<length p.2.2.2.1.2.1/\zT p.2.2.2.1 (getD p.2.2.2.1.2.1 i (zi zj)).1≠(i:Int):=by
   apply mq;intro hn;refine h1 λi hi=>?_
   apply mq;exact λhc=>hn ⟨i,hi,hc⟩
  rw[if_pos hy,if_neg (by decide)];exact⟨_,h2.mono ow,dQ _⟩
structure AE (s:Sem zl):Prop where
 wf:sb s.t.t.1
 may:(s.t.t.1.op==[])=Q4->de s.t.t.1=Q3
abbrev plQ(z:zm OT):Sem zr:=(z.1,z.2.1,z.2.2.1,(z.2.2.2.1,z.t.1,z.t.2.1,[],[],z.t.q.1),z.t.q.2.1,z.t.t.1)
theorem zjw{s:Sem zl}(hs:AE s)(z1:zm jP)(z:zm zcq)(hz:z.t.q.1=s.t.t.1)(hl:length z.t.1<=1000):
  ∃r,zU du (length z.t.1*1+1) (.h64 ((0:Nat):Int) (s,()) z1 z) r/\vH r (jB 0 (plQ z)):=by
 obtain⟨k1,k2⟩:=CB (cols:=z.t.1) hs.wf ow hs.may;refine zdy (p:=plQ z) (λi=>.h64 (i:Int) (s,()) z1 z) ?R ?h ?v
 case v=>
  intro i hi;by_cases h:i<length z.t.1
  ·have e1:dC z.t.1 (getD z.t.1 i (zi zj)).1=Q3:=je ow;have e2:eK z.t.1 (getD z.t.1 i (zi zj)).1=ah z.t.1 (getD z.t.1 i (zi zj)).1:=kq ow;rw[if_pos h];simp only[du,rE,Q8,zC h,zt h,aG,e1,e2,if_true];rw[zp i um];by_cases c:ah z.t.1 (getD z.t.1 i (zi zj)).1=(i:Int)
   ·rw[if_pos c,if_neg (by simpa using c)]
   ·rw[if_neg c,if_pos (by simpa using c)]
  ·obtain rfl:i=length z.t.1:=Nat.le_antisymm hi ow;rw[if_neg h];show(du (.h64 _ _ _ _)).val=if rr z.t.q.1 z.t.1=0 then Q1 (Sum.inr _)else Q1 (Sum.inr (rN (rr z.t.q.1 z.t.1)))
   rw[hz];simp only[du,rE,Q8,zA,zk,k1,k2,if_true,zB,if_false];by_cases c:rr s.t.t.1 z.t.1=0
   ·rw[if_pos c,if_neg (by simpa using c)]
   ·rw[if_neg c,if_pos (by simpa using c)]
 case h=>
  unfold vH;obtain⟨z0,z1,z2,z3,z4,z5,e,z7,z8,z9⟩:=z;cases e;rfl
theorem zjx{s:Sem zl}(hs:AE s)(z1:zm jP)(z:zm OT)(hz:z.t.q.1=s.t.t.1)(hl:length z.t.1<=1000):
  ∃r,zU du (length z.t.1*1+1) (.h64bb ((0:Nat):Int) (s,()) z1 z) r/\vH r (jB 0 (plQ z)):=by
 obtain⟨k1,k2⟩:=CB (cols:=z.t.1) hs.wf ow hs.may;refine zdy (p:=plQ z) (λi=>.h64bb (i:Int) (s,()) z1 z) ?R ?h ?v
 case v=>
  intro i hi;by_cases h:i<length z.t.1
  ·have e1:dC z.t.1 (getD z.t.1 i (zi zj)).1=Q3:=je ow;have e2:eK z.t.1 (getD z.t.1 i (zi zj)).1=ah z.t.1 (getD z.t.1 i (zi zj)).1:=kq ow;rw[if_pos h];simp only[du,rE,Q8,zC h,zt h,aG,zx h,e1,e2,if_true];rw[zp i um];by_cases c:ah z.t.1 (getD z.t.1 i (zi zj)).1=(i:Int)
   ·rw[if_pos c,if_neg (by simpa using c)]
   ·rw[if_neg c,if_pos (by simpa using c)]
  ·obtain rfl:i=length z.t.1:=Nat.le_antisymm hi ow;rw[if_neg h];show(du (.h64bb _ _ _ _)).val=if rr z.t.q.1 z.t.1=0 then Q1 (Sum.inr _)else Q1 (Sum.inr (rN (rr z.t.q.1 z.t.1)))
   rw[hz];simp only[du,rE,Q8,zA,zk,k1,k2,if_true,zB,if_false];by_cases c:rr s.t.t.1 z.t.1=0
   ·rw[if_pos c,if_neg (by simpa using c)]
   ·rw[if_neg c,if_pos (by simpa using c)]
 case h=>
  unfold vH;obtain⟨z0,z1,z2,z3,z4,z5,e,z7,z8,z9⟩:=z;cases e;rfl
theorem zjy{s:Sem zl}(hs:AE s)(z1:zm jP)(z:zm Rg)(hz:z.t.q.1=s.t.t.1)(hl:length z.t.1<=1000):
  ∃r,zU du (length z.t.1*1+1) (.h64bbb ((0:Nat):Int) (s,()) z1 z) r/\vH r (jB 0 (plQ z)):=by
 obtain⟨k1,k2⟩:=CB (cols:=z.t.1) hs.wf ow hs.may;refine zdy (p:=plQ z) (λi=>.h64bbb (i:Int) (s,()) z1 z) ?R ?h ?v
 case v=>
  intro i hi;by_cases h:i<length z.t.1
  ·have e1:dC z.t.1 (getD z.t.1 i (zi zj)).1=Q3:=je ow;have e2:eK z.t.1 (getD z.t.1 i (zi zj)).1=ah z.t.1 (getD z.t.1 i (zi zj)).1:=kq ow;rw[if_pos h];simp only[du,rE,Q8,zC h,zt h,aG,zx h,e1,e2,if_true];rw[zp i um];by_cases c:ah z.t.1 (getD z.t.1 i (zi zj)).1=(i:Int)
   ·rw[if_pos c,if_neg (by simpa using c)]
   ·rw[if_neg c,if_pos (by simpa using c)]
  ·obtain rfl:i=length z.t.1:=Nat.le_antisymm hi ow;rw[if_neg h];show(du (.h64bbb _ _ _ _)).val=if rr z.t.q.1 z.t.1=0 then Q1 (Sum.inr _)else Q1 (Sum.inr (rN (rr z.t.q.1 z.t.1)))
   rw[hz];simp only[du,rE,Q8,zA,zk,k1,k2,if_true,zB,if_false];by_cases c:rr s.t.t.1 z.t.1=0
   ·rw[if_pos c,if_neg (by simpa using c)]
   ·rw[if_neg c,if_pos (by simpa using c)]
 case h=>
  unfold vH;obtain⟨z0,z1,z2,z3,z4,z5,e,z7,z8,z9⟩:=z;cases e;rfl
def rP(k:Int)(l:List Int):Nat->Int
 |0=>-1
 |i+1=>if l.getD i 0=k then(i:Int)else rP k l i
theorem Jr{k:Int}{l:List Int}{j:Nat}(hj:j<l.length)(hk:l[j]=k)(hn:l.Nodup):∀i,i<=l.length->rP k l i=if j<i then(j:Int)else -1
 |0,_=>rfl
 | i+1,hi=>by
  rw[rP,Jr hj hk hn i ow,bc,zS (by omega:i<l.length),dw];by_cases h:l[i]=k
  ·have:i=j:=by
    rcases Nat.lt_trichotomy i j with c|c|c
    ·exact absurd (h.trans hk.symm) (List.pairwise_iff_getElem.1 hn i j ow hj c)
    ·exact c
    ·exact absurd (hk.trans h.symm) (List.pairwise_iff_getElem.1 hn j i hj ow c)
   rw[if_pos h,if_pos ow,this]
  ·rw[if_neg h];by_cases c:j<i
   ·rw[if_pos c,if_pos ow]
   ·have:j≠i:=by rintro rfl;exact h hk
    rw[if_neg c,if_neg ow]
theorem Js{k:Int}{l:List Int}(hk:k∉l):∀i,i<=l.length->rP k l i=-1
 |0,_=>rfl
 | i+1,hi=>by
  rw[rP,Js hk i ow,bc,zS (by omega:i<l.length),dw,if_neg];rintro rfl;exact hk (bd _)
theorem S9{k:Int}{l:List Int}(hn:l.Nodup):rP k l l.length=g6 l k:=by
 rcases SH l k with⟨j,hj,h1,h2,_⟩|⟨h1,h2⟩
 ·rw[h1,Jr hj h2 hn _ (aA _),if_pos hj]
 ·rw[h1,Js h2 _ (aA _)]
theorem znr{s:Sem zl}(hs:AE s)(z1:zm jP){t:Sem zo}{a b c d:zD}{l:List Int}{on:Int}(hl:l.length<=1000)(hn:l.Nodup)(hin:∀x∈l,zK x t.2.1.length=Q3):
  ∃r k,zU du k (.h24 ((0:Nat):Int) (s,()) z1 (a,b,c,d,[],-1,s.t.t.1,l,on,()) (t,())) r/\k<=10000/\
   vH r (jB (if LT.lt (α:=Int) (g6 l t.2.2.1) 0 then 1 else 0) (a,b,c,(d,l.map (λx=>getD t.2.1 (toNat x) (zi zj)),g6 l t.2.2.1,[],[],s.t.t.1),l,on)):=by
 have hg:=zQ.all (t:=du) 1 (λi=>.h24 (i:Int) (s,()) z1 (a,b,c,d,(l.take i).map (λx=>getD t.2.1 (toNat x) (zi zj)),rP t.2.2.1 l i,s.t.t.1,l,on,()) (t,())) l.length (by
  intro i hi;refine zQ.of ?_;have e1:getD l ((i:Int).toNat) (zi zg)=l[i]:=zM l _ hi;have e2:zK l[i] t.2.1.length=Q3:=hin _ (bd hi);have e3:rP t.2.2.1 l (i+1)=if l[i]=t.2.2.1 then(i:Int)else rP t.2.2.1 l i:=by
   rw[rP,bc,zS hi,dw]
  have e5:Q0 (length ((l.take i).map (λx=>getD t.2.1 (toNat x) (zi zj)))+length [getD t.2.1 (toNat l[i]) (zi zj)]<=1073741824)=Q3:=zx sg;simp only[du,rE,Q8,zC hi,zt hi,e1,e2,e5,if_true];rw[zp i um,bV hi,iP,e3];by_cases k:l[i]=t.2.2.1
  ·rw[if_pos k,if_pos (by simpa using k)];rfl
  ·rw[if_neg k,if_neg (by simpa using k)];rfl)
 rw[jx,S9 hn]at hg;by_cases h:LT.lt (α:=Int) (g6 l t.2.2.1) 0
 ·rw[if_pos h];refine⟨rN 1,_,hg.ends (zU.of ?_),ow,dQ 1⟩;simp only[du,rE,Q8,zA,zx h,if_true,zB,if_false]
 ·rw[if_neg h];obtain⟨r,h1,h2⟩:=zjx hs z1 (a,b,c,d,l.map (λx=>getD t.2.1 (toNat x) (zi zj)),g6 l t.2.2.1,s.t.t.1,l,on,()) rfl (by simpa using hl);refine⟨r,_,hg.ends ((zQ.of ?_).ends h1),sg,h2⟩;simp only[du,rE,Q8,zA,aj h,zB,if_false];rfl
theorem xL(a:Int)(b:zD):∀(l:List (Sem zu))(i:Nat),GE.ge (α:=Int) (iv a b l (i:Int)) 0↔(a,b)∈l
 | [],i=>by
  rw[iv];exact⟨λh=>absurd h (by decide),λh=>by cases h⟩
 | x::r,i=>by
  rw[iv];split
  ·rename_i h;have:(a,b)=x:=by
    simp only[Bool.and_true,aC,bf]at h;exact Prod.ext h.1 h.2
   rw[<-this];exact⟨λ_=>xn,λ_=>Int.natCast_nonneg i⟩
  ·rename_i h;have:=xL a b r (i+1);rw[tq]at this;rw[cu];refine⟨λh2=>.inr (this.1 h2),λh2=>this.2 (h2.resolve_left ?_)⟩;rintro rfl;simp at h
theorem sK(l:List (Sem zu))(x:Sem zu):jR l x=Q3↔x∈l:=by
 unfold jR;rw[Ip];exact xL x.1 x.2 l 0
def kM(on:Int)(w:zD)(l:List (Sem zu)):Bool:=l.any λf=>f.1==on&&f.2==w
theorem Lk(on:Int)(w:zD)(l:List (Sem zu)):kM on w l=jR l (on,w):=by
 apply ip.2;rw[sK];unfold kM;rw[List.any_eq_true];constructor
 ·rintro⟨f,hf,h⟩;simp only[aC,bf]at h;have:f=(on,w):=Prod.ext h.1 h.2
  rwa [this]at hf
 ·intro h;exact⟨_,h,sw⟩
theorem xI(on:Int)(w:zD)(l:List (Sem zu))(f:Sem zu):kM on w (l++[f])=bif kM on w l then Q3 else bif f.1==on then f.2==w else Q4:=by
 unfold kM;simp only[List.any_append,List.any_cons,List.any_nil,Bool.or_false];cases(l.any λf=>f.1==on&&f.2==w)<;>cases(f.1==on)<;>rfl
theorem znt{s:Sem zl}(hs:AE s)(z1:zm jP){t u:Sem zo}{a b c d:zD}{on:Int}(ht:t.2.1.length<=100)(hu:u.2.1.length<=100):
  ∃r k,zU du k (.h48 ((0:Nat):Int) (s,()) z1 (a,b,c,d,t.2.1,t.2.2.1,s.t.t.1,[],on,()) (u,())) r/\k<=10000/\
   vH r (jB 0 (a,b,c,(d,t.2.1++gB u (length u.2.1),t.2.2.1,[],[],s.t.t.1),j8 u.2.2.1 (length u.2.1),on)):=by
 have hg:=zQ.all (t:=du) 1 (λi=>.h48 (i:Int) (s,()) z1 (a,b,c,d,t.2.1++gB u i,t.2.2.1,s.t.t.1,j8 u.2.2.1 i,on,()) (u,())) u.2.1.length (by
  intro i hi;refine zQ.of ?_;have hoth:=pm u.2.2.1 i;have hsucc:=Fh u.2.2.1 i;have l1:(j8 u.2.2.1 i).length<=100:=by unfold j8;rw[cV];omega
  have l2:(gB u i).length<=100:=by unfold gB;rw[cV];omega
  simp only[du,Q8,zC hi,zt hi,if_true,zM _ _ hi];rw[zp i um];by_cases k:((i:Int)!=u.2.2.1)=Q3
  ·rw[if_pos k]at hsucc;rw[if_pos k,if_pos sg,if_pos sg,gB,gB,j8,j8,hsucc,iP,iP,<-xq];simp[zS hi]
  ·rw[if_neg k]at hsucc;rw[if_neg k,gB,gB,j8,j8,hsucc])
 have l1:(gB u (length u.2.1)).length<=100:=by have:=pm u.2.2.1 (length u.2.1);unfold gB;rw[cV];omega
 obtain⟨r,h1,h2⟩:=zjy hs z1 (a,b,c,d,t.2.1++gB u (length u.2.1),t.2.2.1,s.t.t.1,j8 u.2.2.1 (length u.2.1),on,()) rfl sg;have h3:zQ du 1 (.h48 (u.2.1.length:Int) (s,()) z1 (a,b,c,d,t.2.1++gB u (length u.2.1),t.2.2.1,s.t.t.1,j8 u.2.2.1 (length u.2.1),on,()) (u,())) (.h64bbb ((0:Nat):Int) (s,()) z1 (a,b,c,d,t.2.1++gB u (length u.2.1),t.2.2.1,s.t.t.1,j8 u.2.2.1 (length u.2.1),on,())):=zQ.of (by
  simp only[du,Q8,zA];rfl)
 have h0:t.2.1++gB u 0=t.2.1:=rF _;have h5:=hg.ends (h3.ends h1);rw[h0]at h5;exact⟨r,_,h5,sg,h2⟩
theorem zns{s:Sem zl}(hs:AE s)(z1:zm jP){t u:Sem zo}{a b c d:zD}{k0 on:Int}(ht:t.2.1.length<=100)(hu:u.2.1.length<=100)(hr:t.t.1.length<=1000):
  ∃r k,zU du k (.h38 ((0:Nat):Int) (s,()) z1 (a,b,c,d,k0,s.t.t.1,on,()) (t,()) (u,())) r/\k<=20000/\
   vH r (jB (if jR t.t.1 (on,s.t.t.t)=Q3 then(if LT.lt (α:=Int) 9 ((length t.2.1:Int)+(length u.2.1:Int))then 13 else 0)else 10) (a,b,c,(d,t.2.1++gB u (length u.2.1),t.2.2.1,[],[],s.t.t.1),j8 u.2.2.1 (length u.2.1),on)):=by
 rw[<-Lk];by_cases h0:0<t.t.1.length
 ·have hg0:zQ du 1 (.h38 ((0:Nat):Int) (s,()) z1 (a,b,c,d,k0,s.t.t.1,on,()) (t,()) (u,())) (.h38b (kM on s.t.t.t (t.t.1.take (0+1))) ((0+1:Nat):Int) (s,()) z1 (a,b,c,d,k0,s.t.t.1,on,()) (t,()) (u,())):=zQ.of (by
   have e:t.t.1.take (0+1)=[]++[t.t.1[0]]:=bV h0;rw[e,xI];simp only[du,rE,Q8,zC h0,zt h0,if_true,zM _ _ h0];rw[zp 0 um];cases((t.t.1[0]).1==on)<;>rfl)
  have hg:=zQ.all (t:=du) 1 (λi=>.h38b (kM on s.t.t.t (t.t.1.take (i+1))) ((i+1:Nat):Int) (s,()) z1 (a,b,c,d,k0,s.t.t.1,on,()) (t,()) (u,())) (t.t.1.length-1) (by
   intro i hi;have hi:i+1<t.t.1.length:=by omega
   refine zQ.of ?_;rw[bV hi,xI];simp only[du,rE,Q8,zC hi,zt hi,zM _ _ hi];rw[zp (i+1) um];cases kM on s.t.t.t (t.t.1.take (i+1))<;>cases((t.t.1[i+1]).1==on)<;>rfl)
  have hn:t.t.1.length-1+1=t.t.1.length:=by omega
  rw[hn,jx]at hg;have hw:IntKind.i64.wrap ((↑(length t.2.1):Int)+(↑(length u.2.1):Int))=(↑(length t.2.1):Int)+(↑(length u.2.1):Int):=lw _ ow ow;by_cases hf:kM on s.t.t.t t.t.1=Q3
  ·rw[if_pos hf];by_cases h9:LT.lt (α:=Int) 9 ((length t.2.1:Int)+(length u.2.1:Int))
   ·rw[if_pos h9];refine⟨rN 13,_,(hg0.trans hg).ends (zU.of ?_),ow,dQ 13⟩;simp only[du,rE,Q8,zA,hf,hw,bG,zB,if_false];rw[if_pos (by simpa using h9)]
   ·rw[if_neg h9];obtain⟨r,k,h1,h2,h3⟩:=znt hs z1 (a:=a) (b:=b) (c:=c) (d:=d) (on:=on) ht hu;refine⟨r,_,(hg0.trans hg).ends ((zQ.of ?_).ends h1),ow,h3⟩;simp only[du,rE,Q8,zA,hf,hw,bG,zB,if_false];rw[if_neg (by simpa using h9),if_pos sg];rfl
  ·rw[if_neg hf];have hf:kM on s.t.t.t t.t.1=Q4:=by simpa using hf
   refine⟨rN 10,_,(hg0.trans hg).ends (zU.of ?_),ow,dQ 10⟩;simp only[du,rE,Q8,zA,hf,cC,if_true,zB,if_false]
 ·have hnil:t.t.1=[]:=yk ow;rw[hnil,if_neg (by unfold kM;simp)];refine⟨rN 10,1,zU.of ?_,ow,dQ 10⟩;simp only[du,rE,Q8,hnil];rfl
theorem yI{e:Int}{p:Sem zr}(h:e≠0):jB e p=(e,jF):=by unfold jB;rw[if_neg h]
theorem Rf(t:Sem zo)(names:List zD):gz t names=(kP t names).map λx=>getD t.2.1 (toNat x) (zi zj):=by
 unfold gz kP;rw[oS];rfl
theorem of7{db:List (Sem zh)}{s:Sem zl}(hB:iU db)(hw:oI s)(hst:dZ s=Q3)(hm:jC s.1)(hb:kC db=(0:Int))(hdb:∀x∈db,Qs x)(z1:zm jP):
  ∃r k,zU du k (.h7 db (bH s.2.2.1 s.t.t.t) ((0:Nat):Int) (s,()) z1 (s.1,s.2.2.1,s.t.t.t,s.2.1,0,s.t.t.1,0,())) r/\k<=90000/\vH r (aW db s):=by
 obtain⟨hnm,hmb,m1,m2,m3⟩:=Py hw hst hm;have hs:AE s:=⟨hw.chk,λh=>by
  unfold bT at hmb;rcases zI (gX s.t.t.1)with c|c
  ·rw[kg.1 c]at h;cases h
  ·rw[c]at hmb;exact hmb⟩
 have hP:aW db s=if nX db s.2.2.1 s.t.t.t s.2.1=0 then dj db s else(nX db s.2.2.1 s.t.t.t s.2.1,jF):=by
  unfold aW;rw[if_pos ⟨hm,hst,hb⟩]
 have hnl:(bH s.2.2.1 s.t.t.t).length<=2:=by unfold bH;split<;>simp
 rw[hP];clear hP
 rcases ly (t:=du) (Φ:=λr=>r=rN 6) 1 (λi=>.h7 db (bH s.2.2.1 s.t.t.t) (i:Int) (s,()) z1 (s.1,s.2.2.1,s.t.t.t,s.2.1,0,s.t.t.1,0,())) (λi=>∀h:i<(bH s.2.2.1 s.t.t.t).length,LE.le (α:=Int) 0 (zX db (bH s.2.2.1 s.t.t.t)[i])) (bH s.2.2.1 s.t.t.t).length (λi hi _=>by
  have hv:(du (.h7 db (bH s.2.2.1 s.t.t.t) (i:Int) (s,()) z1 (s.1,s.2.2.1,s.t.t.t,s.2.1,0,s.t.t.1,0,()))).val=if LT.lt (α:=Int) (zX db (bH s.2.2.1 s.t.t.t)[i]) 0 then Q1 (.inr (rN 6))else Q1 (.inl (.h7 db (bH s.2.2.1 s.t.t.t) ((i+1:Nat):Int) (s,()) z1 (s.1,s.2.2.1,s.t.t.t,s.2.1,0,s.t.t.1,0,()))):=by
   simp only[du,rE,Q8,zC hi,zt hi,if_true,zM _ _ hi,dr];rw[zp i um];by_cases c:LT.lt (α:=Int) (zX db (bH s.2.2.1 s.t.t.t)[i]) 0
   ·rw[if_pos c,if_pos (by simpa using c)]
   ·rw[if_neg c,if_neg (by simpa using c)]
  by_cases c:LT.lt (α:=Int) (zX db (bH s.2.2.1 s.t.t.t)[i]) 0
  ·exact .inr ⟨λh=>by have:=h hi;omega,_,zU.of (by rw[hv,if_pos c]),rfl⟩
  ·exact .inl ⟨λ_=>by omega,zQ.of (by rw[hv,if_neg c])⟩)with⟨h1,h2⟩|⟨h1,r,h2,rfl⟩
 rotate_left
 ·have hE:nX db s.2.2.1 s.t.t.t s.2.1=6:=by
   unfold nX;rw[if_neg];intro h;exact h1 λi _ hi=>h _ (bd hi)
  rw[hE,if_neg (by decide)];exact⟨_,_,h2,ow,dQ 6⟩
 have hA:∀n∈bH s.2.2.1 s.t.t.t,LE.le (α:=Int) 0 (zX db n):=by
  intro n hn;obtain⟨j,hj,rfl⟩:=fW hn;exact h1 j hj hj
 have hfr:LE.le (α:=Int) 0 (zX db s.2.2.1):=hA _ (by unfold bH;split<;>simp);have hE:nX db s.2.2.1 s.t.t.t s.2.1=if(Q0 (GE.ge (α:=Int) (zX db s.2.1) 0)||s.2.2.1==s.t.t.t)=Q3 then 7 else if dO db (bH s.2.2.1 s.t.t.t)=Q3 then 10 else 0:=by
  unfold nX;rw[if_pos hA]
 have hl12:=hB.few;obtain⟨f1,f2⟩:=JM (db:=db) (ns:=bH s.2.2.1 s.t.t.t) ow (λx hx=>(hdb x hx).short.rf|>λh=>by omega) ow;have hT:oh (az db s.2.2.1):=I6 hB hfr;have t8:=hT.n8;have hnames:=hw.sh.names.1;have hor:(bif Q0 (GE.ge (α:=Int) (zX db s.2.1) 0)then Q3 else s.2.2.1==s.t.t.t)=(Q0 (GE.ge (α:=Int) (zX db s.2.1) 0)||s.2.2.1==s.t.t.t):=by cases Q0 (GE.ge (α:=Int) (zX db s.2.1) 0)<;>rfl
 rw[hE];by_cases c7:(Q0 (GE.ge (α:=Int) (zX db s.2.1) 0)||s.2.2.1==s.t.t.t)=Q3
 ·rw[if_pos c7,if_neg (by decide)];refine⟨rN 7,_,h2.ends (zU.of ?_),ow,dQ 7⟩;simp only[du,rE,Q8,zA,dr,hor,c7,if_true,zB,if_false]
 rw[if_neg c7];have c7:(Q0 (GE.ge (α:=Int) (zX db s.2.1) 0)||s.2.2.1==s.t.t.t)=Q4:=by simpa using c7
 by_cases c10:dO db (bH s.2.2.1 s.t.t.t)=Q3
 ·rw[if_pos c10,if_neg (by decide)];refine⟨rN 10,_,h2.ends (zU.of ?_),ow,dQ 10⟩;simp only[du,rE,Q8,zA,dr,hor,c7,f1,f2,c10,if_true,zB,if_false]
 rw[if_neg c10,if_pos rfl];have c10:dO db (bH s.2.2.1 s.t.t.t)=Q4:=by simpa using c10
 obtain⟨p1,p2⟩:=JL (t:=az db s.2.2.1) (names:=s.2.2.2.1) ow ow;have p1:nJ (getD db (toNat (zX db s.2.2.1)) (zi zh)).1.2.1 s.2.2.2.1=Q3:=p1;have p2:qw (getD db (toNat (zX db s.2.2.1)) (zi zh)).1.2.1 s.2.2.2.1=(if gq (az db s.2.2.1) s.2.2.2.1=0 then kP (az db s.2.2.1) s.2.2.2.1 else[],gq (az db s.2.2.1) s.2.2.2.1):=p2;unfold dj;by_cases o1:(s.1==[99,111,112,121])=Q3
 ·rw[if_pos o1];unfold vJ;by_cases hp:gq (az db s.2.2.1) s.2.2.2.1=0
  ·rw[if_pos hp];obtain⟨q1,q2⟩:=Fj hp;obtain⟨r,k,e1,e2,e3⟩:=znr hs z1 (t:=az db s.2.2.1) (a:=s.1) (b:=s.2.2.1) (c:=s.t.t.t) (d:=s.2.1) (l:=kP (az db s.2.2.1) s.2.2.2.1) (on:=0) (by unfold kP;rw[cV];omega) q2 (by
    intro x hx;obtain⟨n,hn,rfl⟩:=bq.1 hx;exact ql (q1 n hn))
   rw[Rf];refine⟨r,_,h2.ends ((zQ.of ?_).ends e1),ow,e3⟩;rw[if_pos hp,hp]at p2;simp only[du,rE,Q8,zA,dr,hor,c7,f1,f2,c10,dA hfr,o1,p1,p2,if_true,zB,if_false,io];rfl
  ·rw[if_neg hp,yI hp];refine⟨_,_,h2.ends (zU.of ?_),ow,dQ _⟩;rw[if_neg hp]at p2;have hp':(gq (az db s.2.2.1) s.2.2.2.1!=0)=Q3:=by simpa using hp
   simp only[du,rE,Q8,zA,dr,hor,c7,f1,f2,c10,dA hfr,o1,p1,p2,hp',if_true,zB,if_false]
 rw[if_neg o1];by_cases o2:(s.1==[106,111,105,110])=Q3
 ·rw[if_pos o2];have hr:=m2 (bC o2);have hne:s.t.t.t≠[]:=by intro k;rw[k]at hr;cases hr
  have hwt:gh db s.t.t.t=az db s.t.t.t:=by unfold gh;rw[if_neg hne]
  have hrl:LE.le (α:=Int) 0 (zX db s.t.t.t):=hA _ (by unfold bH;rw[if_neg (by simpa using hne)];simp);have u8:=(I6 hB hrl).n8;have hrf:(az db s.2.2.1).t.1.length<=1000:=by have:=(hdb _ (mC hfr)).short.rf;unfold az;omega
  have g1:dC (getD db (toNat (zX db s.2.2.1)) (zi zh)).1.2.1 s.t.2.1=Q3:=je (by show(az db s.2.2.1).2.1.length<=_;omega);have g2:eK (getD db (toNat (zX db s.2.2.1)) (zi zh)).1.2.1 s.t.2.1=zT (az db s.2.2.1) s.t.2.1:=kq (by show(az db s.2.2.1).2.1.length<=_;omega);rw[hwt];unfold g7;by_cases h4:LT.lt (α:=Int) (zT (az db s.2.2.1) s.t.2.1) 0
  ·rw[if_pos h4,yI (by decide)];refine⟨rN 4,_,h2.ends (zU.of ?_),ow,dQ 4⟩;simp only[du,rE,Q8,zA,dr,hor,c7,f1,f2,c10,dA hfr,dA hrl,o1,o2,g1,g2,zx h4,if_true,zB,if_false]
  ·rw[if_neg h4];obtain⟨r,k,e1,e2,e3⟩:=zns hs z1 (t:=az db s.2.2.1) (u:=az db s.t.t.t) (a:=s.1) (b:=s.2.2.1) (c:=s.t.t.t) (d:=s.2.1) (k0:=0) (on:=zT (az db s.2.2.1) s.t.2.1) ow ow hrf;refine⟨r,_,h2.ends ((zQ.of ?_).ends e1),ow,e3⟩;simp only[du,rE,Q8,zA,dr,hor,c7,f1,f2,c10,dA hfr,dA hrl,o1,o2,g1,g2,aj h4,if_true,zB,if_false];rfl
 rw[if_neg o2];have o3:(s.1==[103,114,111,117,112])=Q3:=by
  rcases hm with k|k|k
  ·rw[k]at o1;exact absurd rfl o1
  ·rw[k]at o2;exact absurd rfl o2
  ·rw[k];rfl
 rw[if_pos o3];have hl2:=m3 (bC o3);unfold sJ;by_cases hp:gq (az db s.2.2.1) s.2.2.2.1=0
 ·rw[if_pos hp];obtain⟨q1,q2⟩:=Fj hp;rw[if_pos hp,hp]at p2;obtain⟨n0,n1,hn⟩:∃n0 n1,s.2.2.2.1=[n0,n1]:=by
   match s.2.2.2.1,hl2 with
   |[a,b],_=>exact⟨a,b,rfl⟩
  have i0:zK (zT (az db s.2.2.1) n0) (length (getD db (toNat (zX db s.2.2.1)) (zi zh)).1.2.1)=Q3:=ql (q1 n0 (by rw[hn];simp));have i1:zK (zT (az db s.2.2.1) n1) (length (getD db (toNat (zX db s.2.2.1)) (zi zh)).1.2.1)=Q3:=ql (q1 n1 (by rw[hn];simp));have x0:(kP (az db s.2.2.1) s.2.2.2.1).getD (toNat 0) (zi zg)=zT (az db s.2.2.1) n0:=by rw[hn];rfl
  have x1:(kP (az db s.2.2.1) s.2.2.2.1).getD (toNat 1) (zi zg)=zT (az db s.2.2.1) n1:=by rw[hn];rfl
  have xl:(kP (az db s.2.2.1) s.2.2.2.1).length=2:=by rw[hn];rfl
  have b0:zK 0 2=Q3:=rfl;have b1:zK 1 2=Q3:=rfl;have y1:(gz (az db s.2.2.1) s.2.2.2.1).getD 1 (zi zj)=getD (getD db (toNat (zX db s.2.2.1)) (zi zh)).1.2.1 (toNat (zT (az db s.2.2.1) n1)) (zi zj):=by rw[hn];rfl
  have y0:(gz (az db s.2.2.1) s.2.2.2.1).getD 0 (zi zj)=getD (getD db (toNat (zX db s.2.2.1)) (zi zh)).1.2.1 (toNat (zT (az db s.2.2.1) n0)) (zi zj):=by rw[hn];rfl
  unfold DP;rw[y1,y0];by_cases h5:(getD (getD db (toNat (zX db s.2.2.1)) (zi zh)).1.2.1 (toNat (zT (az db s.2.2.1) n1)) (zi zj)).2.1=(1:Int)
  ·rw[if_pos h5];obtain⟨r,e1,e3⟩:=zjw hs z1 (s.1,s.2.2.1,s.t.t.t,s.2.1,[((getD (getD db (toNat (zX db s.2.2.1)) (zi zh)).1.2.1 (toNat (zT (az db s.2.2.1) n0)) (zi zj)).1,(getD (getD db (toNat (zX db s.2.2.1)) (zi zh)).1.2.1 (toNat (zT (az db s.2.2.1) n0)) (zi zj)).2.1,Q3),((getD (getD db (toNat (zX db s.2.2.1)) (zi zh)).1.2.1 (toNat (zT (az db s.2.2.1) n1)) (zi zj)).1,(getD (getD db (toNat (zX db s.2.2.1)) (zi zh)).1.2.1 (toNat (zT (az db s.2.2.1) n1)) (zi zj)).2.1,Q4)],0,s.t.t.1,kP (az db s.2.2.1) s.2.2.2.1,0,()) rfl sw;have h5':((getD (getD db (toNat (zX db s.2.2.1)) (zi zh)).1.2.1 (toNat (zT (az db s.2.2.1) n1)) (zi zj)).2.1!=1)=Q4:=by rw[h5];rfl
   refine⟨r,_,h2.ends ((zQ.of ?_).ends e1),sg,e3⟩;simp only[du,rE,Q8,zA,dr,hor,c7,f1,f2,c10,dA hfr,o1,o2,o3,p1,p2,x0,x1,xl,b0,b1,i0,i1,h5',if_true,zB,if_false,io];rfl
  ·rw[if_neg h5,yI (by decide)];have h5':((getD (getD db (toNat (zX db s.2.2.1)) (zi zh)).1.2.1 (toNat (zT (az db s.2.2.1) n1)) (zi zj)).2.1!=1)=Q3:=by simpa using h5
   refine⟨rN 5,_,h2.ends (zU.of ?_),ow,dQ 5⟩;simp only[du,rE,Q8,zA,dr,hor,c7,f1,f2,c10,dA hfr,o1,o2,o3,p1,p2,x0,x1,xl,b0,b1,i0,i1,h5',if_true,zB,if_false,io]
 ·rw[if_neg hp,yI hp];refine⟨_,_,h2.ends (zU.of ?_),ow,dQ _⟩;rw[if_neg hp]at p2;have hp':(gq (az db s.2.2.1) s.2.2.2.1!=0)=Q3:=by simpa using hp
  simp only[du,rE,Q8,zA,dr,hor,c7,f1,f2,c10,dA hfr,o1,o2,o3,p1,p2,hp',if_true,zB,if_false]
theorem Ua{db:List (Sem zh)}{s:Sem zl}(hdb:∀x∈db,Qs x)(hw:oI s):Cg db s=Q1 ((aW db s).2,(aW db s).1,()):=by
 have hsh:∀x∈db,gN x:=λx hx=>(hdb x hx).short
 obtain⟨e,c1,c2⟩:=Hj hdb;have k1:CE db=Q3:=by unfold CE;rw[c1];rfl
 have k2:Hi db=e:=by unfold Hi;rw[c1];rfl
 have one:(Pi db s).val=Q1 (.inr (rN 1))->aW db s=(1,jF)->Cg db s=Q1 ((aW db s).2,(aW db s).1,()):=by
  intro h h2;rw[h2];exact zJ h (dQ 1)
 have hS:∀p:Sem zr,jG p=Q3/\kU p=bH p.2.1 p.2.2.1:=λp=>⟨rS p,ul p⟩
 by_cases hm:jC s.1
 ·obtain⟨t,h⟩:=Mg hw hm;have t1:iG s=Q3:=by unfold iG;rw[h];rfl
  have t2:kZ s=(t,dZ s):=by unfold kZ;rw[h];rfl
  have hop:(bif !s.1==[99,111,112,121]then bif !s.1==[106,111,105,110]then !s.1==[103,114,111,117,112]else Q4 else Q4)=Q4:=by
   rcases hm with k|k|k<;>rw[k]<;>rfl
  by_cases hst:dZ s=Q3
  ·by_cases he:e=0
   ·have hB:=c2.1 he;have hb:=(ke hsh).2 hB;obtain⟨r,k,e1,e2,e3⟩:=of7 hB hw hst hm hb hdb ([],[],[],[],0,[],0,0,[],[],0,());refine zw ?_ e1 ow e3;simp only[Pi,rE,Q8,zk,Prod.eta,t1,t2,k1,k2,hst,he,hop,hS,bG,ar,if_true,io,zB,if_false];rfl
   ·refine one ?_ ?_
    ·have he':(e !=0)=Q3:=by simpa using he
     simp only[Pi,rE,Q8,zk,Prod.eta,t1,t2,k1,k2,hst,he',bG,ar,ae,if_true]
    ·unfold aW;rw[if_neg];rintro⟨_,_,h⟩;exact he (c2.2 ((ke hsh).1 h))
  ·have hst':dZ s=Q4:=by simpa using hst
   refine one ?_ ?_
   ·simp only[Pi,rE,Q8,zk,Prod.eta,t1,t2,hst',cC,ae,if_true]
   ·unfold aW;rw[if_neg];rintro⟨_,h,_⟩;exact hst h
 ·obtain⟨t,b,h⟩:=Mf hw;have t1:iG s=Q3:=by unfold iG;rw[h];rfl
  have t2:kZ s=(t,b):=by unfold kZ;rw[h];rfl
  have hop:(bif !s.1==[99,111,112,121]then bif !s.1==[106,111,105,110]then !s.1==[103,114,111,117,112]else Q4 else Q4)=Q3:=by
   have x1:(s.1==[99,111,112,121])=Q4:=by simpa using λk=>hm (.inl k)
   have x2:(s.1==[106,111,105,110])=Q4:=by simpa using λk=>hm (.inr (.inl k))
   have x3:(s.1==[103,114,111,117,112])=Q4:=by simpa using λk=>hm (.inr (.inr k))
   rw[x1,x2,x3];rfl
  refine one ?_ ?_
  ·simp only[Pi,rE,Q8,zk,Prod.eta,t1,t2,k1,k2,hop,if_true];cases b<;>cases(e !=0)<;>rfl
  ·unfold aW;rw[if_neg λh=>hm h.1]
end Cad
