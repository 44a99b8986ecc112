/- The same plans; the document's plans. The document's plans: places, conditions. Statements: a MIGRATE may be, by the document, just if it may be by the program. -/
import Derived.Test.YtkmcdhahdadkpaaGreatDoorF16
import Derived.Test.YtkmcdhahdadkpaaGreatDoorF13
import Derived.Test.YtkmcdhahdadkpaaGreatDoorF15
namespace Cad
open Go Go.Proofs
open AV renaming ptr→Qf,nils→Qb
open Tr renaming chk→Qc,«to»→Q9,val→Q8
open AO renaming box→Qa
open Bool renaming false→Q4,true→Q3
open Option renaming some→Q1
open Decidable renaming decide→Q0
open Int (toNat)
open List (getD length)
open Tr (chk br re)
open AV (nils agg tup ptr kb str sl)
noncomputable section
set_option maxHeartbeats 4000000
abbrev jw:List CP:=[.d .str,.d .str,.d .str,.d .str,.nil,.d zg,.nil,.nil,.d .str,.d zg,.d zg,.d .str,.d .str,.nil,.nil,.d zg]
abbrev HJ:List CP:=[.d .str,.d .str,.d .str,.d .str,.nil,.d zg,.nil,.nil,.d .expr,.nil,.d zg]
abbrev NS:List CP:=[.d .str,.d .str,.d .str,.d .str,.vec zj,.d zg,.nil,.nil,.d .expr,.d (.sl zg),.d zg]
abbrev zaS:List CP:=[.d .str,.d .str,.d .str,.d .str,.d (.sl zj),.d zg,.nil,.nil,.d .expr,.d (.sl zg),.d zg]
abbrev PU:List CP:=[.d .str,.d .str,.d .str,.d .str,.vec zj,.d zg,.nil,.nil,.d .expr,.vec zg,.d zg]
def zgk(x0:Sem zE)(x1:Sem zE):Tr (Empty⊕aw):=
 let a0:=x0.1==x1.1
 let a1:=x0.2.1==x1.2.1
 let a2:=x0.2.2.1==x1.2.2.1
 let a3:=x0.t.2==x1.t.2
 let a4:=(x0.2.2.2.1.1,x0.2.2.2.1.2.1,x0.2.2.2.1.2.2.1,x0.2.2.2.1.2.2.2.1,x0.2.2.2.1.t.1,zm x0.2.2.2.1.t.2)
 let a5:=(x1.2.2.2.1.1,x1.2.2.2.1.2.1,x1.2.2.2.1.2.2.1,x1.2.2.2.1.2.2.2.1,x1.2.2.2.1.t.1,zm x1.2.2.2.1.t.2)
 let a6:=rx a4 a5
 Qc
 (bif a0 then
  bif a1 then bif a2 then bif a3 then G6 a4 a5&&bif a6 then GN x0.t.1 x1.t.1 else Q3 else Q3 else Q3 else Q3
 else Q3)
 (re
  (AV.bool (bif a0 then bif a1 then bif a2 then bif a3 then bif a6 then nM x0.t.1 x1.t.1 else Q4 else Q4 else Q4 else Q4 else Q4))
  [])
def FZ(x0:Sem zE)(x1:Sem zE):=al [Sh.bool] t0 100000000 (zgk x0 x1)
def FY(x0:Sem zE)(x1:Sem zE):=(FZ x0 x1).isSome
def IQ(x0:Sem zE)(x1:Sem zE):=o1 (FZ x0 x1)
def zc8:=FT [zE,zE] [Sh.bool] λx=>FZ x.1 x.2.1
theorem Zm:FK 60 zc8:=rT.T1 (f:=Tryz.f60) (keep:=k0) (e:=e0)
abbrev zPl:AV:=.agg [str [],str [],str [],str [],Qb,ai 0,Qb,Qb,str [],ai 0,ai 0,str [],str [],Qb,Qb,ai 0]
abbrev rE{σ:Type}(e:Int):Tr (σ⊕aw):=.re (.tup [zPl,.int .i64 e]) []
abbrev zgD:Nat->aM:=λj=>if j=7 then{slots:=[0,3,4,8,9,10]}else if j=24 then{slots:=[3,4,8,11,13],prom:=[(8,Q1 4,zj)]}else if j=38 then{slots:=[3,4,8,11,14,15,16]}else if j=48 then{slots:=[3,4,8,14,17],prom:=[(8,Q1 14,.int .i64)]}else if j=64 then{slots:=[3,4,8,20]}else{ }
inductive j8 where
 |h7 (l0:List (Sem zh)) (l9:List (Sem Sh.str)) (i10:Int) (z0:zn [CP.d zk]) (z1:zn jw) (z2:zn HJ)
 |h24 (i13:Int) (z0:zn [CP.d zk]) (z1:zn jw) (z2:zn NS) (z3:zn [CP.d zo])
 |h38 (i16:Int) (z0:zn [CP.d zk]) (z1:zn jw) (z2:zn HJ) (z3:zn [CP.d zo]) (z4:zn [CP.d zo])
 |h64 (i20:Int) (z0:zn [CP.d zk]) (z1:zn jw) (z2:zn zaS)
 |h64b (i20:Int) (z0:zn [CP.d zk]) (z1:zn jw) (z2:zn HJ)
 |h64bb (i20:Int) (z0:zn [CP.d zk]) (z1:zn jw) (z2:zn NS)
 |h38b (b15:Bool) (i16:Int) (z0:zn [CP.d zk]) (z1:zn jw) (z2:zn HJ) (z3:zn [CP.d zo]) (z4:zn [CP.d zo])
 |h48 (i17:Int) (z0:zn [CP.d zk]) (z1:zn jw) (z2:zn PU) (z3:zn [CP.d zo])
 |h64bbb (i20:Int) (z0:zn [CP.d zk]) (z1:zn jw) (z2:zn PU)
abbrev zjh:j8->Nat×St
 |.h7 l0 l9 i10 z0 z1 z2=>(7,⟨tm 339 [(0,sl zh l0),(3,Qf 0 0),(4,Qf 1 0),(8,Qf 2 0),(9,sl Sh.str l9),(10,ai i10)],[Qa (bx [] [CP.d zk] z0),Qa (bx [] jw z1),Qa (bx [] HJ z2)]⟩)
 |.h24 i13 z0 z1 z2 z3=>(24,⟨tm 339 [(3,Qf 0 0),(4,Qf 1 0),(8,Qf 2 0),(11,Qf 3 0),(13,ai i13)],[Qa (bx [] [CP.d zk] z0),Qa (bx [] jw z1),Qa (bx [4] NS z2),Qa (bx [] [CP.d zo] z3),AO.vec zj z2.t.1]⟩)
 |.h38 i16 z0 z1 z2 z3 z4=>(38,⟨tm 339 [(3,Qf 0 0),(4,Qf 1 0),(8,Qf 2 0),(11,Qf 3 0),(14,Qf 4 0),(15,kb Q4),(16,ai i16)],[Qa (bx [] [CP.d zk] z0),Qa (bx [] jw z1),Qa (bx [] HJ z2),Qa (bx [] [CP.d zo] z3),Qa (bx [] [CP.d zo] z4)]⟩)
 |.h64 i20 z0 z1 z2=>(64,⟨tm 339 [(3,Qf 0 0),(4,Qf 1 0),(8,Qf 2 0),(20,ai i20)],[Qa (bx [] [CP.d zk] z0),Qa (bx [] jw z1),Qa (bx [] zaS z2)]⟩)
 |.h64b i20 z0 z1 z2=>(64,⟨tm 339 [(3,Qf 0 0),(4,Qf 1 0),(8,Qf 2 0),(20,ai i20)],[Qa (bx [] [CP.d zk] z0),Qa (bx [] jw z1),Qa (bx [] HJ z2)]⟩)
 |.h64bb i20 z0 z1 z2=>(64,⟨tm 339 [(3,Qf 0 0),(4,Qf 1 0),(8,Qf 2 0),(20,ai i20)],[Qa (bx [] [CP.d zk] z0),Qa (bx [] jw z1),Qa (bx [3] NS z2),AO.vec zj z2.t.1]⟩)
 |.h38b b15 i16 z0 z1 z2 z3 z4=>(38,⟨tm 339 [(3,Qf 0 0),(4,Qf 1 0),(8,Qf 2 0),(11,Qf 3 0),(14,Qf 4 0),(15,AV.bool b15),(16,ai i16)],[Qa (bx [] [CP.d zk] z0),Qa (bx [] jw z1),Qa (bx [] HJ z2),Qa (bx [] [CP.d zo] z3),Qa (bx [] [CP.d zo] z4)]⟩)
 |.h48 i17 z0 z1 z2 z3=>(48,⟨tm 339 [(3,Qf 0 0),(4,Qf 1 0),(8,Qf 2 0),(14,Qf 3 0),(17,ai i17)],[Qa (bx [] [CP.d zk] z0),Qa (bx [] jw z1),Qa (bx [4,5] PU z2),Qa (bx [] [CP.d zo] z3),AO.vec zj z2.t.1,AO.vec zg z2.t.q.2.1]⟩)
 |.h64bbb i20 z0 z1 z2=>(64,⟨tm 339 [(3,Qf 0 0),(4,Qf 1 0),(8,Qf 2 0),(20,ai i20)],[Qa (bx [] [CP.d zk] z0),Qa (bx [] jw z1),Qa (bx [3,4] PU z2),AO.vec zj z2.t.1,AO.vec zg z2.t.q.2.1]⟩)
def Oh(x0:Sem zh.sl)(x1:Sem zk):Tr (j8⊕aw):=
 let a0:=zm x1.t.t.1
 let a1:=(x1.1,x1.2.1,x1.2.2.1,x1.2.2.2.1,x1.t.1,x1.t.2.1,x1.t.q.1,x1.t.q.2.1,a0,x1.t.t.2.1,x1.t.t.q.1,zm x1.t.t.q.2.1,x1.t.t.t)
 let a2:=kG a1
 let a3:=!a2.2
 let a4:=(x1.1,x1.2.2.1,x1.t.t.t,(x1.2.1,[],0,[],[],a0),[],0)
 Qc (io a1)
 (Qc (bif a3 then Q3 else BU x0)
  (br (bif a3 then Q3 else bif Gt x0 !=0 then Q3 else bif !x1.1==[99,111,112,121]then bif !x1.1==[106,111,105,110]then !x1.1==[103,114,111,117,112]else Q4 else Q4) (rE 1) (Qc (jo a4) (Q9 (j8.h7 x0 (kC a4) 0 (x1,()) ([],[],[],[],0,[],0,0,[],[],0,()) (x1.1,x1.2.2.1,x1.t.t.t,x1.2.1,0,x1.t.t.1,0,()))))))
def dm:j8->Tr (j8⊕aw)
 | .h7 l0 l9 i10 z0 z1 z2=>
  let a0:=kH l0 (l9.getD i10.toNat (zi Sh.str))
  let a1:=kH l0 z0.1.2.1
  let a2:=kH l0 z0.1.2.2.1
  let a3:=l0.getD (toNat a2) (zi zh)
  let a4:=mY a3.1.2.1 z0.1.2.2.2.1
  let a5:=pX a3.1.2.1 z0.1.2.2.2.1
  let a6:=a5.2!=0
  let a7:=(z2.t.2.1,a5.1,z2.t.q)
  let a8:=(a3.1,())
  let a9:=kH l0 z0.1.t.t.t
  let a10:=eC a3.1.2.1 z0.1.t.2.1
  let a11:=l0.getD (toNat a9) (zi zh)
  let a12:=getD a5.1 (toNat 0) (zi zg)
  let a13:=getD a5.1 (toNat 1) (zi zg)
  let a14:=getD a3.1.2.1 (toNat a13) (zi zj)
  let a15:=getD a3.1.2.1 (toNat a12) (zi zj)
  br (Q0 (i10<(↑l9.length:Int)))
  (Qc (zP i10 l9.length) (br (Q0 (a0<0)) (rE 6) (Q9 (j8.h7 l0 l9 (IntKind.i64.wrap (i10+1)) z0 z1 z2))))
  (br (bif Q0 (a1>=0)then Q3 else z0.1.2.2.1==z0.1.t.t.t) (rE 7) (Qc (su l0 l9) (br (wh l0 l9) (rE 10) (Qc (zP a2 l0.length) (br (z0.1.1==[99,111,112,121]) (Qc a4 (br a6 (rE a5.2) (Q9 (j8.h24 0 z0 z1 (z2.1,z2.2.1,z2.2.2.1,z2.2.2.2.1,[],-1,a7) a8)))) (br (z0.1.1==[106,111,105,110]) (Qc (zP a9 l0.length)
  (Qc (dt a3.1.2.1 z0.1.t.2.1) (br (Q0 (a10<0)) (rE 4) (Q9
  (j8.h38 0 z0 z1 (z2.1,z2.2.1,z2.2.2.1,z2.2.2.2.1,z2.t.1,z2.t.2.1,a10,()) a8 (a11.1,())))))) (br (z0.1.1==[103,114,111,117,112]) (Qc a4 (br a6 (rE a5.2) (Qc (zP 0 (length a5.1)) (Qc (zP a12 (length a3.1.2.1)) (Qc (zP 1 (length a5.1)) (Qc (zP a13 (length a3.1.2.1)) (br (a14.2.1!=1) (rE 5) (Q9 (j8.h64 0 z0 z1 (z2.1,z2.2.1,z2.2.2.1,z2.2.2.2.1,[(a15.1,a15.2.1,Q3),(a14.1,a14.2.1,Q4)],z2.t.1,a7)))))))))) (Q9 (j8.h64b 0 z0 z1 z2)))))))))
 | .h24 i13 z0 z1 z2 z3=>
  let a0:=(↑(length z2.t.q.2.1):Int)
  let a1:=zP i13 (length z2.t.q.2.1)
  let a2:=getD z2.t.q.2.1 i13.toNat (zi zg)
  let a3:=zP a2 (length z3.1.2.1)
  let a4:=[getD z3.1.2.1 (toNat a2) (zi zj)]
  let a5:=Q0 (z2.t.1.length+a4.length<=1073741824)
  let a6:=IntKind.i64.wrap (i13+1)
  let a7:=z2.t.1++a4
  br (Q0 (i13<a0))
  (Qc a1 (br (a2==z3.1.2.2.1) (Qc a1 (Qc a3 (Qc a5 (Q9 (j8.h24 a6 z0 z1 (z2.1,z2.2.1,z2.2.2.1,z2.2.2.2.1,a7,i13,z2.t.q) z3))))) (Qc a1 (Qc a3 (Qc a5 (Q9 (j8.h24 a6 z0 z1 (z2.1,z2.2.1,z2.2.2.1,z2.2.2.2.1,a7,z2.t.2) z3)))))))
  (br (Q0 (z2.t.2.1<0)) (rE 1) (Q9 (j8.h64bb 0 z0 z1 z2)))
 | .h38 i16 z0 z1 z2 z3 z4=>
  let a0:=(↑(length z3.1.t.1):Int)
  let a1:=zP i16 (length z3.1.t.1)
  let a2:=getD z3.1.t.1 i16.toNat (zi zr)
  let a3:=a2.1==z2.t.q.1
  br (Q0 (i16<a0))
  (Qc (a1&&bif a3 then a1 else Q3) (Q9 (j8.h38b (bif a3 then a2.2==z0.1.t.t.t else Q4) (IntKind.i64.wrap (i16+1)) z0 z1 z2 z3 z4)))
  (rE 10)
 | .h64 i20 z0 z1 z2=>
  let a0:=(↑(length z2.t.1):Int)
  let a1:=getD z2.t.1 i20.toNat (zi zj)
  let a2:=zm z0.1.t.t.1
  let a3:=wm a2 z2.t.1
  br (Q0 (i20<a0))
  (Qc (zP i20 (length z2.t.1)) (Qc (dt z2.t.1 a1.1) (br (eC z2.t.1 a1.1!=i20) (rE 7)
  (Q9 (j8.h64 (IntKind.i64.wrap (i20+1)) z0 z1 z2)))))
  (Qc (qo a2 z2.t.1) (br (a3 !=0) (rE a3) (re (tup [agg [str z2.1,str z2.2.1,str z2.2.2.1,str z2.2.2.2.1,
  sl zj z2.t.1,ai z2.t.2.1,Qb,Qb,str (ze.op z2.t.q.1),ai (ze.v z2.t.q.1).1,ai (ze.v z2.t.q.1).2.1,str (ze.v z2.t.q.1).2.2,str (ze.s z2.t.q.1),sl Sh.expr (ze.l z2.t.q.1),sl zg z2.t.q.2.1,ai z2.t.t.1],ai 0])
  [])))
 | .h64b i20 z0 _ z2=>
  let a0:=zm z0.1.t.t.1
  let a1:=wm a0 []
  br (Q0 (i20<0)) Tr.err
  (Qc (qo a0 []) (br (a1 !=0) (rE a1) (re (tup [agg
  [str z2.1,str z2.2.1,str z2.2.2.1,str z2.2.2.2.1,Qb,ai z2.t.1,Qb,Qb,str (ze.op z2.t.2.1),ai (ze.v z2.t.2.1).1,ai (ze.v z2.t.2.1).2.1,str (ze.v z2.t.2.1).2.2,str (ze.s z2.t.2.1),sl Sh.expr (ze.l z2.t.2.1),Qb,ai z2.t.q.1],
  ai 0]) [])))
 | .h64bb i20 z0 z1 z2=>
  let a0:=(↑z2.t.1.length:Int)
  let a1:=z2.t.1.getD i20.toNat (zi zj)
  let a2:=zm z0.1.t.t.1
  let a3:=wm a2 z2.t.1
  br (Q0 (i20<a0))
  (Qc (zP i20 z2.t.1.length) (Qc (Q0 (i20.toNat<z2.t.1.length)) (Qc (dt z2.t.1 a1.1) (br (eC z2.t.1 a1.1!=i20) (rE 7)
  (Q9 (j8.h64bb (IntKind.i64.wrap (i20+1)) z0 z1 z2))))))
  (Qc (qo a2 z2.t.1) (br (a3 !=0) (rE a3) (re (tup [agg
  [str z2.1,str z2.2.1,str z2.2.2.1,str z2.2.2.2.1,AV.vec 0,ai z2.t.2.1,Qb,Qb,str (ze.op z2.t.q.1),ai (ze.v z2.t.q.1).1,ai (ze.v z2.t.q.1).2.1,str (ze.v z2.t.q.1).2.2,str (ze.s z2.t.q.1),sl Sh.expr (ze.l z2.t.q.1),
  sl zg z2.t.q.2.1,ai z2.t.t.1],ai 0]) [AO.vec zj z2.t.1])))
 | .h38b b15 i16 z0 z1 z2 z3 z4=>
  let a0:=(↑(length z3.1.t.1):Int)
  let a1:=zP i16 (length z3.1.t.1)
  let a2:=getD z3.1.t.1 i16.toNat (zi zr)
  let a3:=a2.1==z2.t.q.1
  let a4:=IntKind.i64.wrap ((↑(length z3.1.2.1):Int)+(↑(length z4.1.2.1):Int))
  br (Q0 (i16<a0))
  (Qc (bif b15 then Q3 else a1&&bif a3 then a1 else Q3) (Q9 (j8.h38b (bif b15 then Q3 else bif a3 then a2.2==z0.1.t.t.t else Q4) (IntKind.i64.wrap (i16+1)) z0 z1 z2 z3 z4)))
  (br (!b15) (rE 10) (br (Q0 (a4>9)) (rE 13) (Qc (Q0 (length z3.1.2.1<=1073741824)) (Q9 (j8.h48 0 z0 z1 (z2.1,z2.2.1,z2.2.2.1,z2.2.2.2.1,z3.1.2.1,z3.1.2.2.1,z2.t.2.1,[],z2.t.q) z4)))))
 | .h48 i17 z0 z1 z2 z3=>
  let a0:=(↑(length z3.1.2.1):Int)
  let a1:=[getD z3.1.2.1 i17.toNat (zi zj)]
  let a2:=IntKind.i64.wrap (i17+1)
  br (Q0 (i17<a0))
  (br (i17 !=z3.1.2.2.1) (Qc (Q0 (z2.t.q.2.1.length+[i17].length<=1073741824)) (Qc (zP i17 (length z3.1.2.1)) (Qc (Q0 (z2.t.1.length+a1.length<=1073741824)) (Q9 (j8.h48 a2 z0 z1 (z2.1,z2.2.1,z2.2.2.1,z2.2.2.2.1,z2.t.1++a1,z2.t.2.1,z2.t.q.1,z2.t.q.2.1++[i17],z2.t.t) z3)))))
  (Q9 (j8.h48 a2 z0 z1 z2 z3)))
  (Q9 (j8.h64bbb 0 z0 z1 z2))
 | .h64bbb i20 z0 z1 z2=>
  let a0:=(↑z2.t.1.length:Int)
  let a1:=z2.t.1.getD i20.toNat (zi zj)
  let a2:=zm z0.1.t.t.1
  let a3:=wm a2 z2.t.1
  br (Q0 (i20<a0))
  (Qc (zP i20 z2.t.1.length) (Qc (Q0 (i20.toNat<z2.t.1.length)) (Qc (dt z2.t.1 a1.1) (br (eC z2.t.1 a1.1!=i20) (rE 7)
  (Q9 (j8.h64bbb (IntKind.i64.wrap (i20+1)) z0 z1 z2))))))
  (Qc (qo a2 z2.t.1) (br (a3 !=0) (rE a3) (re (tup [agg
  [str z2.1,str z2.2.1,str z2.2.2.1,str z2.2.2.2.1,AV.vec 0,ai z2.t.2.1,Qb,Qb,str (ze.op z2.t.q.1),ai (ze.v z2.t.q.1).1,ai (ze.v z2.t.q.1).2.1,str (ze.v z2.t.q.1).2.2,str (ze.s z2.t.q.1),sl Sh.expr (ze.l z2.t.q.1),AV.vec 1,
  ai z2.t.t.1],ai 0]) [AO.vec zj z2.t.1,AO.vec zg z2.t.q.2.1])))
def By(x0:Sem zh.sl)(x1:Sem zk):=al [zE,zg] dm 100000000 (Oh x0 x1)
def K0(x0:Sem zh.sl)(x1:Sem zk):=(By x0 x1).isSome
def SW(x0:Sem zh.sl)(x1:Sem zk):=o2 (By x0 x1)
def zc5:=FT [zh.sl,zk] [zE,zg] λx=>By x.1 x.2.1
theorem Zk:FK 25 zc5:=rT.T1 (f:=Tryz.f25) (keep:=zgD) (e:=zjh)
def Ft:=Qx.addL [(60,zc8),(25,zc5)]
theorem Kf:zw Ft:=rT.addL<|fc Zm<|fc Zk<|jj
end
def pl3(t:Sem zo)(names:List zA):Nat->og
 |0=>.h3 t.2.1 names ((0:Nat):Int)
 |i+1=>.h3b t.2.1 names ((i+1:Nat):Int) (ky t (names.take (i+1)))
theorem Wa{t:Sem zo}{names:List zA}(hc:t.2.1.length<=1000000)(hn:names.length<=1000){i:Nat}(hi:i<names.length):(jr (pl3 t names i)).val=if LT.lt (α:=Int) (zN t names[i]) 0 then Q1 (.inr (.tup [.nils,.int .i64 4],[]))else Q1 (.inl (pl3 t names (i+1))):=by
 have e:eC t.2.1 names[i]=zN t names[i]:=j4 hc;have ec:dt t.2.1 names[i]=Q3:=iP hc;have hx:ky t (names.take (i+1))=ky t (names.take i)++[zN t names[i]]:=by
  unfold ky;rw[bZ hi,iB];rfl
 cases i with
 | zero=>
  have hx:ky t (names.take 1)=[zN t names[0]]:=hx;show(jr (.h3 _ _ _)).val=_;simp only[jr,Q8,zH hi,zu hi,if_true,ac _ _ hi,e,ec];by_cases h:LT.lt (α:=Int) (zN t names[0]) 0
  ·simp only[zt h,if_true,if_pos h]
  ·simp only[ah h,if_neg h,zG,if_false];rw[if_pos sw,zq 0 um];show _=Q1 (Sum.inl (og.h3b _ _ _ (ky t (names.take 1))));rw[hx]
 | succ i=>
  show(jr (.h3b _ _ _ _)).val=_;simp only[jr,Q8,zH hi,zu hi,if_true,ac _ _ hi,e,ec];by_cases h:LT.lt (α:=Int) (zN t names[i+1]) 0
  ·simp only[zt h,if_true,if_pos h]
  ·simp only[ah h,if_neg h,zG,if_false];rw[if_pos (by unfold ky;simp;omega),zq (i+1) um];show _=Q1 (Sum.inl (og.h3b _ _ _ (ky t (names.take (i+1+1)))));rw[hx]
theorem zlg{l:List Int}(hl:l.length<=1000):zV jr (l.length*1001+1) (.h10b ((0:Nat):Int) l) (if l.Nodup then(.tup [.vec 0,.int .i64 0],[.vec zg l])else(.tup [.nils,.int .i64 7],[])):=by
 have hin:∀i(hi:i<l.length),((∀k(hk:k<i),l[k]≠l[i])/\zR jr 1001 (.h10b (i:Int) l) (.h10b ((i+1:Nat):Int) l))\/((¬∀k(hk:k<i),l[k]≠l[i])/\zV jr 1001 (.h10b (i:Int) l) (.tup [.nils,.int .i64 7],[])):=by
  intro i hi;have h0:zR jr 1 (.h10b (i:Int) l) (.h13b (i:Int) ((0:Nat):Int) l):=zR.of (by
   show(jr (.h10b _ _)).val=_;simp only[jr,Q8,zH hi,if_true];rfl)
  rcases lN (t:=jr) (Φ:=λr=>r=(.tup [.nils,.int .i64 7],[])) 1 (λk=>.h13b (i:Int) (k:Int) l) (λk=>∀h:k<i,l[k]≠l[i]) i (λk hk _=>by
   have hkl:k<l.length:=by omega
   have g1:Q0 ((k:Int)<(i:Int))=Q3:=zH hk;have hv:(jr (.h13b (i:Int) (k:Int) l)).val=if(l[i]==l[k])=Q3 then Q1 (.inr (.tup [.nils,.int .i64 7],[]))else Q1 (.inl (.h13b (i:Int) ((k+1:Nat):Int) l)):=by
    show(jr (.h13b _ _ _)).val=_;simp only[jr,Q8,g1,zu hi,zu hkl,wA hi,wA hkl,ac _ _ hi,ac _ _ hkl,if_true];rw[zq k um]
   by_cases h:l[i]=l[k]
   ·exact .inr ⟨λq=>q hk h.symm,_,zV.of (by rw[hv,if_pos (by simpa using h)]),rfl⟩
   ·exact .inl ⟨λ_=>Ne.symm h,zR.of (by rw[hv,if_neg (by simpa using h)])⟩)with⟨h1,h2⟩|⟨h1,r,h2,rfl⟩
  ·refine .inl ⟨λk hk=>h1 k hk hk,((h0.trans h2).trans (zR.of ?_)).mono ow⟩;show(jr (.h13b _ _ _)).val=_;simp only[jr,Q8,zz];rw[zq i um];rfl
  ·exact .inr ⟨λh=>h1 λk hk _=>h k hk,(h0.ends h2).mono ow⟩
 have hnd:l.Nodup↔∀i,i<l.length->∀h:i<l.length,∀k(hk:k<i),l[k]≠l[i]:=by
  unfold List.Nodup;rw[List.pairwise_iff_getElem];exact⟨λh i _ hi k hk=>h k i ow hi hk,λh i j hi hj hij=>h j hj hj i hij⟩
 rcases lN (t:=jr) (Φ:=λr=>r=(.tup [.nils,.int .i64 7],[])) 1001 (λi=>.h10b (i:Int) l) (λi=>∀h:i<l.length,∀k(hk:k<i),l[k]≠l[i]) l.length (λi hi _=>by
  rcases hin i hi with⟨h1,h2⟩|⟨h1,h2⟩
  ·exact .inl ⟨λ_=>h1,h2⟩
  ·exact .inr ⟨λh=>h1 (h hi),_,h2,rfl⟩)with⟨h1,h2⟩|⟨h1,r,h2,rfl⟩
 ·rw[if_pos (hnd.2 h1)];refine(h2.ends (zV.of ?_)).mono ow;show(jr (.h10b _ _)).val=_;simp only[jr,Q8,zz];rfl
 ·rw[if_neg (λh=>h1 (hnd.1 h))];exact h2.mono ow
theorem F3{t:Sem zo}{names:List zA}(hc:t.2.1.length<=1000000)(hn:names.length<=1000):mZ t.2.1 names=Q1 (if fT t names=0 then ky t names else[],fT t names,()):=by
 have hi:(zgo t.2.1 names).val=Q1 (.inl (pl3 t names 0)):=rfl
 rcases lN (t:=jr) (Φ:=λr=>r=(.tup [.nils,.int .i64 4],[])) 1 (pl3 t names) (λi=>∀h:i<names.length,¬LT.lt (α:=Int) (zN t names[i]) 0) names.length (λi hi _=>by
  have hv:=Wa hc hn hi;by_cases h:LT.lt (α:=Int) (zN t names[i]) 0
  ·exact .inr ⟨λq=>q hi h,_,zV.of (by rw[hv,if_pos h]),rfl⟩
  ·exact .inl ⟨λ_=>h,zR.of (by rw[hv,if_neg h])⟩)with⟨h1,h2⟩|⟨h1,r,h2,rfl⟩
 ·have hA:∀s∈names,¬LT.lt (α:=Int) (zN t s) 0:=by
   intro s hs;obtain⟨j,hj,rfl⟩:=gY hs;exact h1 j hj hj
  have hE:fT t names=if(ky t names).Nodup then 0 else 7:=by unfold fT;rw[if_pos hA];rfl
  have hxl:(ky t names).length=names.length:=by unfold ky;simp
  cases hnm:names.length with
  | zero=>
   have hnil:names=[]:=xE hnm;subst hnil;have h3:zV jr 2 (pl3 t [] 0) (.tup [.nils,.int .i64 0],[]):=by
    refine(zR.of (s':=.h10 0) ?_).ends (zV.of ?_)
    ·rfl
    ·rfl
   have h0:fT t []=0:=by rw[hE,if_pos (by unfold ky;exact List.nodup_nil)]
   rw[h0,if_pos rfl];exact zx hi h3 ow rfl
  | succ n=>
   rw[hnm]at h2;have e1:ky t (names.take (n+1))=ky t names:=by rw[<-hnm,jE]
   have h3:zR jr 1 (pl3 t names (n+1)) (.h10b ((0:Nat):Int) (ky t names)):=zR.of (by
    show(jr (.h3b _ _ _ _)).val=_;rw[e1,<-hnm];simp only[jr,Q8,zz];rfl)
   have h4:=zlg (l:=ky t names) ow;have h5:=h2.ends (h3.ends h4);rw[hE];by_cases hd:(ky t names).Nodup
   ·rw[if_pos hd]at h5⊢;exact zx hi h5 ow rfl
   ·rw[if_neg hd]at h5⊢;exact zx hi h5 ow rfl
 ·have hE:fT t names=4:=by
   unfold fT;rw[if_neg];intro h;exact h1 λi _ hi=>h _ (bC hi)
  rw[hE];exact zx hi h2 ow rfl
theorem IV{t:Sem zo}{names:List zA}(hc:t.2.1.length<=1000000)(hn:names.length<=1000):mY t.2.1 names=Q3/\pX t.2.1 names=(if fT t names=0 then ky t names else[],fT t names):=by
 have h:=F3 hc hn;exact⟨by unfold mY;rw[h];rfl,by unfold pX;rw[h];rfl⟩
def qL(e:ze)(cols:List (Sem zj)):Int:=
 if(e.op==[])=Q3 then 0 else if(bif (bD e cols).2==0 then bif (bD e cols).1!=3 then(bD e cols).1!=0 else Q4 else Q4)=Q3 then 5 else(bD e cols).2
theorem OO{e:ze}{cols:List (Sem zj)}(hw:rD e)(hl:cols.length<=1000000)(hm:(e.op==[])=Q4->cW e=Q3):yw e cols=Q1 (qL e cols,()):=by
 unfold qL;cases ho:(e.op==[])
 ·have hme:=hm ho;have h1:=mh hw;have h2:=qh hw;have h3:=I5 hl hme;have t1:nc e cols=Q3:=by unfold nc;rw[h3];rfl
  have t2:ij e cols=bD e cols:=by unfold ij;rw[h3];rfl
  have hb:(bif (bD e cols).2==0 then bif (bD e cols).1!=0 then(bD e cols).1!=3 else Q4 else Q4)=(bif (bD e cols).2==0 then bif (bD e cols).1!=3 then(bD e cols).1!=0 else Q4 else Q4):=by
   cases((bD e cols).2==0)<;>cases((bD e cols).1!=0)<;>cases((bD e cols).1!=3)<;>rfl
  have hv:(VC e cols).val=Q1 (.inr (.int .i64 (if(bif (bD e cols).2==0 then bif (bD e cols).1!=3 then(bD e cols).1!=0 else Q4 else Q4)=Q3 then 5 else(bD e cols).2),[])):=by
   simp only[VC,Q8,zl,ho,h1,h2,hme,t1,t2,hb,if_true,zG,if_false,cu];split<;>rfl
  exact zM hv rfl
 ·refine zM (r:=(.int .i64 0,[])) ?_ rfl;simp only[VC,Q8,ho,if_true]
theorem BR{e:ze}{cols:List (Sem zj)}(hw:rD e)(hl:cols.length<=1000000)(hm:(e.op==[])=Q4->cW e=Q3):qo e cols=Q3/\wm e cols=qL e cols:=by
 have h:=OO hw hl hm;exact⟨by unfold qo;rw[h];rfl,by unfold wm;rw[h];rfl⟩
theorem Dc(l:List zA):gm l=Lib.join l [32,44,32]:=by
 have h:=pi l 0 [];unfold gm;rw[h];have e:l.map lv=l:=by
  rw[show(lv:zA->zA)=id from rfl];exact List.map_id l
 rw[Dw,e]
theorem Wy{s:Sem zk}(h:nY s)(o:s.1=[99,111,112,121])(hk:kz s=Q3):iq s=Lz s:=by
 unfold kz at hk;simp only[aD,aN]at hk;rw[(ir (YP h.sh o)).2,tC,Ao hk.2.1,Dc];unfold Lz;simp
theorem Wz{s:Sem zk}(h:nY s)(o:s.1=[106,111,105,110])(hk:mX s=Q3):iq s=po s:=by
 unfold mX at hk;simp only[aD]at hk;rw[(ir (YR h.sh o)).2,tJ,Ao hk.1];unfold po;simp
theorem TA{s:Sem zk}(h:nY s)(o:s.1=[103,114,111,117,112])(hk:gr s=Q3):iq s=lx s:=by
 unfold gr at hk;simp only[aD,aN]at hk;rw[(ir (YQ h.sh o hk.1)).2,tG,Ao hk.2.1];unfold lx;simp
theorem Le{s:Sem zk}(h:nY s)(hm:jk s.1):∃t,nj s=Q1 (t,dW s,()):=by
 have key:∀(own:Sem zk)(ok:Bool)(t tx:zA),du s=Q1 (t,own,ok,())->t.length<=900000->yU own->(ok=Q3->t=tx)->(ok=Q3->iq s=tx)->eW s=(ok&&(zK s.2.1&&eU own s))->∃t,nj s=Q1 (t,dW s,()):=by
  intro own ok t tx h1 h2 h3 h4 h5 h6;obtain⟨t',h7⟩:=ER h h1 h2 h3;refine⟨t',?_⟩;rw[h7,Tp,h6];cases hk:ok
  ·rfl
  ·rw[h5 hk,h4 hk];cases zK s.2.1<;>cases eU own s<;>rfl
 rcases hm with o|o|o
 ·obtain⟨t,h1,h2,h3⟩:=Nt h o;exact key _ _ _ _ h1 h2 (eb h (.inl rfl) (.inr rfl) (.inr rfl) (.inr rfl) (.inl rfl) (.inr rfl) (.inr rfl) (.inr rfl)) h3 (Wy h o) (MW h o)
 ·obtain⟨h1,h2⟩:=Nu h o;exact key _ _ _ _ h1 h2 (eb h (.inr rfl) (.inr rfl) (.inr rfl) (.inr rfl) (.inl rfl) (.inr rfl) (.inr rfl) (.inr rfl)) (λ_=>rfl) (Wz h o) (MX h o)
 ·obtain⟨t,h1,h2,h3⟩:=JN h o;exact key _ _ _ _ h1 h2 (eb h (.inl rfl) (.inr rfl) (.inr rfl) (.inr rfl) (.inl rfl) (.inr rfl) (.inr rfl) (.inr rfl)) h3 (TA h o) (IT h o)
theorem Mi{g c:ze->ze->Bool}:∀(l m:List ze),l.length=m.length->(∀x∈l,∀y,c x y=Q3/\(g x y=Q3↔x=y))->Oc g c l m=Q3/\(Vl g l m=Q3↔l=m)
 |[],[],_,_=>⟨rfl,by simp[Vl]⟩
 |[],_::_,h,_=>by simp at h
 |_::_,[],h,_=>by simp at h
 | x::r,y::q,h,hx=>by
  obtain⟨c1,g1⟩:=hx x sw y;obtain⟨c2,g2⟩:=Mi r q (by simpa using h) (λz hz=>hx z (by simp[hz]));rw[Oc,Vl];rw[c1];by_cases k:g x y=Q3
  ·have:=g1.1 k;subst this;simp[k,c2,g2]
  ·have hne:x≠y:=λe=>k (g1.2 e)
   simp[k,hne]
theorem Jv:∀(N:Nat)(a b:ze),qM N a=Q3->iU N a b=Q3/\(ff N a b=Q3↔a=b)
 |0,_,_,h=>by cases h
 | N + 1,.mk op v s l,.mk op' v' s' l',h=>by
  rw[qM]at h;simp only[aD,aN,dU]at h;obtain⟨_,ha⟩:=h;have e1:iU (N+1) (.mk op v s l) (.mk op' v' s' l')=(bif op==op' then bif TP v v' then bif s==s' then wY (ff N) (iU N) l l' else Q3 else Q3 else Q3):=rfl;have e2:ff (N+1) (.mk op v s l) (.mk op' v' s' l')=(bif op==op' then bif TP v v' then bif s==s' then Kk (ff N) l l' else Q4 else Q4 else Q4):=rfl;rw[e1,e2];unfold wY Kk;have hV:TP v v'=Q3↔v=v':=by unfold TP;simp[Prod.ext_iff]
  by_cases h1:op=op'
  ·by_cases h2:v=v'
   ·by_cases h3:s=s'
    ·by_cases h4:l.length=l'.length
     ·obtain⟨k1,k2⟩:=Mi (g:=ff N) (c:=iU N) l l' h4 (λx hx y=>Jv N x y (ha x hx));have hb:((↑l.length:Int)!=(↑l'.length:Int))=Q4:=by rw[<-gJ,iY];exact λh=>h h4
      rw[hb,hV.2 h2];simp[h1,h3,k1,k2,h2]
     ·have hb:((↑l.length:Int)!=(↑l'.length:Int))=Q3:=iY.2 h4;have hne:l≠l':=λe=>h4 (by rw[e])
      rw[hb,hV.2 h2];simp[h1,h3,hne]
    ·rw[hV.2 h2];simp[h1,h3]
   ·have:TP v v'=Q4:=by rw[<-gJ,hV];exact h2
    rw[this];simp[h1,h2]
  ·simp[h1]
theorem JA{a b:List Int}(h:a.length<=1000000):GN a b=Q3/\(nM a b=Q3↔a=b):=by
 have key:∃r,GO a b=Q1 (r,())/\(r=Q3↔a=b):=by
  by_cases hl:a.length=b.length
  ·have hb:((↑(length a):Int)!=(↑(length b):Int))=Q4:=by rw[<-gJ,iY];exact λh=>h hl
   have hi:(VD a b).val=Q1 (.inl (.h4 a b (a.length:Int) 0)):=by
    simp only[VD,Q8,hb];rfl
   rcases lc (t:=ziL) (la:=a) (lb:=b) (λi=>.h4 a b (a.length:Int) i) (.inr (.kb Q3,[])) (λi=>getD a (i:Int).toNat (zi zg)==getD b (i:Int).toNat (zi zg)) (λ_ _=>rfl) (λi _ ha hb=>by rw[aX,ac _ _ ha,ac _ _ hb]) hl h with⟨q5,k5⟩|⟨q5,k5⟩
   ·exact⟨Q3,zx hi (k5 0 _ rfl) ow rfl,by simp[q5]⟩
   ·exact⟨Q4,zx hi k5 ow rfl,by simp[q5]⟩
  ·refine⟨Q4,zM (r:=ES) ?_ rfl,by simp;exact λe=>hl (by rw[e])⟩;simp only[VD,Q8,iY.2 hl,if_true]
 obtain⟨r,h1,h2⟩:=key;refine⟨by unfold GN;rw[h1];rfl,?_⟩;have:nM a b=r:=by unfold nM;rw[h1];rfl
 rw[this];exact h2
theorem Tk{a b:List (Sem zj)}(h:a.length<=1000000):Ln a b=Q3/\(xw a b=Q3↔a=b):=by
 have key:∃r,GL a b=Q1 (r,())/\(r=Q3↔a=b):=by
  by_cases hl:a.length=b.length
  ·have hb:((↑(length a):Int)!=(↑(length b):Int))=Q4:=by rw[<-gJ,iY];exact λh=>h hl
   have hi:(VH a b).val=Q1 (.inl (.h4 a b (a.length:Int) 0)):=by
    simp only[VH,Q8,hb];rfl
   rcases lc (t:=ziN) (la:=a) (lb:=b) (λi=>.h4 a b (a.length:Int) i) (.inr (.kb Q3,[])) (λi=>((getD a (i:Int).toNat (zi zj)).1==(getD b (i:Int).toNat (zi zj)).1&&((getD a (i:Int).toNat (zi zj)).2.1==(getD b (i:Int).toNat (zi zj)).2.1&&((getD a (i:Int).toNat (zi zj)).2.2==(getD b (i:Int).toNat (zi zj)).2.2&&Q3)))) (λ_ _=>rfl) (λi _ ha hb=>by rw[PS,ac _ _ ha,ac _ _ hb]) hl h with⟨q5,k5⟩|⟨q5,k5⟩
   ·exact⟨Q3,zx hi (k5 0 _ rfl) ow rfl,by simp[q5]⟩
   ·exact⟨Q4,zx hi k5 ow rfl,by simp[q5]⟩
  ·refine⟨Q4,zM (r:=ES) ?_ rfl,by simp;exact λe=>hl (by rw[e])⟩;simp only[VH,Q8,iY.2 hl,if_true]
 obtain⟨r,h1,h2⟩:=key;refine⟨by unfold Ln;rw[h1];rfl,?_⟩;have:xw a b=r:=by unfold xw;rw[h1];rfl
 rw[this];exact h2
theorem Tl{a b:List (Sem zr)}(h:a.length<=1000000):Lo a b=Q3/\(xx a b=Q3↔a=b):=by
 have key:∃r,GM a b=Q1 (r,())/\(r=Q3↔a=b):=by
  by_cases hl:a.length=b.length
  ·have hb:((↑(length a):Int)!=(↑(length b):Int))=Q4:=by rw[<-gJ,iY];exact λh=>h hl
   have hi:(VI a b).val=Q1 (.inl (.h4 a b (a.length:Int) 0)):=by
    simp only[VI,Q8,hb];rfl
   rcases lc (t:=ziO) (la:=a) (lb:=b) (λi=>.h4 a b (a.length:Int) i) (.inr (.kb Q3,[])) (λi=>((getD a (i:Int).toNat (zi zr)).1==(getD b (i:Int).toNat (zi zr)).1&&((getD a (i:Int).toNat (zi zr)).2==(getD b (i:Int).toNat (zi zr)).2&&Q3))) (λ_ _=>rfl) (λi _ ha hb=>by rw[zaY,ac _ _ ha,ac _ _ hb]) hl h with⟨q5,k5⟩|⟨q5,k5⟩
   ·exact⟨Q3,zx hi (k5 0 _ rfl) ow rfl,by simp[q5]⟩
   ·exact⟨Q4,zx hi k5 ow rfl,by simp[q5]⟩
  ·refine⟨Q4,zM (r:=ES) ?_ rfl,by simp;exact λe=>hl (by rw[e])⟩;simp only[VI,Q8,iY.2 hl,if_true]
 obtain⟨r,h1,h2⟩:=key;refine⟨by unfold Lo;rw[h1];rfl,?_⟩;have:xx a b=r:=by unfold xx;rw[h1];rfl
 rw[this];exact h2
theorem Tx{a b:Sem zo}(hc:a.2.1.length<=1000000)(hu:a.2.2.2.1.length<=1000000)(hr:a.t.1.length<=1000000)(he:qM 16 a.t.2=Q3):G6 a b=Q3/\(rx a b=Q3↔a=b):=by
 obtain⟨a1,a2,a3,a4,a5,a6⟩:=a;obtain⟨b1,b2,b3,b4,b5,b6⟩:=b;obtain⟨c1,d1⟩:=Tk (b:=b2) (show a2.length<=1000000 from hc);obtain⟨c2,d2⟩:=JA (b:=b4) (show a4.length<=1000000 from hu);obtain⟨c3,d3⟩:=Tl (b:=b5) (show a5.length<=1000000 from hr);obtain⟨c4,d4⟩:=Jv 16 a6 b6 he;have hv:G7 (a1,a2,a3,a4,a5,a6) (b1,b2,b3,b4,b5,b6)=Q1 ((bif a1==b1 then bif a3==b3 then bif xw a2 b2 then bif nM a4 b4 then bif xx a5 b5 then ff 16 a6 b6 else Q4 else Q4 else Q4 else Q4 else Q4),()):=by
  refine zM (r:=(.bool _,[])) ?_ rfl;simp only[zgp,Q8,zl,c1,c2,c3,c4];rw[if_pos];cases(a1==b1)<;>cases(a3==b3)<;>cases xw a2 b2<;>cases nM a4 b4<;>cases xx a5 b5<;>rfl
 refine⟨by unfold G6;rw[hv];rfl,?_⟩;have:rx (a1,a2,a3,a4,a5,a6) (b1,b2,b3,b4,b5,b6)=(bif a1==b1 then bif a3==b3 then bif xw a2 b2 then bif nM a4 b4 then bif xx a5 b5 then ff 16 a6 b6 else Q4 else Q4 else Q4 else Q4 else Q4):=by unfold rx;rw[hv];rfl
 rw[this];simp only[cm];rw[<-d1,<-d2,<-d3,<-d4];have x1:(a1==b1)=Q3↔a1=b1:=aX;have x3:(a3==b3)=Q3↔a3=b3:=aX;rw[<-x1,<-x3];cases(a1==b1)<;>cases(a3==b3)<;>cases xw a2 b2<;>cases nM a4 b4<;>cases xx a5 b5<;>cases ff 16 a6 b6<;>simp
theorem SJ{a b:Sem zE}(hc:a.2.2.2.1.2.1.length<=1000000)(hu:a.2.2.2.1.2.2.2.1.length<=1000000)(hr:a.2.2.2.1.t.1.length<=1000000)(he:qM 16 a.2.2.2.1.t.2=Q3)(hx:a.t.1.length<=1000000):FY a b=Q3/\(IQ a b=Q3↔a=b):=by
 obtain⟨a1,a2,a3,a4,a5,a6⟩:=a;obtain⟨b1,b2,b3,b4,b5,b6⟩:=b;obtain⟨c1,d1⟩:=Tx (b:=b4) hc hu hr he;obtain⟨c2,d2⟩:=JA (b:=b5) (show a5.length<=1000000 from hx);have c1':G6 (a4.1,a4.2.1,a4.2.2.1,a4.2.2.2.1,a4.t.1,a4.t.2) (b4.1,b4.2.1,b4.2.2.1,b4.2.2.2.1,b4.t.1,b4.t.2)=Q3:=c1;have hs:rx (a4.1,a4.2.1,a4.2.2.1,a4.2.2.2.1,a4.t.1,a4.t.2) (b4.1,b4.2.1,b4.2.2.1,b4.2.2.2.1,b4.t.1,b4.t.2)=rx a4 b4:=rfl;have hv:FZ (a1,a2,a3,a4,a5,a6) (b1,b2,b3,b4,b5,b6)=Q1 ((bif a1==b1 then bif a2==b2 then bif a3==b3 then bif a6==b6 then bif rx a4 b4 then nM a5 b5 else Q4 else Q4 else Q4 else Q4 else Q4),()):=by
  refine zM (r:=(.bool _,[])) ?_ rfl;simp only[zgk,Q8,zl,c1',hs,c2];rw[if_pos];cases(a1==b1)<;>cases(a2==b2)<;>cases(a3==b3)<;>cases(a6==b6)<;>cases rx a4 b4<;>rfl
 refine⟨by unfold FY;rw[hv];rfl,?_⟩;have:IQ (a1,a2,a3,a4,a5,a6) (b1,b2,b3,b4,b5,b6)=(bif a1==b1 then bif a2==b2 then bif a3==b3 then bif a6==b6 then bif rx a4 b4 then nM a5 b5 else Q4 else Q4 else Q4 else Q4 else Q4):=by unfold IQ;rw[hv];rfl
 rw[this];simp only[cm];rw[<-d1,<-d2];have x1:(a1==b1)=Q3↔a1=b1:=aX;have x2:(a2==b2)=Q3↔a2=b2:=aX;have x3:(a3==b3)=Q3↔a3=b3:=aX;have x6:(a6==b6)=Q3↔a6=b6:=aX;rw[<-x1,<-x2,<-x3,<-x6];cases(a1==b1)<;>cases(a2==b2)<;>cases(a3==b3)<;>cases(a6==b6)<;>cases rx a4 b4<;>cases nM a5 b5<;>simp
theorem nB.may{t:Sem zo}(h:nB t)(ho:(t.t.2.op==[])=Q4):cW t.t.2=Q3:=by
 have hc:=h.chk;unfold ip at hc;have hn:ff 16 t.t.2 vZ=Q4:=by rw[Cl,ho];rfl
 rw[hn,if_neg sw]at hc;rcases zF (cW t.t.2)with c|c
 ·exact c
 ·have ht:bD t.t.2 t.2.1=(0,1):=by unfold bD;rw[c];rfl
  rw[ht]at hc;cases hc
theorem Ks(t:Sem zo)(row:List (Sem zf))(i:Int):eh t row [] i=if Hf (jG t.t.2 t.2.1 row) 0=Q3 then(9:Int)else 0:=by rw[eh];rfl
theorem w7(t:Sem zo)(row:List (Sem zf))(x:Sem zf)(r:List (Sem zf))(i:Nat):eh t row (x::r) (i:Int)=if(bif x.1==0 then(getD t.2.1 i (zi zj)).2.2 else Q4)=Q3 then(8:Int)else if(bif x.1!=0 then x.1!=(getD t.2.1 i (zi zj)).2.1 else Q4)=Q3 then 5 else eh t row r ((i+1:Nat):Int):=by
 rw[eh];simp only[aJ];rfl
theorem AW{t:Sem zo}{row:List (Sem zf)}(hw:JO t)(hT:nB t)(hr:∀v∈row,lD v)(hl:row.length=t.2.1.length):∀(m i:Nat),row.length-i=m->i<=row.length->zV CA (m+1) (.h9 row (i:Int) (t,())) (.int .i64 (eh t row (row.drop i) (i:Int)),[])
 | 0,i,hm,hi=>by
  obtain rfl:i=row.length:=by omega
  have hcl:=hw.ncols;rw[jg,Ks];refine zV.of ?_;have h8:=hT.n8;rcases zF (t.t.2.op==[])with c|c
  ·have hm:cW t.t.2=Q4:=by
    rcases zF (cW t.t.2)with h|h
    ·rw[L9 h]at c;cases c
    ·exact h
   have hv:jG t.t.2 t.2.1 row=(0,0,[]):=by unfold jG;rw[hm];rfl
   rw[hv];simp only[CA,Q8,zz,zl];rw[c];rfl
  ·have hm:=hT.may c;have hev:=S4 (cols:=t.2.1) (row:=row) ow hr hw.chk hm;have hec:yn t.t.2 t.2.1 row=Q3:=by unfold yn;rw[hev];rfl
   have hevv:Gb t.t.2 t.2.1 row=jG t.t.2 t.2.1 row:=by unfold Gb;rw[hev];rfl
   simp only[CA,Q8,zz,zl,hec,hevv,yj,F6];rw[c];show(if Q3=Q3 then(if Hf (jG t.t.2 t.2.1 row) 0=Q3 then Q1 (Sum.inr (ai 9,[]))else Q1 (Sum.inr (ai 0,[])))else none:Option (E9⊕aw))=_;rcases zF (Hf (jG t.t.2 t.2.1 row) 0)with k|k<;>rw[k]<;>rfl
 | m+1,i,hm,hi=>by
  have hlt:i<row.length:=by omega
  have h8:=hT.n8;have ih:=AW hw hT hr hl m (i+1) ow ow;have hd:row.drop i=getD row i (zi zf)::row.drop (i+1):=by
   rw[fj hlt,aY,zQ hlt];rfl
  rw[hd,w7];have hin:zP (i:Int) t.2.1.length=Q3:=zu ow;have hv:(CA (.h9 row (i:Int) (t,()))).val=if(bif (getD row i (zi zf)).1==0 then(getD t.2.1 i (zi zj)).2.2 else Q4)=Q3 then Q1 (.inr (.int .i64 8,[]))else if(bif (getD row i (zi zf)).1!=0 then(getD row i (zi zf)).1!=(getD t.2.1 i (zi zj)).2.1 else Q4)=Q3 then Q1 (.inr (.int .i64 5,[]))else Q1 (.inl (.h9 row ((i+1:Nat):Int) (t,()))):=by
   simp only[CA,Q8,zH hlt,zu hlt,hin,aJ,if_true];rw[zq i um];cases((getD row i (zi zf)).1==0)<;>cases((getD row i (zi zf)).1!=0)<;>rfl
  rcases zF (bif (getD row i (zi zf)).1==0 then(getD t.2.1 i (zi zj)).2.2 else Q4)with c|c
  ·rw[c,if_pos Hg]at hv⊢;exact(zV.of hv).mono ow
  ·rw[c,if_neg sw]at hv⊢;rcases zF (bif (getD row i (zi zf)).1!=0 then(getD row i (zi zf)).1!=(getD t.2.1 i (zi zj)).2.1 else Q4)with c2|c2
   ·rw[c2,if_pos Hg]at hv⊢;exact(zV.of hv).mono ow
   ·rw[c2,if_neg sw]at hv⊢;exact(zR.of hv).ends ih
theorem AU{t:Sem zo}{row:List (Sem zf)}(hw:JO t)(hT:nB t)(hr:∀v∈row,lD v)(hl:row.length=t.2.1.length):∀(m i:Nat),row.length-i=m->i<=row.length->zV CA (m+2+row.length) (.h4 row (i:Int) (t,())) (.int .i64 (fN t row (row.drop i) (i:Int)),[])
 | 0,i,hm,hi=>by
  obtain rfl:i=row.length:=by omega
  rw[jg];have hv:(CA (.h4 row (row.length:Int) (t,()))).val=Q1 (.inl (.h9 row ((0:Nat):Int) (t,()))):=by
   simp only[CA,Q8,zz];rfl
  have h9:=AW hw hT hr hl row.length 0 ow ow;have e:fN t row [] (row.length:Int)=eh t row (row.drop 0) ((0:Nat):Int):=by
   rw[fN];rfl
  rw[e];exact((zR.of hv).ends h9).mono ow
 | m+1,i,hm,hi=>by
  have hlt:i<row.length:=by omega
  have h8:=hT.n8;have ih:=AU hw hT hr hl m (i+1) ow ow;have hd:row.drop i=getD row i (zi zf)::row.drop (i+1):=by
   rw[fj hlt,aY,zQ hlt];rfl
  have hvl:=(hr _ (bE (d:=zi zf) hlt)).2.2;have e:fN t row (row.drop i) (i:Int)=if(!bd (getD row i (zi zf)))=Q3 then(1:Int)else fN t row (row.drop (i+1)) ((i+1:Nat):Int):=by
   rw[hd];rw[fN];rfl
  rw[e];have hv:(CA (.h4 row (i:Int) (t,()))).val=if(!bd (getD row i (zi zf)))=Q3 then Q1 (.inr (.int .i64 1,[]))else Q1 (.inl (.h4 row ((i+1:Nat):Int) (t,()))):=by
   simp only[CA,Q8,zH hlt,zu hlt,aJ,if_true,kD hvl,m7 hvl];rw[zq i um]
  rcases zF (!bd (getD row i (zi zf)))with c|c
  ·rw[c,if_pos Hg]at hv⊢;exact(zV.of hv).mono ow
  ·rw[c,if_neg sw]at hv⊢;exact((zR.of hv).ends ih).mono ow
theorem EL{t:Sem zo}{row:List (Sem zf)}(hw:JO t)(hr:∀v∈row,lD v):yv t row=Q1 (dX t row,()):=by
 unfold dX;have hi:(zbw t row).val=if(bif !eG t then Q3 else(row.length:Int)!=(t.2.1.length:Int))=Q3 then Q1 (.inr (.int .i64 1,[]))else Q1 (.inl (.h4 row ((0:Nat):Int) (t,()))):=by
  simp only[zbw,Q8,zl,mj hw,qn hw,if_true];rfl
 rcases zF (bif !eG t then Q3 else(row.length:Int)!=(t.2.1.length:Int))with c|c
 ·rw[if_pos c]at hi⊢;exact zM hi rfl
 ·rw[if_neg (by rw[c];simp)]at hi⊢;have hm:eG t=Q3:=by
   rcases zF (eG t)with k|k
   ·exact k
   ·rw[k]at c;cases c
  rw[hm]at c;have hl:row.length=t.2.1.length:=by
   have:((row.length:Int)!=(t.2.1.length:Int))=Q4:=c;simp at this;omega
  have hT:=(kM t).1 hm;have h8:=hT.n8;exact zx hi (AU hw hT hr hl row.length 0 ow ow) ow rfl
theorem ON{t:Sem zo}{row:List (Sem zf)}(hw:JO t)(hr:∀v∈row,lD v):Gi t row=Q3:=by unfold Gi;rw[EL hw hr];rfl
theorem S6{t:Sem zo}{row:List (Sem zf)}(hw:JO t)(hr:∀v∈row,lD v):La t row=dX t row:=by unfold La;rw[EL hw hr];rfl
theorem eq3(a b:Sem zf):(a.1==b.1&&(a.2.1==b.2.1&&(a.2.2==b.2.2&&Q3)))=Q3↔a=b:=by
 obtain⟨k,n,s⟩:=a;obtain⟨k',n',s'⟩:=b;simp
theorem t7{rows:List (List (Sem zf))}{c:Int}(hc:∀r∈rows,zP c (length r)=Q3)(hl:rows.length<=1000):∃b,tZ rows c=Q1 (b,())/\(b=Q4↔qJ rows c):=by
 have h2:=lN (t:=Dd) (Φ:=λr=>r=(.kb Q3,[])) 1002 (λi=>.h2 rows c (i:Int)) (λi=>∀k,k<i->¬((ao c (getD rows i (zi zf.sl))).1≠0/\ao c (getD rows i (zi zf.sl))=ao c (getD rows k (zi zf.sl)))) rows.length (by
  intro i hi _;have hv:(Dd (.h2 rows c (i:Int))).val=Q1 (.inl (.h5 rows c (i:Int) ((0:Nat):Int))):=by
   simp only[Dd,Q8,zH hi];rfl
  have h5:=lN (t:=Dd) (Φ:=λr=>r=(.kb Q3,[])) 1 (λk=>.h5 rows c (i:Int) (k:Int)) (λk=>¬((ao c (getD rows i (zi zf.sl))).1≠0/\ao c (getD rows i (zi zf.sl))=ao c (getD rows k (zi zf.sl)))) i (by
   intro k hk _;have hk2:k<rows.length:=by omega
   have hv:(Dd (.h5 rows c (i:Int) (k:Int))).val=if(bif (ao c (getD rows i (zi zf.sl))).1!=0 then(ao c (getD rows i (zi zf.sl))).1==(ao c (getD rows k (zi zf.sl))).1&&((ao c (getD rows i (zi zf.sl))).2.1==(ao c (getD rows k (zi zf.sl))).2.1&&((ao c (getD rows i (zi zf.sl))).2.2==(ao c (getD rows k (zi zf.sl))).2.2&&Q3))else Q4)=Q3 then Q1 (.inr (.kb Q3,[]))else Q1 (.inl (.h5 rows c (i:Int) ((k+1:Nat):Int))):=by
    simp only[Dd,Q8,zH hk,zu hi,zu hk2,hc _ (bE (d:=zi zf.sl) hi),hc _ (bE (d:=zi zf.sl) hk2),aJ,if_true];rw[if_pos,zq k um];cases((getD (getD rows i (zi zf.sl)) (toNat c) (zi zf)).1!=0)<;>rfl
   have he:=eq3 (ao c (getD rows i (zi zf.sl))) (ao c (getD rows k (zi zf.sl)));rcases zF ((ao c (getD rows i (zi zf.sl))).1!=0)with d1|d1
   ·have d1':(ao c (getD rows i (zi zf.sl))).1≠0:=bne_iff_ne.1 d1;rcases zF ((ao c (getD rows i (zi zf.sl))).1==(ao c (getD rows k (zi zf.sl))).1&&((ao c (getD rows i (zi zf.sl))).2.1==(ao c (getD rows k (zi zf.sl))).2.1&&((ao c (getD rows i (zi zf.sl))).2.2==(ao c (getD rows k (zi zf.sl))).2.2&&Q3)))with d2|d2
    ·exact .inr ⟨λh=>h ⟨d1',he.1 d2⟩,_,zV.of (by rw[hv,d1,d2,if_pos Hg]),rfl⟩
    ·exact .inl ⟨λh=>(by rw[he.2 h.2]at d2;cases d2),zR.of (by rw[hv,d1,d2,if_neg sw])⟩
   ·refine .inl ⟨λh=>h.1 (by simpa using d1),zR.of (by rw[hv,d1,if_neg sw])⟩)
  rcases h5 with⟨p5,g5⟩|⟨p5,r,g5,hr⟩
  ·have hv5:(Dd (.h5 rows c (i:Int) (i:Int))).val=Q1 (.inl (.h2 rows c ((i+1:Nat):Int))):=by
    simp only[Dd,Q8,zz];rw[zq i um];rfl
   exact .inl ⟨p5,(((zR.of hv).trans g5).trans (zR.of hv5)).mono ow⟩
  ·exact .inr ⟨p5,r,((zR.of hv).ends g5).mono ow,hr⟩)
 have hu:(∀i,i<rows.length->∀k,k<i->¬((ao c (getD rows i (zi zf.sl))).1≠0/\ao c (getD rows i (zi zf.sl))=ao c (getD rows k (zi zf.sl))))↔qJ rows c:=by
  unfold qJ;rw[List.pairwise_iff_getElem];have e:∀i(hi:i<rows.length),getD rows i (zi zf.sl)=rows[i]:=λi hi=>by rw[aY,zQ hi,dn]
  constructor
  ·intro h i j hi hj hij hne heq;have:=h j hj i hij;rw[e i hi,e j hj]at this;exact this ⟨by rw[<-heq];exact hne,heq.symm⟩
  ·rintro h i hi k hk ⟨h1,h2⟩;rw[e i hi]at h1 h2;rw[e k ow]at h2;exact h k i ow hi hk (by rw[<-h2];exact h1) h2.symm
 have hi:(zgq rows c).val=Q1 (.inl (.h2 rows c ((0:Nat):Int))):=rfl;rcases h2 with⟨p2,g2⟩|⟨p2,r,g2,hr⟩
 ·refine⟨Q4,zx hi (g2.ends (zV.of (r:=(.kb Q4,[])) ?_)) ow rfl,⟨λ_=>hu.1 p2,λ_=>rfl⟩⟩;simp only[Dd,Q8,zz];rfl
 ·subst hr;exact⟨Q3,zx hi g2 ow rfl,⟨λh=>(by cases h),λh=>absurd (hu.2 h) p2⟩⟩
theorem Jb{t:Sem zo}{row:List (Sem zf)}(hw:JO t)(hm:eG t=Q3)(hk:zP t.2.2.1 row.length=Q3):BS t row=Q1 (ao t.2.2.1 row,()):=by
 unfold BS al cT;have h2:Q0 (LT.lt (α:=Int) t.2.2.1 (row.length:Int))=Q3:=by
  unfold zP at hk;simp only[aD]at hk;exact hk.2
 simp only[zgs,Q8,zl,mj hw,qn hw,hm,hk,h2];rfl
theorem Ja{t:Sem zo}{row:List (Sem zf)}(hw:JO t)(hm:eG t=Q3)(hk:zP t.2.2.1 row.length=Q3):Gp t row=Q3:=by unfold Gp;rw[Jb hw hm hk];rfl
theorem M6{t:Sem zo}{row:List (Sem zf)}(hw:JO t)(hm:eG t=Q3)(hk:zP t.2.2.1 row.length=Q3):M5 t row=ao t.2.2.1 row:=by unfold M5;rw[Jb hw hm hk];rfl
theorem EN{x:Sem zh}{v:Sem zf}(hw:JO x.1)(hm:eG x.1=Q3)(hk:∀r∈x.2,zP x.1.2.2.1 (length r)=Q3)(hl:x.2.length<=1000):yx x v=Q1 (ae (λr=>dv r x.1.2.2.1 v) x.2 0,()):=by
 have hh:∀r∈x.2,dv r x.1.2.2.1 v=((ao x.1.2.2.1 r).1==v.1&&((ao x.1.2.2.1 r).2.1==v.2.1&&((ao x.1.2.2.1 r).2.2==v.2.2&&Q3))):=by
  intro r hr;have:=hk r hr;unfold zP at this;simp only[aD]at this;unfold dv;rw[show Q0 (GE.ge (α:=Int) x.1.2.2.1 0)=Q3 from this.1,this.2];rfl
 have hf:=lN (t:=Ts) (Φ:=λr=>r=(.int .i64 (ae (λr=>dv r x.1.2.2.1 v) x.2 0),[])) 1 (λi=>.h2 (i:Int) (x,()) (v,())) (λi=>dv (getD x.2 i (zi zf.sl)) x.1.2.2.1 v=Q4) x.2.length (by
  intro i hi hj;have hmem:=bE (d:=zi zf.sl) hi;have hkk:=hk _ hmem;have h2:Q0 (LT.lt (α:=Int) x.1.2.2.1 ((getD x.2 i (zi zf.sl)).length:Int))=Q3:=by
   unfold zP at hkk;simp only[aD]at hkk;exact hkk.2
  have hv:(Ts (.h2 (i:Int) (x,()) (v,()))).val=if dv (getD x.2 i (zi zf.sl)) x.1.2.2.1 v=Q3 then Q1 (.inr (.int .i64 i,[]))else Q1 (.inl (.h2 ((i+1:Nat):Int) (x,()) (v,()))):=by
   rw[hh _ hmem];simp only[Ts,Q8,zl,zH hi,zu hi,hkk,h2,mj hw,qn hw,hm,aJ,ag,if_true,qV];rw[zq i um]
  rcases zF (dv (getD x.2 i (zi zf.sl)) x.1.2.2.1 v)with h|h
  ·have hp:=l7 (p:=λr=>dv r x.1.2.2.1 v) (d:=zi zf.sl) x.2 0 i hi h hj;refine .inr ⟨by rw[h];simp,_,zV.of (by rw[hv,if_pos h]),?_⟩;show _=(ai (ae (λr=>dv r x.1.2.2.1 v) x.2 0),[]);rw[hp];simp
  ·exact .inl ⟨h,zR.of (by rw[hv,if_neg (by rw[h];simp)])⟩)
 have hi:(zgt x v).val=Q1 (.inl (.h2 ((0:Nat):Int) (x,()) (v,()))):=rfl;rcases hf with⟨h1,h2⟩|⟨h1,r,h2,rfl⟩
 ·have hp:=ma (p:=λr=>dv r x.1.2.2.1 v) (d:=zi zf.sl) x.2 0 h1;rw[hp];refine zx hi (h2.ends (zV.of (r:=(.int .i64 (-1),[])) ?_)) ow rfl;simp only[Ts,Q8,zz];rfl
 ·exact zx hi h2 ow rfl
theorem OP{x:Sem zh}{v:Sem zf}(hw:JO x.1)(hm:eG x.1=Q3)(hk:∀r∈x.2,zP x.1.2.2.1 (length r)=Q3)(hl:x.2.length<=1000):Gn x v=Q3:=by unfold Gn;rw[EN hw hm hk hl];rfl
theorem S7{x:Sem zh}{v:Sem zf}(hw:JO x.1)(hm:eG x.1=Q3)(hk:∀r∈x.2,zP x.1.2.2.1 (length r)=Q3)(hl:x.2.length<=1000):Lb x v=ae (λr=>dv r x.1.2.2.1 v) x.2 0:=by unfold Lb;rw[EN hw hm hk hl];rfl
structure TO (x:Sem zh):Prop where
 t:JO x.1
 rows:x.2.length<=1000
 vals:∀r∈x.2,∀v∈(r:List (Sem zf)),lD v
theorem TO.short{x:Sem zh}(h:TO x):gz x:=⟨h.t.nuq,h.t.nrf,h.rows⟩
theorem Eh{t:Sem zo}{row:List (Sem zf)}:∀(r:List (Sem zf))(i:Nat),eh t row r (i:Int)=(0:Int)->∀j,j<r.length->(getD t.2.1 (i+j) (zi zj)).2.2=Q3->(getD r j (zi zf)).1≠0
 |[],_,_,j,hj,_=>by simp at hj
 | x::r,i,h,j,hj,hn=>by
  rw[w7]at h;split at h
  ·cases h
  rename_i c;split at h
  ·cases h
  cases j with
  | zero=>
   intro h0;have h0':(x.1==0)=Q3:=by simpa using h0
   rw[h0']at c;exact c hn
  | succ j=>
   have:=Eh r (i+1) h j (by simpa using hj) (by rw[show i+1+j=i+(j+1) by omega];exact hn);exact this
theorem Ej{t:Sem zo}{row:List (Sem zf)}:∀(r:List (Sem zf))(i:Nat),fN t row r (i:Int)=(0:Int)->(∀v∈r,bd v=Q3)/\eh t row row ((0:Nat):Int)=(0:Int)
 | [],i,h=>by
  rw[fN]at h;exact⟨λv hv=>(by cases hv),h⟩
 | x::r,i,h=>by
  have e:fN t row (x::r) (i:Int)=if(!bd x)=Q3 then(1:Int)else fN t row r ((i+1:Nat):Int):=by
   rw[fN];rfl
  rw[e]at h;split at h
  ·cases h
  rename_i c;obtain⟨h1,h2⟩:=Ej r (i+1) h;refine⟨λv hv=>?_,h2⟩;rcases ce.1 hv with rfl|hv
  ·simpa using c
  ·exact h1 v hv
theorem gD{t:Sem zo}{row:List (Sem zf)}(h:dX t row=(0:Int)):row.length=t.2.1.length/\(∀v∈row,bd v=Q3)/\∀j,j<row.length->(getD t.2.1 j (zi zj)).2.2=Q3->(getD row j (zi zf)).1≠0:=by
 have hl:=AX (t:=t) (row:=row) (by simpa using h);unfold dX at h;split at h
 ·cases h
 obtain⟨h1,h2⟩:=Ej row 0 h;refine⟨hl,h1,λj hj hn=>?_⟩;have:=Eh row 0 h2 j hj (by rwa [kd]);exact this
theorem KU{a b:Sem zf}(ha:bd a=Q3)(hb:bd b=Q3)(h:cJ a b=(0:Int)):a=b:=by
 unfold cJ ap at h;rw[ha,hb]at h;have h:FW [rL a.1 b.1,kg a.2.1 b.2.1,nS a.2.2 b.2.2]=(0:Int):=h;rw[<-R0]at h;rcases zF (a.1==b.1&&(a.2.1==b.2.1&&(a.2.2==b.2.2&&Q3)))with c|c
 ·exact(eq3 a b).1 c
 ·rw[if_neg (by rw[c];simp)]at h;split at h<;>cases h
theorem Gm{x:Sem zh}(hw:TO x):∃e:Int,ml x=Q1 (e,())/\(e=0↔eJ x):=by
 have hsw:=hw.rows;have hsu:=hw.t.nuq;by_cases hm:eG x.1=Q3
 case neg=>
  have hm':eG x.1=Q4:=by simpa using hm
  refine⟨1,?_,λh=>(by cases h),λh=>absurd h.may hm⟩;unfold ml al cT;simp only[Rl,Q8,zl,mj hw.t,qn hw.t,hm'];rfl
 by_cases hwl:x.2.length<=200
 case neg=>
  refine⟨13,?_,λh=>(by cases h),λh=>absurd h.few hwl⟩;unfold ml al cT;simp only[Rl,Q8,zl,mj hw.t,qn hw.t,hm];rw[if_pos trivial,if_neg sw,if_pos sg];rfl
 have hi:(Rl x).val=Q1 (.inl (.h6 ((0:Nat):Int) (x,()))):=by
  simp only[Rl,Q8,zl,mj hw.t,qn hw.t,hm];rw[if_pos trivial,if_neg sw,if_neg sg];rfl
 obtain⟨hkc,hrc,huc,_,_⟩:=gP hm;have h6:=lN (t:=pj) (Φ:=TL) 1 (λi=>.h6 (i:Int) (x,())) (λi=>dX x.1 (getD x.2 i (zi zf.sl))=(0:Int)) x.2.length (by
  intro i hi _;have hvr:=hw.vals _ (bE (d:=zi zf.sl) hi);have hv:(pj (.h6 (i:Int) (x,()))).val=if(dX x.1 (getD x.2 i (zi zf.sl))!=0)=Q3 then Q1 (.inr (.int .i64 (dX x.1 (getD x.2 i (zi zf.sl))),[]))else Q1 (.inl (.h6 ((i+1:Nat):Int) (x,()))):=by
   simp only[pj,Q8,zl,zH hi,zu hi,aJ,ON hw.t hvr,S6 hw.t hvr,if_true];rw[zq i um]
  by_cases h:dX x.1 (getD x.2 i (zi zf.sl))=(0:Int)
  ·refine .inl ⟨h,zR.of ?_⟩;rw[hv,if_neg (by rw[h];simp)]
  ·refine .inr ⟨h,_,zV.of (by rw[hv,if_pos (by simpa using h)]),_,rfl,h⟩)
 rcases h6 with⟨hf,h6⟩|⟨hf,r,h6,e,he,hne⟩
 case inr=>
  subst he;exact⟨e,zx hi h6 ow rfl,λh=>absurd h hne,λh=>absurd ((aq (Q:=λr=>dX x.1 r=(0:Int))).2 h.fits) hf⟩
 have hfits:=(aq (Q:=λr=>dX x.1 r=(0:Int))).1 hf;have hlen:∀r∈x.2,length r=x.1.2.1.length:=λr hr=>(gD (hfits r hr)).1
 have hin:∀c,CR c x.1.2.1.length->∀r∈x.2,zP c (length r)=Q3:=λc hc r hr=>by
  rw[hlen r hr];exact tw hc
 obtain⟨b,hb,hbu⟩:=t7 (rows:=x.2) (c:=x.1.2.2.1) (hin _ hkc) hsw;have hbc:mn x.2 x.1.2.2.1=Q3:=by unfold mn;rw[hb];rfl
 have hbv:qq x.2 x.1.2.2.1=b:=by unfold qq;rw[hb];rfl
 have hv6:(pj (.h6 (x.2.length:Int) (x,()))).val=if b=Q3 then Q1 (.inr (.int .i64 7,[]))else Q1 (.inl (.h14 ((0:Nat):Int) (x,()))):=by
  simp only[pj,Q8,zz,hbc,hbv];rfl
 by_cases hb1:b=Q3
 ·refine⟨7,zx hi (h6.ends (zV.of (by rw[hv6,if_pos hb1]))) ow rfl,λh=>(by cases h),λh=>?_⟩;have:=hbu.2 h.key;rw[hb1]at this;cases this
 have hkey:qJ x.2 x.1.2.2.1:=hbu.1 (by simpa using hb1);have g14:zR pj _ (.h6 ((0:Nat):Int) (x,())) _:=h6.trans (zR.of (by rw[hv6,if_neg hb1]));have h14:=lN (t:=pj) (Φ:=TL) 1 (λi=>.h14 (i:Int) (x,())) (λi=>qJ x.2 (getD x.1.2.2.2.1 i (zi zg))) x.1.2.2.2.1.length (by
  intro i hi _;obtain⟨b,hb,hbu⟩:=t7 (rows:=x.2) (c:=getD x.1.2.2.2.1 i (zi zg)) (hin _ (huc _ (bE hi))) hsw;have hbc:mn x.2 (getD x.1.2.2.2.1 i (zi zg))=Q3:=by unfold mn;rw[hb];rfl
  have hbv:qq x.2 (getD x.1.2.2.2.1 i (zi zg))=b:=by unfold qq;rw[hb];rfl
  have hv:(pj (.h14 (i:Int) (x,()))).val=if b=Q3 then Q1 (.inr (.int .i64 7,[]))else Q1 (.inl (.h14 ((i+1:Nat):Int) (x,()))):=by
   simp only[pj,Q8,zH hi,zu hi,if_true,aJ,hbc,hbv];rw[zq i um]
  by_cases h:b=Q3
  ·refine .inr ⟨λhu=>?_,_,zV.of (by rw[hv,if_pos h]),7,rfl,by decide⟩;have:=hbu.2 hu;rw[h]at this;cases this
  ·exact .inl ⟨hbu.1 (by simpa using h),zR.of (by rw[hv,if_neg h])⟩)
 rcases h14 with⟨hq,h14⟩|⟨hq,r,h14,e,he,hne⟩
 case inr=>
  subst he;exact⟨e,zx hi (g14.ends h14) ow rfl,λh=>absurd h hne,λh=>absurd ((aq (Q:=λu=>qJ x.2 u)).2 h.uniq) hq⟩
 have huniq:=(aq (Q:=λu=>qJ x.2 u)).1 hq;have hv14:(pj (.h14 (x.1.2.2.2.1.length:Int) (x,()))).val=Q1 (.inl (.h19 ((0+1:Nat):Int) (x,()))):=by
  simp only[pj,Q8,zz];rfl
 have g19:=(g14.trans h14).trans (zR.of hv14);have hstep:∀i,i+1<x.2.length->(xL (ao x.1.2.2.1 (getD x.2 i (zi zf.sl))) (ao x.1.2.2.1 (getD x.2 (i+1) (zi zf.sl)))↔Q0 (GT.gt (α:=Int) (cJ (ao x.1.2.2.1 (getD x.2 i (zi zf.sl))) (ao x.1.2.2.1 (getD x.2 (i+1) (zi zf.sl)))) 0)=Q4):=by
  intro i h2;have h1:i<x.2.length:=by omega
  have m1:=bE (d:=zi zf.sl) h1;have m2:=bE (d:=zi zf.sl) h2;obtain⟨l1,f1,n1⟩:=gD (hfits _ m1);obtain⟨l2,f2,_⟩:=gD (hfits _ m2);have hT:=(kM x.1).1 hm;obtain⟨k1,k2⟩:=hT.key;have hk1:toNat x.1.2.2.1<(getD x.2 i (zi zf.sl)).length:=by rw[l1];omega
  have hk2:toNat x.1.2.2.1<(getD x.2 (i+1) (zi zf.sl)).length:=by rw[l2];omega
  unfold xL;constructor
  ·intro h;exact ah ow
  ·intro h;have h:¬GT.gt (α:=Int) (cJ (ao x.1.2.2.1 (getD x.2 i (zi zf.sl))) (ao x.1.2.2.1 (getD x.2 (i+1) (zi zf.sl)))) 0:=of_decide_eq_false h;by_cases h0:@Eq Int (cJ (ao x.1.2.2.1 (getD x.2 i (zi zf.sl))) (ao x.1.2.2.1 (getD x.2 (i+1) (zi zf.sl)))) 0
   ·exfalso;have he:=KU (f1 _ (bE hk1)) (f2 _ (bE hk2)) h0;have hne:=n1 _ hk1 hT.nn;have hp:=(List.pairwise_iff_getElem.1 hkey) i (i+1) h1 h2 ow;have e1:getD x.2 i (zi zf.sl)=x.2[i]:=by rw[aY,zQ h1,dn]
    have e2:getD x.2 (i+1) (zi zf.sl)=x.2[i+1]:=by rw[aY,zQ h2,dn]
    rw[e1]at hne he;rw[e2]at he;exact hp hne he
   ·omega
 have h19:=lN (t:=pj) (Φ:=TL) 1 (λi=>.h19 ((i+1:Nat):Int) (x,())) (λi=>xL (ao x.1.2.2.1 (getD x.2 i (zi zf.sl))) (ao x.1.2.2.1 (getD x.2 (i+1) (zi zf.sl)))) (x.2.length-1) (by
  intro i hi _;have h1:i<x.2.length:=by omega
  have h2:i+1<x.2.length:=by omega
  have m1:=bE (d:=zi zf.sl) h1;have m2:=bE (d:=zi zf.sl) h2;have k1:=hin _ hkc _ m1;have k2:=hin _ hkc _ m2;have o1:∀r∈x.2,(ao x.1.2.2.1 r).2.2.length<=1000000:=by
   intro r hr;by_cases h:toNat x.1.2.2.1<length r
   ·exact(hw.vals r hr _ (bE h)).2.2
   ·unfold ao;rw[aY,eX ow];simp[zi]
  have hv:(pj (.h19 ((i+1:Nat):Int) (x,()))).val=if Q0 (GT.gt (α:=Int) (cJ (ao x.1.2.2.1 (getD x.2 i (zi zf.sl))) (ao x.1.2.2.1 (getD x.2 (i+1) (zi zf.sl)))) 0)=Q3 then Q1 (.inr (.int .i64 15,[]))else Q1 (.inl (.h19 ((i+1+1:Nat):Int) (x,()))):=by
   simp only[pj,zl,pz i um];simp only[Q8,zH h2,zu h2,zu h1,aJ,Prod.eta,Ja hw.t hm k1,Ja hw.t hm k2,M6 hw.t hm k1,M6 hw.t hm k2,K4 (o1 _ m1) (o1 _ m2),OL (o1 _ m1) (o1 _ m2),if_true];rw[zq (i+1) um]
  rcases zF (Q0 (GT.gt (α:=Int) (cJ (ao x.1.2.2.1 (getD x.2 i (zi zf.sl))) (ao x.1.2.2.1 (getD x.2 (i+1) (zi zf.sl)))) 0))with c|c
  ·exact .inr ⟨λh=>(by rw[(hstep i h2).1 h]at c;cases c),_,zV.of (by rw[hv,if_pos c]),15,rfl,by decide⟩
  ·exact .inl ⟨(hstep i h2).2 c,zR.of (by rw[hv,if_neg (by rw[c];simp)])⟩)
 rcases h19 with⟨hr,h19⟩|⟨hr,r,h19,e,he,hne⟩
 case inr=>
  subst he;exact⟨e,zx hi (g19.ends h19) ow rfl,λh=>absurd h hne,λh=>absurd h.rise hr⟩
 have hv19:(pj (.h19 ((x.2.length-1+1:Nat):Int) (x,()))).val=Q1 (.inr (.int .i64 0,[])):=by
  simp only[pj,Q8];rw[if_neg sg]
 exact⟨0,zx hi (g19.ends (h19.ends (zV.of hv19))) ow rfl,λ_=>⟨hm,hwl,hfits,hkey,huniq,hr⟩,λ_=>rfl⟩
theorem Jc(s:zA):∀(l:List (Sem zh))(i:Nat),gh s l (i:Int)=ae (λx:Sem zh=>x.1.1==s) l i
 |[],_=>rfl
 | x::r,i=>by
  rw[gh,ae];have h:=Jc s r (i+1);have e:(((i+1:Nat)):Int)=(i:Int)+1:=by omega
  rw[e]at h;by_cases hx:(x.1.1==s)=Q3
  ·rw[if_pos hx,if_pos hx]
  ·rw[if_neg hx,if_neg hx,h]
theorem dj(l:List (Sem zh))(s:zA):kH l s=zS l s:=Jc s l 0
theorem eJ.keys{x:Sem zh}(h:eJ x):∀r∈x.2,zP x.1.2.2.1 (length r)=Q3:=by
 intro r hr;obtain⟨h1,_⟩:=gP h.may;rw[(gD (h.fits r hr)).1];exact tw h1
theorem QP(x:Sem zh)(c:Int)(v:Sem zf):Q0 (LT.lt (α:=Int) (ae (λr=>dv r c v) x.2 0) 0)=!gG x c v:=by
 unfold gG;rcases g8 (λr=>dv r c v) x.2 0 with h|⟨h,_⟩
 ·rw[h];rfl
 ·have:Q0 (ae (λr=>dv r c v) x.2 0>=0)=Q3:=zt ow;rw[this,ah ow];rfl
theorem Gr{db:List (Sem zh)}(hok:∀x∈db,eJ x)(hw:∀x∈db,TO x)(hl:db.length<=13):∃b,ua db=Q1 (b,())/\(b=Q3↔Di db):=by
 have h2:=lN (t:=qP) (Φ:=TM) 1010000 (λi=>.h2 db (i:Int)) (λi=>∀f∈(getD db i (zi zh)).1.t.1,LE.le (α:=Int) 0 (zS db f.2)/\∀row∈(getD db i (zi zh)).2,(ao f.1 row).1≠0->gG (aA db f.2) (aA db f.2).1.2.2.1 (ao f.1 row)=true) db.length (by
  intro i hi _;have hm:=bE (d:=zi zh) hi;have s1:=(hw _ hm).t.nrf;have s2:=(hw _ hm).rows;have hcl:=(hok _ hm).cols;generalize hx:getD db i (zi zh)=x at*;have hv:(qP (.h2 db (i:Int))).val=Q1 (.inl (.h5 db (i:Int) ((0:Nat):Int))):=by
   simp only[qP,Q8,zH hi];rfl
  have h5:=lN (t:=qP) (Φ:=TM) 1002 (λk=>.h5 db (i:Int) (k:Int)) (λk=>LE.le (α:=Int) 0 (zS db (getD x.1.t.1 k (zi zr)).2)/\∀row∈x.2,(ao (getD x.1.t.1 k (zi zr)).1 row).1≠0->gG (aA db (getD x.1.t.1 k (zi zr)).2) (aA db (getD x.1.t.1 k (zi zr)).2).1.2.2.1 (ao (getD x.1.t.1 k (zi zr)).1 row)=Q3) x.1.t.1.length (by
   intro k hk _;have hfm:=bE (d:=zi zr) hk;have hcf:=hcl _ hfm;generalize hf:getD x.1.t.1 k (zi zr)=f at*;have hv:(qP (.h5 db (i:Int) (k:Int))).val=if Q0 (LT.lt (α:=Int) (zS db f.2) 0)=Q3 then Q1 (.inr (.kb Q4,[]))else Q1 (.inl (.h12 db (i:Int) (k:Int) (zS db f.2) ((0:Nat):Int) (f,()))):=by
    simp only[qP,Q8,zu hi,aJ,hx,zH hk,zu hk,hf,dj,if_true];rfl
   by_cases h1:LE.le (α:=Int) 0 (zS db f.2)
   ·have g1:=zR.of (t:=qP) (s:=.h5 db (i:Int) (k:Int)) (by rw[hv,if_neg (by rw[aN];omega)]);have hto:aA db f.2∈db:=bE (by
     rcases wS db f.2 with h|⟨_,h⟩
     ·rw[h]at h1;exact absurd h1 (by decide)
     ·omega)
    have htw:=hw _ hto;have hto2:=hok _ hto;have h12:=lN (t:=qP) (Φ:=TM) 1 (λj=>.h12 db (i:Int) (k:Int) (zS db f.2) (j:Int) (f,())) (λj=>(ao f.1 (getD x.2 j (zi zf.sl))).1≠0->gG (aA db f.2) (aA db f.2).1.2.2.1 (ao f.1 (getD x.2 j (zi zf.sl)))=Q3) x.2.length (by
     intro j hj _;have hv:(qP (.h12 db (i:Int) (k:Int) (zS db f.2) (j:Int) (f,()))).val=if(bif (ao f.1 (getD x.2 j (zi zf.sl))).1!=0 then !gG (aA db f.2) (aA db f.2).1.2.2.1 (ao f.1 (getD x.2 j (zi zf.sl)))else Q4)=Q3 then Q1 (.inr (.kb Q4,[]))else Q1 (.inl (.h12 db (i:Int) (k:Int) (zS db f.2) ((j+1:Nat):Int) (f,()))):=by
      simp only[qP,Q8,zl,Prod.eta,zu hi,aJ,hx,zH hj,zu hj,hcf _ (bE (d:=zi zf.sl) hj),dq h1,OP htw.t hto2.may hto2.keys htw.rows,if_true,qV];rw[S7 htw.t hto2.may hto2.keys htw.rows,QP];rw[if_pos (by cases((getD (getD x.2 j (zi zf.sl)) (toNat f.1) (zi zf)).1!=0)<;>rfl)];rw[zq j um]
     by_cases d1:(ao f.1 (getD x.2 j (zi zf.sl))).1=0
     ·exact .inl ⟨λh=>absurd d1 h,zR.of (by rw[hv,if_neg (by rw[d1];simp)])⟩
     ·have d1':((ao f.1 (getD x.2 j (zi zf.sl))).1!=0)=Q3:=by simpa using d1
      by_cases d2:gG (aA db f.2) (aA db f.2).1.2.2.1 (ao f.1 (getD x.2 j (zi zf.sl)))=Q3
      ·exact .inl ⟨λ_=>d2,zR.of (by rw[hv,if_neg (by rw[d2,d1'];simp)])⟩
      ·exact .inr ⟨λh=>d2 (h d1),_,zV.of (by rw[hv,if_pos (by rw[d1'];simpa using d2)]),rfl⟩)
    rcases h12 with⟨p12,g12⟩|⟨p12,r,g12,hr⟩
    ·have hv2:(qP (.h12 db (i:Int) (k:Int) (zS db f.2) (x.2.length:Int) (f,()))).val=Q1 (.inl (.h5 db (i:Int) ((k+1:Nat):Int))):=by
      simp only[qP,Q8,zu hi,aJ,hx,zz];rw[zq k um];rfl
     refine .inl ⟨⟨h1,?_⟩,((g1.trans g12).trans (zR.of hv2)).mono ow⟩;exact(aq (Q:=λrow=>(ao f.1 row).1≠0->gG (aA db f.2) (aA db f.2).1.2.2.1 (ao f.1 row)=Q3)).1 p12
    ·refine .inr ⟨λh=>p12 ?_,r,(g1.ends g12).mono ow,hr⟩;exact(aq (Q:=λrow=>(ao f.1 row).1≠0->gG (aA db f.2) (aA db f.2).1.2.2.1 (ao f.1 row)=Q3)).2 h.2
   ·exact .inr ⟨λh=>h1 h.1,_,(zV.of (by rw[hv,if_pos (by rw[aN];omega)])).mono ow,rfl⟩)
  rcases h5 with⟨p5,g5⟩|⟨p5,r,g5,hr⟩
  ·have hv2:(qP (.h5 db (i:Int) (x.1.t.1.length:Int))).val=Q1 (.inl (.h2 db ((i+1:Nat):Int))):=by
    simp only[qP,Q8,zu hi,aJ,hx,zz];rw[zq i um];rfl
   refine .inl ⟨?_,(((zR.of hv).trans g5).trans (zR.of hv2)).mono ow⟩;exact(aq (Q:=λf:Sem zr=>LE.le (α:=Int) 0 (zS db f.2)/\∀row∈x.2,(ao f.1 row).1≠0->gG (aA db f.2) (aA db f.2).1.2.2.1 (ao f.1 row)=Q3)).1 p5
  ·refine .inr ⟨λh=>p5 ?_,r,((zR.of hv).ends g5).mono ow,hr⟩;exact(aq (Q:=λf:Sem zr=>LE.le (α:=Int) 0 (zS db f.2)/\∀row∈x.2,(ao f.1 row).1≠0->gG (aA db f.2) (aA db f.2).1.2.2.1 (ao f.1 row)=Q3)).2 h)
 have hb:(∀i,i<db.length->∀f∈(getD db i (zi zh)).1.t.1,LE.le (α:=Int) 0 (zS db f.2)/\∀row∈(getD db i (zi zh)).2,(ao f.1 row).1≠0->gG (aA db f.2) (aA db f.2).1.2.2.1 (ao f.1 row)=Q3)↔Di db:=
  aq (Q:=λx:Sem zh=>∀f∈x.1.t.1,LE.le (α:=Int) 0 (zS db f.2)/\∀row∈x.2,(ao f.1 row).1≠0->gG (aA db f.2) (aA db f.2).1.2.2.1 (ao f.1 row)=Q3)
 have hi:(zgm db).val=Q1 (.inl (.h2 db ((0:Nat):Int))):=rfl;rcases h2 with⟨h2,h3⟩|⟨h2,r,h3,h4⟩
 ·refine⟨Q3,zx hi (h3.ends (zV.of (r:=(.kb Q3,[])) ?_)) ow rfl,λ_=>hb.1 h2,λ_=>rfl⟩;simp only[qP,Q8,zz];rfl
 ·unfold TM at h4;subst h4;exact⟨Q4,zx hi h3 ow rfl,λh=>(by cases h),λh=>absurd (hb.2 h) h2⟩
theorem Gu{db:List (Sem zh)}(hw:∀x∈db,TO x):∃e:Int,pe db=Q1 (e,())/\(e=0↔iF db):=by
 by_cases hwl:db.length<=12
 case neg=>
  refine⟨13,?_,λh=>(by cases h),λh=>absurd h.few hwl⟩;unfold pe al cT;simp only[i9p,Q8];rw[if_pos sg];rfl
 have hi:(i9p db).val=Q1 (.inl (.h4 db ((0+1:Nat):Int))):=by
  simp only[i9p,Q8];rw[if_neg sg];rfl
 have h4:=lN (t:=Tt) (Φ:=TL) 1 (λi=>.h4 db ((i+1:Nat):Int)) (λi=>Op.bytesLess (getD db i (zi zh)).1.1 (getD db (i+1) (zi zh)).1.1=Q3) (db.length-1) (by
  intro i hi _;have h1:i<db.length:=by omega
  have h2:i+1<db.length:=by omega
  have hv:(Tt (.h4 db ((i+1:Nat):Int))).val=if(!Op.bytesLess (getD db i (zi zh)).1.1 (getD db (i+1) (zi zh)).1.1)=Q3 then Q1 (.inr (.int .i64 15,[]))else Q1 (.inl (.h4 db ((i+1+1:Nat):Int))):=by
   simp only[Tt,pz i um];simp only[Q8,zH h2,zu h2,zu h1,aJ,if_true];rw[zq (i+1) um]
  by_cases h:Op.bytesLess (getD db i (zi zh)).1.1 (getD db (i+1) (zi zh)).1.1=Q3
  ·exact .inl ⟨h,zR.of (by rw[hv,if_neg (by rw[h];simp)])⟩
  ·exact .inr ⟨h,_,zV.of (by rw[hv,if_pos (by simpa using h)]),15,rfl,by decide⟩)
 rcases h4 with⟨hn,h4⟩|⟨hn,r,h4,e,he,hne⟩
 case inr=>
  subst he;exact⟨e,zx hi h4 ow rfl,λh=>absurd h hne,λh=>absurd h.names hn⟩
 have hv4:(Tt (.h4 db ((db.length-1+1:Nat):Int))).val=Q1 (.inl (.h9 db ((0:Nat):Int))):=by
  simp only[Tt,Q8];rw[if_neg sg];rfl
 have g9:=h4.trans (zR.of hv4);have h9:=lN (t:=Tt) (Φ:=TL) 1 (λi=>.h9 db (i:Int)) (λi=>eJ (getD db i (zi zh))) db.length (by
  intro i hi _;obtain⟨e,he,heq⟩:=Gm (hw _ (bE (d:=zi zh) hi));have hc:BQ (getD db i (zi zh))=Q3:=by unfold BQ;rw[he];rfl
  have hv0:Gl (getD db i (zi zh))=e:=by unfold Gl;rw[he];rfl
  have hv:(Tt (.h9 db (i:Int))).val=if(e !=0)=Q3 then Q1 (.inr (.int .i64 e,[]))else Q1 (.inl (.h9 db ((i+1:Nat):Int))):=by
   simp only[Tt,Q8,zl,zH hi,zu hi,aJ,if_true,Prod.eta,hc,hv0];rw[zq i um]
  by_cases h:e=0
  ·exact .inl ⟨heq.1 h,zR.of (by rw[hv,if_neg (by rw[h];simp)])⟩
  ·exact .inr ⟨λhr=>h (heq.2 hr),_,zV.of (by rw[hv,if_pos (by simpa using h)]),e,rfl,h⟩)
 rcases h9 with⟨hr,h9⟩|⟨hr,r,h9,e,he,hne⟩
 case inr=>
  subst he;exact⟨e,zx hi (g9.ends h9) ow rfl,λh=>absurd h hne,λh=>absurd ((aq (Q:=eJ)).2 h.rels) hr⟩
 have hrels:=(aq (Q:=eJ)).1 hr;obtain⟨b,hb,hbb⟩:=Gr (db:=db) hrels hw ow;have hc:BT db=Q3:=by unfold BT;rw[hb];rfl
 have hv0:Gq db=b:=by unfold Gq;rw[hb];rfl
 have hv9:(Tt (.h9 db (db.length:Int))).val=if(!b)=Q3 then Q1 (.inr (.int .i64 10,[]))else Q1 (.inr (.int .i64 0,[])):=by
  simp only[Tt,Q8,zz,hc,hv0];rfl
 by_cases h:b=Q3
 ·exact⟨0,zx hi (g9.ends (h9.ends (zV.of (by rw[hv9,if_neg (by rw[h];simp)])))) ow rfl,λ_=>⟨hwl,hn,hrels,hbb.1 h⟩,λ_=>rfl⟩
 ·exact⟨10,zx hi (g9.ends (h9.ends (zV.of (by rw[hv9,if_pos (by simpa using h)])))) ow rfl,λh=>(by cases h),λhB=>absurd (hbb.2 hB.bound) h⟩
theorem A8(x:Int):∀(l:List Int)(i:Nat),(∃j,∃hj:j<l.length,ez x l (i:Int)=((i+j:Nat):Int)/\l[j]=x/\∀k(hk:k<j),l[k]≠x)\/(ez x l (i:Int)=(-1:Int)/\x∉l)
 |[],i=>.inr ⟨rfl,sw⟩
 | a::r,i=>by
  rw[ez];by_cases h:x=a
  ·rw[if_pos (by simpa using h)];exact .inl ⟨0,sw,sw,h.symm,λk hk=>absurd hk ow⟩
  ·rw[if_neg (by simpa using h),show((i:Int)+1)=((i+1:Nat):Int) by omega];rcases A8 x r (i+1)with⟨j,hj,h1,h2,h3⟩|⟨h1,h2⟩
   ·refine .inl ⟨j+1,by simpa using hj,by rw[h1];congr 1;omega,h2,λk hk=>?_⟩;cases k with
    |zero=>exact λe=>h e.symm
    |succ k=>exact h3 k ow
   ·exact .inr ⟨h1,by simp[h2,h]⟩
theorem Rw(l:List Int)(x:Int):(∃j,∃hj:j<l.length,gN l x=(j:Int)/\l[j]=x/\∀k(hk:k<j),l[k]≠x)\/(gN l x=(-1:Int)/\x∉l):=by
 rcases A8 x l 0 with⟨j,hj,h1,h2⟩|h
 ·exact .inl ⟨j,hj,by show ez x l ((0:Nat):Int)=_;rw[h1,kd],h2⟩
 ·exact .inr h
def WG(c:Sem zj):Prop:=zK c.1=Q3/\LE.le (α:=Int) 1 c.2.1/\LE.le (α:=Int) c.2.1 3
theorem nB.col{t:Sem zo}(h:nB t):∀c∈t.2.1,WG c:=by
 intro c hc;obtain⟨i,hi,rfl⟩:=gY hc;have:=h.cols i hi;rw[aY,zQ hi,dn]at this;exact⟨this.1,this.2.1,this.2.2.1⟩
theorem SN{t:Sem zo}{s:zA}(h:¬LT.lt (α:=Int) (zN t s) 0):toNat (zN t s)<t.2.1.length:=by
 rcases uG t s with h1|⟨h1,h2⟩
 ·rw[h1]at h;simp at h
 ·omega
theorem nB.at{t:Sem zo}(h:nB t){s:zA}(hs:¬LT.lt (α:=Int) (zN t s) 0):WG (getD t.2.1 (toNat (zN t s)) (zi zj)):=h.col _ (tq _ _ (SN hs))
theorem Ie{db:List (Sem zh)}{n:zA}(hB:iF db)(h:(0:Int)<=zS db n):nB (au db n):=(kM _).1 (hB.rels _ (l5 h)).may
theorem EB{t:Sem zo}{names:List zA}(h:fT t names=0):(∀s∈names,¬LT.lt (α:=Int) (zN t s) 0)/\(ky t names).Nodup:=by
 unfold fT at h;split at h
 ·rename_i h1;split at h
  ·exact⟨h1,by assumption⟩
  ·cases h
 ·cases h
theorem Oy{s:Sem zk}(hw:nY s)(hst:dW s=Q3)(hm:jk s.1):zK s.2.1=Q3/\bM s.t.t.1=Q3/\(s.1=[99,111,112,121]->1<=s.2.2.2.1.length/\s.2.2.2.1.length<=8)/\(s.1=[106,111,105,110]->zK s.t.t.t=Q3)/\(s.1=[103,114,111,117,112]->s.2.2.2.1.length=2):=by
 have hp:=lw hst;rcases hm with o|o|o
 ·rw[MW hw o]at hp;simp only[aD,kz,aN]at hp;exact⟨hp.2.1,hp.1.2.1,λ_=>hp.1.1.2,λk=>(by rw[o]at k;cases k),λk=>(by rw[o]at k;cases k)⟩
 ·rw[MX hw o]at hp;simp only[aD,mX]at hp;exact⟨hp.2.1,hp.1.1,λk=>(by rw[o]at k;cases k),λ_=>hp.1.2.2.1,λk=>(by rw[o]at k;cases k)⟩
 ·rw[IT hw o]at hp;simp only[aD,gr,aN]at hp;exact⟨hp.2.1,hp.1.2.1,λk=>(by rw[o]at k;cases k),λk=>(by rw[o]at k;cases k),λ_=>hp.1.1⟩
abbrev rN(e:Int):aw:=(.tup [zPl,.int .i64 e],[])
def uV(r:aw)(x:Int×Sem zE):Prop:=aL r.2 [zE,zg] r.1=Q1 (x.2,x.1,())
theorem dN(e:Int):uV (rN e) (e,jn):=rfl
theorem zbX(st:Nat->j8)(R:aw){p:Sem zE}(hR:uV R (0,p))
  (hv:∀i,i<=p.2.2.2.1.2.1.length->(dm (st i)).val=if i<p.2.2.2.1.2.1.length then(if zY p.2.2.2.1.2.1 (getD p.2.2.2.1.2.1 i (zi zj)).1=(i:Int)then Q1 (.inl (st (i+1)))else Q1 (.inr (rN 7)))else(if qL p.2.2.2.1.t.2 p.2.2.2.1.2.1=0 then Q1 (.inr R)else Q1 (.inr (rN (qL p.2.2.2.1.t.2 p.2.2.2.1.2.1))))):
  ∃r,zV dm (p.2.2.2.1.2.1.length*1+1) (st 0) r/\uV r (ji 0 p):=by
 have hT:uI p.2.2.2.1=if∃i,i<length p.2.2.2.1.2.1/\zN p.2.2.2.1 (getD p.2.2.2.1.2.1 i (zi zj)).1≠(i:Int)then 7 else qL p.2.2.2.1.t.2 p.2.2.2.1.2.1:=rfl
 unfold ji;rw[if_pos rfl,hT]
 rcases lN (t:=dm) (Φ:=λr=>r=rN 7) 1 st (λi=>zY p.2.2.2.1.2.1 (getD p.2.2.2.1.2.1 i (zi zj)).1=(i:Int)) p.2.2.2.1.2.1.length (λi hi _=>by
  have h:=hv i ow;rw[if_pos hi]at h;by_cases c:zY p.2.2.2.1.2.1 (getD p.2.2.2.1.2.1 i (zi zj)).1=(i:Int)
  ·exact .inl ⟨c,zR.of (by rw[h,if_pos c])⟩
  ·exact .inr ⟨c,_,zV.of (by rw[h,if_neg c]),rfl⟩)with⟨h1,h2⟩|⟨h1,r,h2,rfl⟩
 ·have hn:¬∃i,i<length p.2.2.2.1.2.1/\zN p.2.2.2.1 (getD p.2.2.2.1.2.1 i (zi zj)).1≠(i:Int):=by
   rintro⟨i,hi,hne⟩;exact hne (h1 i hi)
  rw[if_neg hn];have h:=hv _ (aB _);rw[if_neg (Nat.lt_irrefl _)]at h;by_cases c:qL p.2.2.2.1.t.2 p.2.2.2.1.2.1=0
  ·rw[if_pos c]at h⊢;exact⟨_,(h2.ends (zV.of h)).mono ow,hR⟩
  ·rw[if_neg c]at h⊢;exact⟨_,(h2.ends (zV.of h)).mono ow,dN _⟩
 ·have hy:∃i,i<length p.2.2.2.1.2.1/\zN p.2.2.2.1 (getD p.2.2.2.1.2.1 i (zi zj)).1≠(i:Int):=by
   apply rF;intro hn;refine h1 λi hi=>?_
   apply rF;exact λhc=>hn ⟨i,hi,hc⟩
  rw[if_pos hy,if_neg (by decide)];exact⟨_,h2.mono ow,dN _⟩
structure yT (s:Sem zk):Prop where
 wf:rD s.t.t.1
 may:(s.t.t.1.op==[])=Q4->cW s.t.t.1=Q3
abbrev plQ(z:zn NS):Sem zE:=(z.1,z.2.1,z.2.2.1,(z.2.2.2.1,z.t.1,z.t.2.1,[],[],z.t.q.1),z.t.q.2.1,z.t.t.1)
theorem zhn{s:Sem zk}(hs:yT s)(z1:zn jw)(z:zn zaS)(hz:z.t.q.1=s.t.t.1)(hl:length z.t.1<=1000):
  ∃r,zV dm (length z.t.1*1+1) (.h64 ((0:Nat):Int) (s,()) z1 z) r/\uV r (ji 0 (plQ z)):=by
 obtain⟨k1,k2⟩:=BR (cols:=z.t.1) hs.wf ow hs.may;refine zbX (p:=plQ z) (λi=>.h64 (i:Int) (s,()) z1 z) ?R ?h ?v
 case v=>
  intro i hi;by_cases h:i<length z.t.1
  ·have e1:dt z.t.1 (getD z.t.1 i (zi zj)).1=Q3:=iP ow;have e2:eC z.t.1 (getD z.t.1 i (zi zj)).1=zY z.t.1 (getD z.t.1 i (zi zj)).1:=j4 ow;rw[if_pos h];simp only[dm,rE,Q8,zH h,zu h,aJ,e1,e2,if_true];rw[zq i um];by_cases c:zY z.t.1 (getD z.t.1 i (zi zj)).1=(i:Int)
   ·rw[if_pos c,if_neg (by simpa using c)]
   ·rw[if_neg c,if_pos (by simpa using c)]
  ·obtain rfl:i=length z.t.1:=Nat.le_antisymm hi ow;rw[if_neg h];show(dm (.h64 _ _ _ _)).val=if qL z.t.q.1 z.t.1=0 then Q1 (Sum.inr _)else Q1 (Sum.inr (rN (qL z.t.q.1 z.t.1)))
   rw[hz];simp only[dm,rE,Q8,zz,zl,k1,k2,if_true,zG,if_false];by_cases c:qL s.t.t.1 z.t.1=0
   ·rw[if_pos c,if_neg (by simpa using c)]
   ·rw[if_neg c,if_pos (by simpa using c)]
 case h=>
  unfold uV;obtain⟨z0,z1,z2,z3,z4,z5,e,z7,z8,z9⟩:=z;cases e;rfl
theorem zho{s:Sem zk}(hs:yT s)(z1:zn jw)(z:zn NS)(hz:z.t.q.1=s.t.t.1)(hl:length z.t.1<=1000):
  ∃r,zV dm (length z.t.1*1+1) (.h64bb ((0:Nat):Int) (s,()) z1 z) r/\uV r (ji 0 (plQ z)):=by
 obtain⟨k1,k2⟩:=BR (cols:=z.t.1) hs.wf ow hs.may;refine zbX (p:=plQ z) (λi=>.h64bb (i:Int) (s,()) z1 z) ?R ?h ?v
 case v=>
  intro i hi;by_cases h:i<length z.t.1
  ·have e1:dt z.t.1 (getD z.t.1 i (zi zj)).1=Q3:=iP ow;have e2:eC z.t.1 (getD z.t.1 i (zi zj)).1=zY z.t.1 (getD z.t.1 i (zi zj)).1:=j4 ow;rw[if_pos h];simp only[dm,rE,Q8,zH h,zu h,aJ,zt h,e1,e2,if_true];rw[zq i um];by_cases c:zY z.t.1 (getD z.t.1 i (zi zj)).1=(i:Int)
   ·rw[if_pos c,if_neg (by simpa using c)]
   ·rw[if_neg c,if_pos (by simpa using c)]
  ·obtain rfl:i=length z.t.1:=Nat.le_antisymm hi ow;rw[if_neg h];show(dm (.h64bb _ _ _ _)).val=if qL z.t.q.1 z.t.1=0 then Q1 (Sum.inr _)else Q1 (Sum.inr (rN (qL z.t.q.1 z.t.1)))
   rw[hz];simp only[dm,rE,Q8,zz,zl,k1,k2,if_true,zG,if_false];by_cases c:qL s.t.t.1 z.t.1=0
   ·rw[if_pos c,if_neg (by simpa using c)]
   ·rw[if_neg c,if_pos (by simpa using c)]
 case h=>
  unfold uV;obtain⟨z0,z1,z2,z3,z4,z5,e,z7,z8,z9⟩:=z;cases e;rfl
theorem zhp{s:Sem zk}(hs:yT s)(z1:zn jw)(z:zn PU)(hz:z.t.q.1=s.t.t.1)(hl:length z.t.1<=1000):
  ∃r,zV dm (length z.t.1*1+1) (.h64bbb ((0:Nat):Int) (s,()) z1 z) r/\uV r (ji 0 (plQ z)):=by
 obtain⟨k1,k2⟩:=BR (cols:=z.t.1) hs.wf ow hs.may;refine zbX (p:=plQ z) (λi=>.h64bbb (i:Int) (s,()) z1 z) ?R ?h ?v
 case v=>
  intro i hi;by_cases h:i<length z.t.1
  ·have e1:dt z.t.1 (getD z.t.1 i (zi zj)).1=Q3:=iP ow;have e2:eC z.t.1 (getD z.t.1 i (zi zj)).1=zY z.t.1 (getD z.t.1 i (zi zj)).1:=j4 ow;rw[if_pos h];simp only[dm,rE,Q8,zH h,zu h,aJ,zt h,e1,e2,if_true];rw[zq i um];by_cases c:zY z.t.1 (getD z.t.1 i (zi zj)).1=(i:Int)
   ·rw[if_pos c,if_neg (by simpa using c)]
   ·rw[if_neg c,if_pos (by simpa using c)]
  ·obtain rfl:i=length z.t.1:=Nat.le_antisymm hi ow;rw[if_neg h];show(dm (.h64bbb _ _ _ _)).val=if qL z.t.q.1 z.t.1=0 then Q1 (Sum.inr _)else Q1 (Sum.inr (rN (qL z.t.q.1 z.t.1)))
   rw[hz];simp only[dm,rE,Q8,zz,zl,k1,k2,if_true,zG,if_false];by_cases c:qL s.t.t.1 z.t.1=0
   ·rw[if_pos c,if_neg (by simpa using c)]
   ·rw[if_neg c,if_pos (by simpa using c)]
 case h=>
  unfold uV;obtain⟨z0,z1,z2,z3,z4,z5,e,z7,z8,z9⟩:=z;cases e;rfl
def rk(k:Int)(l:List Int):Nat->Int
 |0=>-1
 |i+1=>if l.getD i 0=k then(i:Int)else rk k l i
theorem IB{k:Int}{l:List Int}{j:Nat}(hj:j<l.length)(hk:l[j]=k)(hn:l.Nodup):∀i,i<=l.length->rk k l i=if j<i then(j:Int)else -1
 |0,_=>rfl
 | i+1,hi=>by
  rw[rk,IB hj hk hn i ow,aY,zQ (by omega:i<l.length),dn];by_cases h:l[i]=k
  ·have:i=j:=by
    rcases Nat.lt_trichotomy i j with c|c|c
    ·exact absurd (h.trans hk.symm) (List.pairwise_iff_getElem.1 hn i j ow hj c)
    ·exact c
    ·exact absurd (hk.trans h.symm) (List.pairwise_iff_getElem.1 hn j i hj ow c)
   rw[if_pos h,if_pos ow,this]
  ·rw[if_neg h];by_cases c:j<i
   ·rw[if_pos c,if_pos ow]
   ·have:j≠i:=by rintro rfl;exact h hk
    rw[if_neg c,if_neg ow]
theorem IC{k:Int}{l:List Int}(hk:k∉l):∀i,i<=l.length->rk k l i=-1
 |0,_=>rfl
 | i+1,hi=>by
  rw[rk,IC hk i ow,aY,zQ (by omega:i<l.length),dn,if_neg];rintro rfl;exact hk (bC _)
theorem RZ{k:Int}{l:List Int}(hn:l.Nodup):rk k l l.length=gN l k:=by
 rcases Rw l k with⟨j,hj,h1,h2,_⟩|⟨h1,h2⟩
 ·rw[h1,IB hj h2 hn _ (aB _),if_pos hj]
 ·rw[h1,IC h2 _ (aB _)]
theorem zlb{s:Sem zk}(hs:yT s)(z1:zn jw){t:Sem zo}{a b c d:zA}{l:List Int}{on:Int}(hl:l.length<=1000)(hn:l.Nodup)(hin:∀x∈l,zP x t.2.1.length=Q3):
  ∃r k,zV dm k (.h24 ((0:Nat):Int) (s,()) z1 (a,b,c,d,[],-1,s.t.t.1,l,on,()) (t,())) r/\k<=10000/\
   uV r (ji (if LT.lt (α:=Int) (gN l t.2.2.1) 0 then 1 else 0) (a,b,c,(d,l.map (λx=>getD t.2.1 (toNat x) (zi zj)),gN l t.2.2.1,[],[],s.t.t.1),l,on)):=by
 have hg:=zR.all (t:=dm) 1 (λi=>.h24 (i:Int) (s,()) z1 (a,b,c,d,(l.take i).map (λx=>getD t.2.1 (toNat x) (zi zj)),rk t.2.2.1 l i,s.t.t.1,l,on,()) (t,())) l.length (by
  intro i hi;refine zR.of ?_;have e1:getD l ((i:Int).toNat) (zi zg)=l[i]:=ac l _ hi;have e2:zP l[i] t.2.1.length=Q3:=hin _ (bC hi);have e3:rk t.2.2.1 l (i+1)=if l[i]=t.2.2.1 then(i:Int)else rk t.2.2.1 l i:=by
   rw[rk,aY,zQ hi,dn]
  have e5:Q0 (length ((l.take i).map (λx=>getD t.2.1 (toNat x) (zi zj)))+length [getD t.2.1 (toNat l[i]) (zi zj)]<=1073741824)=Q3:=zt sg;simp only[dm,rE,Q8,zH hi,zu hi,e1,e2,e5,if_true];rw[zq i um,bZ hi,iB,e3];by_cases k:l[i]=t.2.2.1
  ·rw[if_pos k,if_pos (by simpa using k)];rfl
  ·rw[if_neg k,if_neg (by simpa using k)];rfl)
 rw[jE,RZ hn]at hg;by_cases h:LT.lt (α:=Int) (gN l t.2.2.1) 0
 ·rw[if_pos h];refine⟨rN 1,_,hg.ends (zV.of ?_),ow,dN 1⟩;simp only[dm,rE,Q8,zz,zt h,if_true,zG,if_false]
 ·rw[if_neg h];obtain⟨r,h1,h2⟩:=zho hs z1 (a,b,c,d,l.map (λx=>getD t.2.1 (toNat x) (zi zj)),gN l t.2.2.1,s.t.t.1,l,on,()) rfl (by simpa using hl);refine⟨r,_,hg.ends ((zR.of ?_).ends h1),sg,h2⟩;simp only[dm,rE,Q8,zz,ah h,zG,if_false];rfl
theorem xh(a:Int)(b:zA):∀(l:List (Sem zr))(i:Nat),GE.ge (α:=Int) (g7 a b l (i:Int)) 0↔(a,b)∈l
 | [],i=>by
  rw[g7];exact⟨λh=>absurd h (by decide),λh=>by cases h⟩
 | x::r,i=>by
  rw[g7];split
  ·rename_i h;have:(a,b)=x:=by
    simp only[Bool.and_true,aD,aX]at h;exact Prod.ext h.1 h.2
   rw[<-this];exact⟨λ_=>sJ,λ_=>Int.natCast_nonneg i⟩
  ·rename_i h;have:=xh a b r (i+1);rw[sM]at this;rw[ce];refine⟨λh2=>.inr (this.1 h2),λh2=>this.2 (h2.resolve_left ?_)⟩;rintro rfl;simp at h
theorem r9(l:List (Sem zr))(x:Sem zr):jy l x=Q3↔x∈l:=by
 unfold jy;rw[decide_eq_true_iff];exact xh x.1 x.2 l 0
def kr(on:Int)(w:zA)(l:List (Sem zr)):Bool:=l.any λf=>f.1==on&&f.2==w
theorem Kt(on:Int)(w:zA)(l:List (Sem zr)):kr on w l=jy l (on,w):=by
 apply iA.2;rw[r9];unfold kr;rw[List.any_eq_true];constructor
 ·rintro⟨f,hf,h⟩;simp only[aD,aX]at h;have:f=(on,w):=Prod.ext h.1 h.2
  rwa [this]at hf
 ·intro h;exact⟨_,h,sw⟩
theorem w9(on:Int)(w:zA)(l:List (Sem zr))(f:Sem zr):kr on w (l++[f])=bif kr on w l then Q3 else bif f.1==on then f.2==w else Q4:=by
 unfold kr;simp only[List.any_append,List.any_cons,List.any_nil,Bool.or_false];cases(l.any λf=>f.1==on&&f.2==w)<;>cases(f.1==on)<;>rfl
theorem zld{s:Sem zk}(hs:yT s)(z1:zn jw){t u:Sem zo}{a b c d:zA}{on:Int}(ht:t.2.1.length<=100)(hu:u.2.1.length<=100):
  ∃r k,zV dm k (.h48 ((0:Nat):Int) (s,()) z1 (a,b,c,d,t.2.1,t.2.2.1,s.t.t.1,[],on,()) (u,())) r/\k<=10000/\
   uV r (ji 0 (a,b,c,(d,t.2.1++gg u (length u.2.1),t.2.2.1,[],[],s.t.t.1),jN u.2.2.1 (length u.2.1),on)):=by
 have hg:=zR.all (t:=dm) 1 (λi=>.h48 (i:Int) (s,()) z1 (a,b,c,d,t.2.1++gg u i,t.2.2.1,s.t.t.1,jN u.2.2.1 i,on,()) (u,())) u.2.1.length (by
  intro i hi;refine zR.of ?_;have hoth:=oU u.2.2.1 i;have hsucc:=EA u.2.2.1 i;have l1:(jN u.2.2.1 i).length<=100:=by unfold jN;rw[cN];omega
  have l2:(gg u i).length<=100:=by unfold gg;rw[cN];omega
  simp only[dm,Q8,zH hi,zu hi,if_true,ac _ _ hi];rw[zq i um];by_cases k:((i:Int)!=u.2.2.1)=Q3
  ·rw[if_pos k]at hsucc;rw[if_pos k,if_pos sg,if_pos sg,gg,gg,jN,jN,hsucc,iB,iB,<-Ae];simp[zQ hi]
  ·rw[if_neg k]at hsucc;rw[if_neg k,gg,gg,jN,jN,hsucc])
 have l1:(gg u (length u.2.1)).length<=100:=by have:=oU u.2.2.1 (length u.2.1);unfold gg;rw[cN];omega
 obtain⟨r,h1,h2⟩:=zhp hs z1 (a,b,c,d,t.2.1++gg u (length u.2.1),t.2.2.1,s.t.t.1,jN u.2.2.1 (length u.2.1),on,()) rfl sg;have h3:zR dm 1 (.h48 (u.2.1.length:Int) (s,()) z1 (a,b,c,d,t.2.1++gg u (length u.2.1),t.2.2.1,s.t.t.1,jN u.2.2.1 (length u.2.1),on,()) (u,())) (.h64bbb ((0:Nat):Int) (s,()) z1 (a,b,c,d,t.2.1++gg u (length u.2.1),t.2.2.1,s.t.t.1,jN u.2.2.1 (length u.2.1),on,())):=zR.of (by
  simp only[dm,Q8,zz];rfl)
 have h0:t.2.1++gg u 0=t.2.1:=wN _;have h5:=hg.ends (h3.ends h1);rw[h0]at h5;exact⟨r,_,h5,sg,h2⟩
theorem zlc{s:Sem zk}(hs:yT s)(z1:zn jw){t u:Sem zo}{a b c d:zA}{k0 on:Int}(ht:t.2.1.length<=100)(hu:u.2.1.length<=100)(hr:t.t.1.length<=1000):
  ∃r k,zV dm k (.h38 ((0:Nat):Int) (s,()) z1 (a,b,c,d,k0,s.t.t.1,on,()) (t,()) (u,())) r/\k<=20000/\
   uV r (ji (if jy t.t.1 (on,s.t.t.t)=Q3 then(if LT.lt (α:=Int) 9 ((length t.2.1:Int)+(length u.2.1:Int))then 13 else 0)else 10) (a,b,c,(d,t.2.1++gg u (length u.2.1),t.2.2.1,[],[],s.t.t.1),jN u.2.2.1 (length u.2.1),on)):=by
 rw[<-Kt];by_cases h0:0<t.t.1.length
 ·have hg0:zR dm 1 (.h38 ((0:Nat):Int) (s,()) z1 (a,b,c,d,k0,s.t.t.1,on,()) (t,()) (u,())) (.h38b (kr on s.t.t.t (t.t.1.take (0+1))) ((0+1:Nat):Int) (s,()) z1 (a,b,c,d,k0,s.t.t.1,on,()) (t,()) (u,())):=zR.of (by
   have e:t.t.1.take (0+1)=[]++[t.t.1[0]]:=bZ h0;rw[e,w9];simp only[dm,rE,Q8,zH h0,zu h0,if_true,ac _ _ h0];rw[zq 0 um];cases((t.t.1[0]).1==on)<;>rfl)
  have hg:=zR.all (t:=dm) 1 (λi=>.h38b (kr on s.t.t.t (t.t.1.take (i+1))) ((i+1:Nat):Int) (s,()) z1 (a,b,c,d,k0,s.t.t.1,on,()) (t,()) (u,())) (t.t.1.length-1) (by
   intro i hi;have hi:i+1<t.t.1.length:=by omega
   refine zR.of ?_;rw[bZ hi,w9];simp only[dm,rE,Q8,zH hi,zu hi,ac _ _ hi];rw[zq (i+1) um];cases kr on s.t.t.t (t.t.1.take (i+1))<;>cases((t.t.1[i+1]).1==on)<;>rfl)
  have hn:t.t.1.length-1+1=t.t.1.length:=by omega
  rw[hn,jE]at hg;have hw:IntKind.i64.wrap ((↑(length t.2.1):Int)+(↑(length u.2.1):Int))=(↑(length t.2.1):Int)+(↑(length u.2.1):Int):=kS _ ow ow;by_cases hf:kr on s.t.t.t t.t.1=Q3
  ·rw[if_pos hf];by_cases h9:LT.lt (α:=Int) 9 ((length t.2.1:Int)+(length u.2.1:Int))
   ·rw[if_pos h9];refine⟨rN 13,_,(hg0.trans hg).ends (zV.of ?_),ow,dN 13⟩;simp only[dm,rE,Q8,zz,hf,hw,cu,zG,if_false];rw[if_pos (by simpa using h9)]
   ·rw[if_neg h9];obtain⟨r,k,h1,h2,h3⟩:=zld hs z1 (a:=a) (b:=b) (c:=c) (d:=d) (on:=on) ht hu;refine⟨r,_,(hg0.trans hg).ends ((zR.of ?_).ends h1),ow,h3⟩;simp only[dm,rE,Q8,zz,hf,hw,cu,zG,if_false];rw[if_neg (by simpa using h9),if_pos sg];rfl
  ·rw[if_neg hf];have hf:kr on s.t.t.t t.t.1=Q4:=by simpa using hf
   refine⟨rN 10,_,(hg0.trans hg).ends (zV.of ?_),ow,dN 10⟩;simp only[dm,rE,Q8,zz,hf,dp,if_true,zG,if_false]
 ·have hnil:t.t.1=[]:=xE ow;rw[hnil,if_neg (by unfold kr;simp)];refine⟨rN 10,1,zV.of ?_,ow,dN 10⟩;simp only[dm,rE,Q8,hnil];rfl
theorem xX{e:Int}{p:Sem zE}(h:e≠0):ji e p=(e,jn):=by unfold ji;rw[if_neg h]
theorem PT(t:Sem zo)(names:List zA):fY t names=(ky t names).map λx=>getD t.2.1 (toNat x) (zi zj):=by
 unfold fY ky;rw[ov];rfl
theorem of7{db:List (Sem zh)}{s:Sem zk}(hB:iF db)(hw:nY s)(hst:dW s=Q3)(hm:jk s.1)(hb:ke db=(0:Int))(hdb:∀x∈db,TO x)(z1:zn jw):
  ∃r k,zV dm k (.h7 db (bG s.2.2.1 s.t.t.t) ((0:Nat):Int) (s,()) z1 (s.1,s.2.2.1,s.t.t.t,s.2.1,0,s.t.t.1,0,())) r/\k<=90000/\uV r (aS db s):=by
 obtain⟨hnm,hmb,m1,m2,m3⟩:=Oy hw hst hm;have hs:yT s:=⟨hw.chk,λh=>by
  unfold bM at hmb;rcases zF (gK s.t.t.1)with c|c
  ·rw[jT.1 c]at h;cases h
  ·rw[c]at hmb;exact hmb⟩
 have hP:aS db s=if nt db s.2.2.1 s.t.t.t s.2.1=0 then da db s else(nt db s.2.2.1 s.t.t.t s.2.1,jn):=by
  unfold aS;rw[if_pos ⟨hm,hst,hb⟩]
 have hnl:(bG s.2.2.1 s.t.t.t).length<=2:=by unfold bG;split<;>simp
 rw[hP];clear hP
 rcases lN (t:=dm) (Φ:=λr=>r=rN 6) 1 (λi=>.h7 db (bG s.2.2.1 s.t.t.t) (i:Int) (s,()) z1 (s.1,s.2.2.1,s.t.t.t,s.2.1,0,s.t.t.1,0,())) (λi=>∀h:i<(bG s.2.2.1 s.t.t.t).length,LE.le (α:=Int) 0 (zS db (bG s.2.2.1 s.t.t.t)[i])) (bG s.2.2.1 s.t.t.t).length (λi hi _=>by
  have hv:(dm (.h7 db (bG s.2.2.1 s.t.t.t) (i:Int) (s,()) z1 (s.1,s.2.2.1,s.t.t.t,s.2.1,0,s.t.t.1,0,()))).val=if LT.lt (α:=Int) (zS db (bG s.2.2.1 s.t.t.t)[i]) 0 then Q1 (.inr (rN 6))else Q1 (.inl (.h7 db (bG s.2.2.1 s.t.t.t) ((i+1:Nat):Int) (s,()) z1 (s.1,s.2.2.1,s.t.t.t,s.2.1,0,s.t.t.1,0,()))):=by
   simp only[dm,rE,Q8,zH hi,zu hi,if_true,ac _ _ hi,dj];rw[zq i um];by_cases c:LT.lt (α:=Int) (zS db (bG s.2.2.1 s.t.t.t)[i]) 0
   ·rw[if_pos c,if_pos (by simpa using c)]
   ·rw[if_neg c,if_neg (by simpa using c)]
  by_cases c:LT.lt (α:=Int) (zS db (bG s.2.2.1 s.t.t.t)[i]) 0
  ·exact .inr ⟨λh=>by have:=h hi;omega,_,zV.of (by rw[hv,if_pos c]),rfl⟩
  ·exact .inl ⟨λ_=>by omega,zR.of (by rw[hv,if_neg c])⟩)with⟨h1,h2⟩|⟨h1,r,h2,rfl⟩
 rotate_left
 ·have hE:nt db s.2.2.1 s.t.t.t s.2.1=6:=by
   unfold nt;rw[if_neg];intro h;exact h1 λi _ hi=>h _ (bC hi)
  rw[hE,if_neg (by decide)];exact⟨_,_,h2,ow,dN 6⟩
 have hA:∀n∈bG s.2.2.1 s.t.t.t,LE.le (α:=Int) 0 (zS db n):=by
  intro n hn;obtain⟨j,hj,rfl⟩:=gY hn;exact h1 j hj hj
 have hfr:LE.le (α:=Int) 0 (zS db s.2.2.1):=hA _ (by unfold bG;split<;>simp);have hE:nt db s.2.2.1 s.t.t.t s.2.1=if(Q0 (GE.ge (α:=Int) (zS db s.2.1) 0)||s.2.2.1==s.t.t.t)=Q3 then 7 else if dL db (bG s.2.2.1 s.t.t.t)=Q3 then 10 else 0:=by
  unfold nt;rw[if_pos hA]
 have hl12:=hB.few;obtain⟨f1,f2⟩:=IW (db:=db) (ns:=bG s.2.2.1 s.t.t.t) ow (λx hx=>(hdb x hx).short.rf|>λh=>by omega) ow;have hT:nB (au db s.2.2.1):=Ie hB hfr;have t8:=hT.n8;have hnames:=hw.sh.names.1;have hor:(bif Q0 (GE.ge (α:=Int) (zS db s.2.1) 0)then Q3 else s.2.2.1==s.t.t.t)=(Q0 (GE.ge (α:=Int) (zS db s.2.1) 0)||s.2.2.1==s.t.t.t):=by cases Q0 (GE.ge (α:=Int) (zS db s.2.1) 0)<;>rfl
 rw[hE];by_cases c7:(Q0 (GE.ge (α:=Int) (zS db s.2.1) 0)||s.2.2.1==s.t.t.t)=Q3
 ·rw[if_pos c7,if_neg (by decide)];refine⟨rN 7,_,h2.ends (zV.of ?_),ow,dN 7⟩;simp only[dm,rE,Q8,zz,dj,hor,c7,if_true,zG,if_false]
 rw[if_neg c7];have c7:(Q0 (GE.ge (α:=Int) (zS db s.2.1) 0)||s.2.2.1==s.t.t.t)=Q4:=by simpa using c7
 by_cases c10:dL db (bG s.2.2.1 s.t.t.t)=Q3
 ·rw[if_pos c10,if_neg (by decide)];refine⟨rN 10,_,h2.ends (zV.of ?_),ow,dN 10⟩;simp only[dm,rE,Q8,zz,dj,hor,c7,f1,f2,c10,if_true,zG,if_false]
 rw[if_neg c10,if_pos rfl];have c10:dL db (bG s.2.2.1 s.t.t.t)=Q4:=by simpa using c10
 obtain⟨p1,p2⟩:=IV (t:=au db s.2.2.1) (names:=s.2.2.2.1) ow ow;have p1:mY (getD db (toNat (zS db s.2.2.1)) (zi zh)).1.2.1 s.2.2.2.1=Q3:=p1;have p2:pX (getD db (toNat (zS db s.2.2.1)) (zi zh)).1.2.1 s.2.2.2.1=(if fT (au db s.2.2.1) s.2.2.2.1=0 then ky (au db s.2.2.1) s.2.2.2.1 else[],fT (au db s.2.2.1) s.2.2.2.1):=p2;unfold da;by_cases o1:(s.1==[99,111,112,121])=Q3
 ·rw[if_pos o1];unfold uX;by_cases hp:fT (au db s.2.2.1) s.2.2.2.1=0
  ·rw[if_pos hp];obtain⟨q1,q2⟩:=EB hp;obtain⟨r,k,e1,e2,e3⟩:=zlb hs z1 (t:=au db s.2.2.1) (a:=s.1) (b:=s.2.2.1) (c:=s.t.t.t) (d:=s.2.1) (l:=ky (au db s.2.2.1) s.2.2.2.1) (on:=0) (by unfold ky;rw[cN];omega) q2 (by
    intro x hx;obtain⟨n,hn,rfl⟩:=bm.1 hx;exact pO (q1 n hn))
   rw[PT];refine⟨r,_,h2.ends ((zR.of ?_).ends e1),ow,e3⟩;rw[if_pos hp,hp]at p2;simp only[dm,rE,Q8,zz,dj,hor,c7,f1,f2,c10,dq hfr,o1,p1,p2,if_true,zG,if_false,oq];rfl
  ·rw[if_neg hp,xX hp];refine⟨_,_,h2.ends (zV.of ?_),ow,dN _⟩;rw[if_neg hp]at p2;have hp':(fT (au db s.2.2.1) s.2.2.2.1!=0)=Q3:=by simpa using hp
   simp only[dm,rE,Q8,zz,dj,hor,c7,f1,f2,c10,dq hfr,o1,p1,p2,hp',if_true,zG,if_false]
 rw[if_neg o1];by_cases o2:(s.1==[106,111,105,110])=Q3
 ·rw[if_pos o2];have hr:=m2 (bA o2);have hne:s.t.t.t≠[]:=by intro k;rw[k]at hr;cases hr
  have hwt:fP db s.t.t.t=au db s.t.t.t:=by unfold fP;rw[if_neg hne]
  have hrl:LE.le (α:=Int) 0 (zS db s.t.t.t):=hA _ (by unfold bG;rw[if_neg (by simpa using hne)];simp);have u8:=(Ie hB hrl).n8;have hrf:(au db s.2.2.1).t.1.length<=1000:=by have:=(hdb _ (l5 hfr)).short.rf;unfold au;omega
  have g1:dt (getD db (toNat (zS db s.2.2.1)) (zi zh)).1.2.1 s.t.2.1=Q3:=iP (by show(au db s.2.2.1).2.1.length<=_;omega);have g2:eC (getD db (toNat (zS db s.2.2.1)) (zi zh)).1.2.1 s.t.2.1=zN (au db s.2.2.1) s.t.2.1:=j4 (by show(au db s.2.2.1).2.1.length<=_;omega);rw[hwt];unfold gO;by_cases h4:LT.lt (α:=Int) (zN (au db s.2.2.1) s.t.2.1) 0
  ·rw[if_pos h4,xX (by decide)];refine⟨rN 4,_,h2.ends (zV.of ?_),ow,dN 4⟩;simp only[dm,rE,Q8,zz,dj,hor,c7,f1,f2,c10,dq hfr,dq hrl,o1,o2,g1,g2,zt h4,if_true,zG,if_false]
  ·rw[if_neg h4];obtain⟨r,k,e1,e2,e3⟩:=zlc hs z1 (t:=au db s.2.2.1) (u:=au db s.t.t.t) (a:=s.1) (b:=s.2.2.1) (c:=s.t.t.t) (d:=s.2.1) (k0:=0) (on:=zN (au db s.2.2.1) s.t.2.1) ow ow hrf;refine⟨r,_,h2.ends ((zR.of ?_).ends e1),ow,e3⟩;simp only[dm,rE,Q8,zz,dj,hor,c7,f1,f2,c10,dq hfr,dq hrl,o1,o2,g1,g2,ah h4,if_true,zG,if_false];rfl
 rw[if_neg o2];have o3:(s.1==[103,114,111,117,112])=Q3:=by
  rcases hm with k|k|k
  ·rw[k]at o1;exact absurd rfl o1
  ·rw[k]at o2;exact absurd rfl o2
  ·rw[k];rfl
 rw[if_pos o3];have hl2:=m3 (bA o3);unfold r8;by_cases hp:fT (au db s.2.2.1) s.2.2.2.1=0
 ·rw[if_pos hp];obtain⟨q1,q2⟩:=EB hp;rw[if_pos hp,hp]at p2;obtain⟨n0,n1,hn⟩:∃n0 n1,s.2.2.2.1=[n0,n1]:=by
   match s.2.2.2.1,hl2 with
   |[a,b],_=>exact⟨a,b,rfl⟩
  have i0:zP (zN (au db s.2.2.1) n0) (length (getD db (toNat (zS db s.2.2.1)) (zi zh)).1.2.1)=Q3:=pO (q1 n0 (by rw[hn];simp));have i1:zP (zN (au db s.2.2.1) n1) (length (getD db (toNat (zS db s.2.2.1)) (zi zh)).1.2.1)=Q3:=pO (q1 n1 (by rw[hn];simp));have x0:(ky (au db s.2.2.1) s.2.2.2.1).getD (toNat 0) (zi zg)=zN (au db s.2.2.1) n0:=by rw[hn];rfl
  have x1:(ky (au db s.2.2.1) s.2.2.2.1).getD (toNat 1) (zi zg)=zN (au db s.2.2.1) n1:=by rw[hn];rfl
  have xl:(ky (au db s.2.2.1) s.2.2.2.1).length=2:=by rw[hn];rfl
  have b0:zP 0 2=Q3:=rfl;have b1:zP 1 2=Q3:=rfl;have y1:(fY (au db s.2.2.1) s.2.2.2.1).getD 1 (zi zj)=getD (getD db (toNat (zS db s.2.2.1)) (zi zh)).1.2.1 (toNat (zN (au db s.2.2.1) n1)) (zi zj):=by rw[hn];rfl
  have y0:(fY (au db s.2.2.1) s.2.2.2.1).getD 0 (zi zj)=getD (getD db (toNat (zS db s.2.2.1)) (zi zh)).1.2.1 (toNat (zN (au db s.2.2.1) n0)) (zi zj):=by rw[hn];rfl
  unfold C7;rw[y1,y0];by_cases h5:(getD (getD db (toNat (zS db s.2.2.1)) (zi zh)).1.2.1 (toNat (zN (au db s.2.2.1) n1)) (zi zj)).2.1=(1:Int)
  ·rw[if_pos h5];obtain⟨r,e1,e3⟩:=zhn hs z1 (s.1,s.2.2.1,s.t.t.t,s.2.1,[((getD (getD db (toNat (zS db s.2.2.1)) (zi zh)).1.2.1 (toNat (zN (au db s.2.2.1) n0)) (zi zj)).1,(getD (getD db (toNat (zS db s.2.2.1)) (zi zh)).1.2.1 (toNat (zN (au db s.2.2.1) n0)) (zi zj)).2.1,Q3),((getD (getD db (toNat (zS db s.2.2.1)) (zi zh)).1.2.1 (toNat (zN (au db s.2.2.1) n1)) (zi zj)).1,(getD (getD db (toNat (zS db s.2.2.1)) (zi zh)).1.2.1 (toNat (zN (au db s.2.2.1) n1)) (zi zj)).2.1,Q4)],0,s.t.t.1,ky (au db s.2.2.1) s.2.2.2.1,0,()) rfl sw;have h5':((getD (getD db (toNat (zS db s.2.2.1)) (zi zh)).1.2.1 (toNat (zN (au db s.2.2.1) n1)) (zi zj)).2.1!=1)=Q4:=by rw[h5];rfl
   refine⟨r,_,h2.ends ((zR.of ?_).ends e1),sg,e3⟩;simp only[dm,rE,Q8,zz,dj,hor,c7,f1,f2,c10,dq hfr,o1,o2,o3,p1,p2,x0,x1,xl,b0,b1,i0,i1,h5',if_true,zG,if_false,oq];rfl
  ·rw[if_neg h5,xX (by decide)];have h5':((getD (getD db (toNat (zS db s.2.2.1)) (zi zh)).1.2.1 (toNat (zN (au db s.2.2.1) n1)) (zi zj)).2.1!=1)=Q3:=by simpa using h5
   refine⟨rN 5,_,h2.ends (zV.of ?_),ow,dN 5⟩;simp only[dm,rE,Q8,zz,dj,hor,c7,f1,f2,c10,dq hfr,o1,o2,o3,p1,p2,x0,x1,xl,b0,b1,i0,i1,h5',if_true,zG,if_false,oq]
 ·rw[if_neg hp,xX hp];refine⟨_,_,h2.ends (zV.of ?_),ow,dN _⟩;rw[if_neg hp]at p2;have hp':(fT (au db s.2.2.1) s.2.2.2.1!=0)=Q3:=by simpa using hp
  simp only[dm,rE,Q8,zz,dj,hor,c7,f1,f2,c10,dq hfr,o1,o2,o3,p1,p2,hp',if_true,zG,if_false]
theorem SX{db:List (Sem zh)}{s:Sem zk}(hdb:∀x∈db,TO x)(hw:nY s):By db s=Q1 ((aS db s).2,(aS db s).1,()):=by
 have hsh:∀x∈db,gz x:=λx hx=>(hdb x hx).short
 obtain⟨e,c1,c2⟩:=Gu hdb;have k1:BU db=Q3:=by unfold BU;rw[c1];rfl
 have k2:Gt db=e:=by unfold Gt;rw[c1];rfl
 have one:(Oh db s).val=Q1 (.inr (rN 1))->aS db s=(1,jn)->By db s=Q1 ((aS db s).2,(aS db s).1,()):=by
  intro h h2;rw[h2];exact zM h (dN 1)
 have hS:∀p:Sem zE,jo p=Q3/\kC p=bG p.2.1 p.2.2.1:=λp=>⟨rp p,tP p⟩
 by_cases hm:jk s.1
 ·obtain⟨t,h⟩:=Le hw hm;have t1:io s=Q3:=by unfold io;rw[h];rfl
  have t2:kG s=(t,dW s):=by unfold kG;rw[h];rfl
  have hop:(bif !s.1==[99,111,112,121]then bif !s.1==[106,111,105,110]then !s.1==[103,114,111,117,112]else Q4 else Q4)=Q4:=by
   rcases hm with k|k|k<;>rw[k]<;>rfl
  by_cases hst:dW s=Q3
  ·by_cases he:e=0
   ·have hB:=c2.1 he;have hb:=(jR hsh).2 hB;obtain⟨r,k,e1,e2,e3⟩:=of7 hB hw hst hm hb hdb ([],[],[],[],0,[],0,0,[],[],0,());refine zx ?_ e1 ow e3;simp only[Oh,rE,Q8,zl,Prod.eta,t1,t2,k1,k2,hst,he,hop,hS,cu,ay,if_true,oq,zG,if_false];rfl
   ·refine one ?_ ?_
    ·have he':(e !=0)=Q3:=by simpa using he
     simp only[Oh,rE,Q8,zl,Prod.eta,t1,t2,k1,k2,hst,he',cu,ay,ag,if_true]
    ·unfold aS;rw[if_neg];rintro⟨_,_,h⟩;exact he (c2.2 ((jR hsh).1 h))
  ·have hst':dW s=Q4:=by simpa using hst
   refine one ?_ ?_
   ·simp only[Oh,rE,Q8,zl,Prod.eta,t1,t2,hst',dp,ag,if_true]
   ·unfold aS;rw[if_neg];rintro⟨_,h,_⟩;exact hst h
 ·obtain⟨t,b,h⟩:=Ld hw;have t1:io s=Q3:=by unfold io;rw[h];rfl
  have t2:kG s=(t,b):=by unfold kG;rw[h];rfl
  have hop:(bif !s.1==[99,111,112,121]then bif !s.1==[106,111,105,110]then !s.1==[103,114,111,117,112]else Q4 else Q4)=Q3:=by
   have x1:(s.1==[99,111,112,121])=Q4:=by simpa using λk=>hm (.inl k)
   have x2:(s.1==[106,111,105,110])=Q4:=by simpa using λk=>hm (.inr (.inl k))
   have x3:(s.1==[103,114,111,117,112])=Q4:=by simpa using λk=>hm (.inr (.inr k))
   rw[x1,x2,x3];rfl
  refine one ?_ ?_
  ·simp only[Oh,rE,Q8,zl,Prod.eta,t1,t2,k1,k2,hop,if_true];cases b<;>cases(e !=0)<;>rfl
  ·unfold aS;rw[if_neg λh=>hm h.1]
end Cad
