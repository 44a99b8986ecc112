/- The document's writer. -/
import Derived.Test.YtjdjldbhjmgmkaaGreatDoorS13
import Derived.Test.YtjdjldbhjmgmkaaGreatDoorS09
import Derived.Shelf.SlSortCmp.InsertionK
import Derived.Sort.OwnSorted
namespace Cad
open Go Go.Proofs
open List renaming length→Io,map→Qi
open IntKind renaming wrap→Γ,i64→Δ
open AV renaming ptr→Qf,tup→Qe,agg→Qd,nils→Qb
open Tr renaming chk→Qc,«to»→Q9
open AO renaming box→Qa
open Sh renaming bool→Q7,str→Q6,expr→Q5
open Bool renaming false→Q4,true→Q3
open Option renaming none→Q2,some→Q1
open Decidable renaming decide→Q0
open Int (toNat)
open List (getD)
set_option maxHeartbeats 4000000
open Tr (chk br re)
open AV (nils agg tup ptr kb str sl)
noncomputable section
abbrev zpU:List CP:=[.d .str,.d .str,.d .str,.nil,.nil,.d .str,.nil,.nil,.d .str,.d zj,.d zj,.d .str,.d .str,.nil,.d (.sl zf),.nil,.d .str,.d zj,.d zj,.d .str,.d .str,.nil,.d .str]
abbrev zjV:List CP:=[.d .str,.d .str,.d .str,.nil,.nil,.d .str,.nil,.nil,.d .str,.d zj,.d zj,.d .str,.d .str,.nil,.nil,.d (.sl jY),.d .expr,.d .str]
abbrev zrT:=kJ [(15,[1,3,5,12,13]),(27,[1,3,5,8,9,14,15])]
inductive BT where
 |h15 (s12:List UInt8) (i13:Int) (z0:zo sK) (z1:zo kl) (z2:zo zpU)
 |h27 (s8:TS) (b9:Sem Q7) (s14:List UInt8) (i15:Int) (z0:zo sK) (z1:zo kl) (z2:zo zjV)
abbrev zuA:BT->Nat×St
 |.h15 s i z a b=>(15,⟨tm 430 [(1,Qf 0 0),(3,Qf 1 0),(5,Qf 2 0),(12,str s),(13,ai i)],[Qa (bI [] sK z),Qa (bI [] kl a),Qa (bI [] zpU b)]⟩)
 |.h27 d c x h z a b=>(27,⟨tm 430 [(1,Qf 0 0),(3,Qf 1 0),(5,Qf 2 0),(8,str d),(9,AV.bool c),(14,str x),(15,ai h)],[Qa (bI [] sK z),Qa (bI [] kl a),Qa (bI [] zjV b)]⟩)
def oH(x:zN):Tr (BT⊕au):=
 let a0:=zr x.t.t.1
 let a1:=zr x.t.t.q.2.1
 let a2:=(x.1,x.2.1,x.2.2.1,x.2.2.2.1,x.t.1,x.t.2.1,x.t.q.1,x.t.q.2.1,a0,x.t.t.2.1,x.t.t.q.1,a1,x.t.t.t)
 let a3:=qC a2
 let k:=ud a1 md
 let a5:=zch++x.2.1
 let a6:=zcq++x.2.1
 let a7:=VR++x.2.1
 let a8:=a7++lq
 let a9:=a8++x.2.2.1
 let p:=a9++AH
 let m:=JG x.2.2.2.1
 let u:=p++m.1
 let g:=u++iE
 let a:=ud a0 []
 let n:=eb x.2.2.1
 let o:=bM x.2.2.1
 let y:=zjN++x.2.1
 let z:=y++lq
 let A:=z++x.2.2.1
 let B:=A++fi
 let C:=B++x.t.t.t
 let D:=C++AI
 let h:=D++x.t.2.1
 let b:=eb x.t.t.t
 let c:=bM x.t.t.t
 let E:=zjM++x.2.1
 let F:=E++lq
 let H:=F++x.2.2.1
 let I:=zK 0 (Io x.2.2.2.1)
 let J:=H++Th
 let i:=getD x.2.2.2.1 (toNat 0) (zi Q6)
 let L:=J++i
 let M:=zK 1 (Io x.2.2.2.1)
 let N:=L++Ti
 let j:=getD x.2.2.2.1 (toNat 1) (zi Q6)
 let d:=N++j
 let O:=zpI++x.2.1
 let P:=O++Od
 let S:=zpJ++x.2.1
 let T:=S++Od
 let W:=zpL++x.2.1
 let X:=W++lq
 let Y:=zpM++x.2.1
 let Z:=Y++lq
 Qc (pb a0 [])
 (Qc (pb a1 md)
  (br (x.1==Oe) (Qc (rX a2) (re (Qe [str a3.1,Qd [str x.1,str x.2.1,str [],Qb,sl zl x.t.1,str x.t.2.1,sl Q6 x.t.q.1,sl (Sh.str.pr Q6) x.t.q.2.1,str (za.op x.t.t.1),ai (za.v x.t.t.1).1,
  ai (za.v x.t.t.1).2.1,str (za.v x.t.t.1).2.2,str (za.s x.t.t.1),sl Q5 (za.l x.t.t.1),Qb,Qb,str [],ai 0,ai 0,str [],str [],Qb,str []],AV.bool a3.2]) [])) (br (x.1==bl1)
  (Qc (Q0 (Io zcj+Io x.2.1<=1099511627776)) (re (Qe [str (zcj++x.2.1),Qd [str x.1,str x.2.1,str [],Qb,Qb,str [],Qb,Qb,str [],ai 0,
  ai 0,str [],str [],Qb,Qb,Qb,str [],ai 0,ai 0,str [],str [],Qb,str []],kb Q3]) [])) (br (x.1==bl3) (Q9 (BT.h15 [] 0 (x,()) ([],[],[],[],[],0,0,[],[],[],0,0,[],[],[],())
  (x.1,x.2.1,[],[],[],0,0,[],[],x.t.t.2.1,[],0,0,[],[],[],()))) (br (x.1==K2) (Q9 (BT.h27 k.1 k.2 [] 0 (x,()) ([],[],[],[],[],0,0,[],[],[],0,0,[],[],[],()) (x.1,x.2.1,[],[],[],0,0,[],[],x.t.t.q.1,x.t.t.q.2.1,[],()))) (br (x.1==bl0)
  (Qc (Q0 (Io zch+Io x.2.1<=1099511627776)) (Qc (Q0 (Io a5+Io k.1<=1099511627776)) (re (Qe [str (a5++k.1),Qd [str x.1,str x.2.1,str [],Qb,Qb,str [],Qb,Qb,str [],ai 0,
  ai 0,str [],str [],Qb,Qb,Qb,str (za.op x.t.t.q.2.1),ai (za.v x.t.t.q.2.1).1,ai (za.v x.t.t.q.2.1).2.1,str (za.v x.t.t.q.2.1).2.2,str (za.s x.t.t.q.2.1),sl Q5 (za.l x.t.t.q.2.1),str []],AV.bool k.2]) [])))
  (br (x.1==Ig) (Qc (Q0 (Io zcq+Io x.2.1<=1099511627776)) (Qc (Q0 (Io a6+Io k.1<=1099511627776)) (re (Qe [str (a6++k.1),Qd [str x.1,str x.2.1,str [],Qb,Qb,str [],Qb,Qb,str [],ai 0,
  ai 0,str [],str [],Qb,Qb,Qb,str (za.op x.t.t.q.2.1),ai (za.v x.t.t.q.2.1).1,ai (za.v x.t.t.q.2.1).2.1,str (za.v x.t.t.q.2.1).2.2,str (za.s x.t.t.q.2.1),sl Q5 (za.l x.t.t.q.2.1),str []],AV.bool k.2]) [])))
  (br (x.1==dm) (Qc (En x.2.2.2.1) (Qc (Q0 (Io VR+Io x.2.1<=1099511627776)) (Qc (Q0 (Io a7+Io lq<=1099511627776)) (Qc (Q0 (Io a8+Io x.2.2.1<=1099511627776))
  (Qc (Q0 (Io a9+Io AH<=1099511627776)) (Qc (Q0 (Io p+Io m.1<=1099511627776)) (Qc (Q0 (Io u+Io iE<=1099511627776)) (Qc (Q0 (Io g+Io a.1<=1099511627776)) (br m.2 (br a.2 (Qc n (re (Qe [str (g++a.1),Qd
  [str x.1,str x.2.1,str x.2.2.1,sl Q6 x.2.2.2.1,Qb,str [],Qb,Qb,str (za.op x.t.t.1),ai (za.v x.t.t.1).1,ai (za.v x.t.t.1).2.1,str (za.v x.t.t.1).2.2,str (za.s x.t.t.1),
  sl Q5 (za.l x.t.t.1),Qb,Qb,str [],ai 0,ai 0,str [],str [],Qb,str []],AV.bool o]) [])) (re (Qe [str (g++a.1),Qd [str x.1,str x.2.1,str x.2.2.1,sl Q6 x.2.2.2.1,Qb,str [],Qb,Qb,str (za.op x.t.t.1),
  ai (za.v x.t.t.1).1,ai (za.v x.t.t.1).2.1,str (za.v x.t.t.1).2.2,str (za.s x.t.t.1),sl Q5 (za.l x.t.t.1),Qb,Qb,str [],ai 0,ai 0,str [],str [],Qb,str []],kb Q4]) [])) (re (Qe [str (g++a.1),Qd
  [str x.1,str x.2.1,str x.2.2.1,sl Q6 x.2.2.2.1,Qb,str [],Qb,Qb,str (za.op x.t.t.1),ai (za.v x.t.t.1).1,ai (za.v x.t.t.1).2.1,str (za.v x.t.t.1).2.2,str (za.s x.t.t.1),
  sl Q5 (za.l x.t.t.1),Qb,Qb,str [],ai 0,ai 0,str [],str [],Qb,str []],kb Q4]) [])))))))))) (br (x.1==gm) (Qc (Q0 (Io zjN+Io x.2.1<=1099511627776))
  (Qc (Q0 (Io y+Io lq<=1099511627776)) (Qc (Q0 (Io z+Io x.2.2.1<=1099511627776)) (Qc (Q0 (Io A+Io fi<=1099511627776)) (Qc (Q0 (Io B+Io x.t.t.t<=1099511627776))
  (Qc (Q0 (Io C+Io AI<=1099511627776)) (Qc (Q0 (Io D+Io x.t.2.1<=1099511627776)) (Qc (Q0 (Io h+Io a.1<=1099511627776)) (br a.2 (Qc n (br o (Qc b (br c (Qc (eb x.t.2.1) (re (Qe [str (h++a.1),Qd
  [str x.1,str x.2.1,str x.2.2.1,Qb,Qb,str x.t.2.1,Qb,Qb,str (za.op x.t.t.1),ai (za.v x.t.t.1).1,ai (za.v x.t.t.1).2.1,str (za.v x.t.t.1).2.2,str (za.s x.t.t.1),sl Q5 (za.l x.t.t.1),Qb,Qb,str [],
  ai 0,ai 0,str [],str [],Qb,str x.t.t.t],AV.bool (bM x.t.2.1)]) [])) (re (Qe [str (h++a.1),Qd [str x.1,str x.2.1,str x.2.2.1,Qb,Qb,str x.t.2.1,Qb,Qb,str (za.op x.t.t.1),ai (za.v x.t.t.1).1,
  ai (za.v x.t.t.1).2.1,str (za.v x.t.t.1).2.2,str (za.s x.t.t.1),sl Q5 (za.l x.t.t.1),Qb,Qb,str [],ai 0,ai 0,str [],str [],Qb,str x.t.t.t],kb Q4]) []))) (re (Qe [str (h++a.1),Qd
  [str x.1,str x.2.1,str x.2.2.1,Qb,Qb,str x.t.2.1,Qb,Qb,str (za.op x.t.t.1),ai (za.v x.t.t.1).1,ai (za.v x.t.t.1).2.1,str (za.v x.t.t.1).2.2,str (za.s x.t.t.1),sl Q5 (za.l x.t.t.1),Qb,Qb,str [],
  ai 0,ai 0,str [],str [],Qb,str x.t.t.t],kb Q4]) []))) (re (Qe [str (h++a.1),Qd [str x.1,str x.2.1,str x.2.2.1,Qb,Qb,str x.t.2.1,Qb,Qb,str (za.op x.t.t.1),ai (za.v x.t.t.1).1,
  ai (za.v x.t.t.1).2.1,str (za.v x.t.t.1).2.2,str (za.s x.t.t.1),sl Q5 (za.l x.t.t.1),Qb,Qb,str [],ai 0,ai 0,str [],str [],Qb,str x.t.t.t],kb Q4]) [])))))))))) (br (x.1==mU)
  (br ((↑(Io x.2.2.2.1):Int)!=2) (re (Qe [str [],Qd [str x.1,str x.2.1,str x.2.2.1,sl Q6 x.2.2.2.1,Qb,str [],Qb,Qb,str (za.op x.t.t.1),ai (za.v x.t.t.1).1,ai (za.v x.t.t.1).2.1,
  str (za.v x.t.t.1).2.2,str (za.s x.t.t.1),sl Q5 (za.l x.t.t.1),Qb,Qb,str [],ai 0,ai 0,str [],str [],Qb,str []],kb Q4]) []) (Qc (Q0 (Io zjM+Io x.2.1<=1099511627776))
  (Qc (Q0 (Io E+Io lq<=1099511627776)) (Qc (Q0 (Io F+Io x.2.2.1<=1099511627776)) (Qc (Q0 (Io H+Io Th<=1099511627776)) (Qc I (Qc (Q0 (Io J+Io i<=1099511627776))
  (Qc (Q0 (Io L+Io Ti<=1099511627776)) (Qc M (Qc (Q0 (Io N+Io j<=1099511627776)) (Qc (Q0 (Io d+Io a.1<=1099511627776)) (br a.2 (Qc n (br o (Qc I (Qc (eb i) (br (bM i) (Qc M (Qc (eb j) (re (Qe [str (d++a.1),
  Qd [str x.1,str x.2.1,str x.2.2.1,sl Q6 x.2.2.2.1,Qb,str [],Qb,Qb,str (za.op x.t.t.1),ai (za.v x.t.t.1).1,ai (za.v x.t.t.1).2.1,str (za.v x.t.t.1).2.2,str (za.s x.t.t.1),sl Q5 (za.l x.t.t.1),Qb,Qb,
  str [],ai 0,ai 0,str [],str [],Qb,str []],AV.bool (bM j)]) []))) (re (Qe [str (d++a.1),Qd [str x.1,str x.2.1,str x.2.2.1,sl Q6 x.2.2.2.1,Qb,str [],Qb,Qb,str (za.op x.t.t.1),ai (za.v x.t.t.1).1,
  ai (za.v x.t.t.1).2.1,str (za.v x.t.t.1).2.2,str (za.s x.t.t.1),sl Q5 (za.l x.t.t.1),Qb,Qb,str [],ai 0,ai 0,str [],str [],Qb,str []],kb Q4]) [])))) (re (Qe [str (d++a.1),Qd
  [str x.1,str x.2.1,str x.2.2.1,sl Q6 x.2.2.2.1,Qb,str [],Qb,Qb,str (za.op x.t.t.1),ai (za.v x.t.t.1).1,ai (za.v x.t.t.1).2.1,str (za.v x.t.t.1).2.2,str (za.s x.t.t.1),
  sl Q5 (za.l x.t.t.1),Qb,Qb,str [],ai 0,ai 0,str [],str [],Qb,str []],kb Q4]) []))) (re (Qe [str (d++a.1),Qd [str x.1,str x.2.1,str x.2.2.1,sl Q6 x.2.2.2.1,Qb,str [],Qb,Qb,str (za.op x.t.t.1),
  ai (za.v x.t.t.1).1,ai (za.v x.t.t.1).2.1,str (za.v x.t.t.1).2.2,str (za.s x.t.t.1),sl Q5 (za.l x.t.t.1),Qb,Qb,str [],ai 0,ai 0,str [],str [],Qb,str []],kb Q4]) []))))))))))))) (br (x.1==bl9)
  (Qc (Q0 (Io zpI+Io x.2.1<=1099511627776)) (Qc (Q0 (Io O+Io Od<=1099511627776)) (Qc (Q0 (Io P+Io x.t.t.t<=1099511627776)) (Qc b (re (Qe [str (P++x.t.t.t),Qd
  [str x.1,str x.2.1,str [],Qb,Qb,str [],Qb,Qb,str [],ai 0,ai 0,str [],str [],Qb,Qb,Qb,str [],ai 0,ai 0,str [],str [],Qb,str x.t.t.t],AV.bool c]) []))))) (br (x.1==Oa)
  (Qc (Q0 (Io zpJ+Io x.2.1<=1099511627776)) (Qc (Q0 (Io S+Io Od<=1099511627776)) (Qc (Q0 (Io T+Io x.t.t.t<=1099511627776)) (Qc b (re (Qe [str (T++x.t.t.t),Qd
  [str x.1,str x.2.1,str [],Qb,Qb,str [],Qb,Qb,str [],ai 0,ai 0,str [],str [],Qb,Qb,Qb,str [],ai 0,ai 0,str [],str [],Qb,str x.t.t.t],AV.bool c]) []))))) (br (x.1==N8)
  (Qc (Q0 (Io zpL+Io x.2.1<=1099511627776)) (Qc (Q0 (Io W+Io lq<=1099511627776)) (Qc (Q0 (Io X+Io x.t.t.t<=1099511627776)) (Qc b (re (Qe [str (X++x.t.t.t),Qd
  [str x.1,str x.2.1,str [],Qb,Qb,str [],Qb,Qb,str [],ai 0,ai 0,str [],str [],Qb,Qb,Qb,str [],ai 0,ai 0,str [],str [],Qb,str x.t.t.t],AV.bool c]) []))))) (br (x.1==N9) (Qc
  (Q0 (Io zpM+Io x.2.1<=1099511627776)) (Qc (Q0 (Io Y+Io lq<=1099511627776)) (Qc (Q0 (Io Z+Io x.t.t.t<=1099511627776)) (Qc b (re (Qe [str (Z++x.t.t.t),Qd
  [str x.1,str x.2.1,str [],Qb,Qb,str [],Qb,Qb,str [],ai 0,ai 0,str [],str [],Qb,Qb,Qb,str [],ai 0,ai 0,str [],str [],Qb,str x.t.t.t],AV.bool c]) []))))) (re (Qe [str [],Qd
  [str x.1,str x.2.1,str [],Qb,Qb,str [],Qb,Qb,str [],ai 0,ai 0,str [],str [],Qb,Qb,Qb,str [],ai 0,ai 0,str [],str [],Qb,str []],kb Q4]) [])))))))))))))))
def mR:BT->Tr (BT⊕au)
 | .h15 x i h H z=>
  let k:=(↑(Io h.1.t.t.2.1):Int)
  let c:=zK i (Io h.1.t.t.2.1)
  let d:=getD h.1.t.t.2.1 i.toNat (zi zf)
  let C:=kN d
  let m:=x++fi
  let n:=oT d
  let D:=Γ Δ (i+1)
  let E:=VQ++h.1.2.1
  let F:=E++zcd
  let o:=F++x
  br (Q0 (i<k))
  (Qc c
   (Qc (mK d) (br (!sY d) (re (Qe [str [],Qd [str z.1,str z.2.1,str z.2.2.1,Qb,Qb,str z.2.2.2.1,Qb,Qb,str z.t.1,ai z.t.2.1,ai z.t.q.1,str z.t.q.2.1,str z.t.t.1,Qb,sl zf z.t.t.2.1,Qb,
   str z.t.t.q.1,ai z.t.t.q.2.1,ai z.t.t.t.1,str z.t.t.t.2.1,str z.t.t.t.q.1,Qb,str z.t.t.t.q.2.1],kb Q4]) []) (br (Q0 (i>0)) (Qc (Q0 (Io x+Io fi<=1099511627776))
   (Qc c (Qc C (Qc (Q0 (Io m+Io n<=1099511627776)) (Q9 (BT.h15 (m++n) D h H z)))))) (Qc c (Qc C (Qc (Q0 (Io x+Io n<=1099511627776)) (Q9 (BT.h15 (x++n) D h H z)))))))))
  (Qc (Q0 (Io VQ+Io h.1.2.1<=1099511627776))
   (Qc (Q0 (Io E+Io zcd<=1099511627776)) (Qc (Q0 (Io F+Io x<=1099511627776)) (Qc (Q0 (Io o+Io iE<=1099511627776)) (br (Q0 (1<=k)) (re (Qe [str (o++iE),Qd
   [str z.1,str z.2.1,str z.2.2.1,Qb,Qb,str z.2.2.2.1,Qb,Qb,str z.t.1,ai z.t.2.1,ai z.t.q.1,str z.t.q.2.1,str z.t.t.1,Qb,sl zf z.t.t.2.1,Qb,str z.t.t.q.1,ai z.t.t.q.2.1,
   ai z.t.t.t.1,str z.t.t.t.2.1,str z.t.t.t.q.1,Qb,str z.t.t.t.q.2.1],AV.bool (Q0 (k<=12))]) []) (re (Qe [str (o++iE),Qd [str z.1,str z.2.1,str z.2.2.1,Qb,Qb,str z.2.2.2.1,Qb,Qb,
   str z.t.1,ai z.t.2.1,ai z.t.q.1,str z.t.q.2.1,str z.t.t.1,Qb,sl zf z.t.t.2.1,Qb,str z.t.t.q.1,ai z.t.t.q.2.1,ai z.t.t.t.1,str z.t.t.t.2.1,str z.t.t.t.q.1,
   Qb,str z.t.t.t.q.2.1],kb Q4]) []))))))
 | .h27 p I a b h H z=>
  let k:=(↑(Io h.1.t.t.q.1):Int)
  let c:=zK b (Io h.1.t.t.q.1)
  let d:=getD h.1.t.t.q.1 b.toNat (zi jY)
  let C:=!bM d.1
  let m:=zr d.2
  let n:=Q0 (Io d.1+Io zjH<=1099511627776)
  let D:=rU m
  let E:=d.1++zjH
  let F:=qB m
  let o:=Q0 (Io E+Io F<=1099511627776)
  let u:=a++fi
  let g:=E++F
  let y:=Γ Δ (b+1)
  let A:=VT++h.1.2.1
  let B:=A++zcc
  let j:=B++a
  br (Q0 (b<k))
  (Qc (c&&(eb d.1&&bif C then Q3 else c&&tY m))
   (br (cond C Q3 (!D1 m)) (re (Qe [str [],Qd [str z.1,str z.2.1,str z.2.2.1,Qb,Qb,str z.2.2.2.1,Qb,Qb,str z.t.1,ai z.t.2.1,ai z.t.q.1,str z.t.q.2.1,str z.t.t.1,Qb,Qb,
   sl (Sh.str.pr Q5) z.t.t.2.1,str (za.op z.t.t.q.1),ai (za.v z.t.t.q.1).1,ai (za.v z.t.t.q.1).2.1,str (za.v z.t.t.q.1).2.2,str (za.s z.t.t.q.1),sl Q5 (za.l z.t.t.q.1),str z.t.t.q.2.1],kb Q4]) [])
   (br (Q0 (b>0)) (Qc (Q0 (Io a+Io fi<=1099511627776)) (Qc c (Qc n (Qc c (Qc D (Qc o (Qc (Q0 (Io u+Io g<=1099511627776)) (Q9 (BT.h27 p I (u++g) y h H z))))))))) (Qc c (Qc n (Qc c
   (Qc D (Qc o (Qc (Q0 (Io a+Io g<=1099511627776)) (Q9 (BT.h27 p I (a++g) y h H z)))))))))))
  (Qc (Q0 (Io VT+Io h.1.2.1<=1099511627776))
   (Qc (Q0 (Io A+Io zcc<=1099511627776)) (Qc (Q0 (Io B+Io a<=1099511627776)) (Qc (Q0 (Io j+Io p<=1099511627776)) (br I (br (Q0 (1<=k)) (re (Qe [str (j++p),Qd [str z.1,str z.2.1,str z.2.2.1,Qb,Qb,str z.2.2.2.1,Qb,Qb,
   str z.t.1,ai z.t.2.1,ai z.t.q.1,str z.t.q.2.1,str z.t.t.1,Qb,Qb,sl (Sh.str.pr Q5) z.t.t.2.1,str (za.op z.t.t.q.1),ai (za.v z.t.t.q.1).1,ai (za.v z.t.t.q.1).2.1,str (za.v z.t.t.q.1).2.2,
   str (za.s z.t.t.q.1),sl Q5 (za.l z.t.t.q.1),str z.t.t.q.2.1],AV.bool (Q0 (k<=8))]) []) (re (Qe [str (j++p),Qd [str z.1,str z.2.1,str z.2.2.1,Qb,Qb,str z.2.2.2.1,Qb,Qb,str z.t.1,ai z.t.2.1,ai z.t.q.1,
   str z.t.q.2.1,str z.t.t.1,Qb,Qb,sl (Sh.str.pr Q5) z.t.t.2.1,str (za.op z.t.t.q.1),ai (za.v z.t.t.q.1).1,ai (za.v z.t.t.q.1).2.1,str (za.v z.t.t.q.1).2.2,
   str (za.s z.t.t.q.1),sl Q5 (za.l z.t.t.q.1),str z.t.t.q.2.1],kb Q4]) [])) (re (Qe [str (j++p),Qd [str z.1,str z.2.1,str z.2.2.1,Qb,Qb,str z.2.2.2.1,Qb,Qb,str z.t.1,ai z.t.2.1,ai z.t.q.1,
   str z.t.q.2.1,str z.t.t.1,Qb,Qb,sl (Sh.str.pr Q5) z.t.t.2.1,str (za.op z.t.t.q.1),ai (za.v z.t.t.q.1).1,ai (za.v z.t.t.q.1).2.1,str (za.v z.t.t.q.1).2.2,str (za.s z.t.t.q.1),
   sl Q5 (za.l z.t.t.q.1),str z.t.t.q.2.1],kb Q4]) []))))))
def eR(x:zN):=an [Q6,aC,Q7] mR 100000000 (oH x)
def vZ(x:zN):=(eR x).isSome
def By(x:zN):=o3 (eR x)
def zn2:=FT [aC] [Q6,aC,Q7] λx=>eR x.1
theorem ziU:FK 123 zn2:=CG.T1 (f:=Tryz.f123) (keep:=zrT) (e:=zuA)
def zf5:=Wt.add 123 zn2
theorem GD:zw zf5:=CG.add ziU
def zkD(x:zN):Tr (Empty⊕au):=
 let h:=(x.1,x.2.1,x.2.2.1,x.2.2.2.1,x.t.1,x.t.2.1,x.t.q.1,x.t.q.2.1,zr x.t.t.1,x.t.t.2.1,x.t.t.q.1,zr x.t.t.q.2.1,x.t.t.t)
 let a:=By h
 let b:=!a.2.2
 let c:=!bM x.2.1
 let d:=(a.2.1.1,a.2.1.2.1,a.2.1.2.2.1,a.2.1.2.2.2.1,a.2.1.t.1,a.2.1.t.2.1,a.2.1.t.q.1,a.2.1.t.q.2.1,zr a.2.1.t.t.1,a.2.1.t.t.2.1,a.2.1.t.t.q.1,zr a.2.1.t.t.q.2.1,a.2.1.t.t.t)
 let g:=As a.1
 Qc (vZ h)
 (Qc (cond b Q3 (eb x.2.1&&bif c then Q3 else Bv d h))
  (br (cond b Q3 (cond c Q3 (!fC d h))) (re (Qe [str [],kb Q4]) []) (Qc (Jz a.1) (br (!g.2) (re (Qe [str [],kb Q4]) []) (re (Qe [str a.1,kb Q3]) [])))))
def o9(x:zN):=an [Q6,Q7] t0 100000000 (zkD x)
def iS(x:zN):=(o9 x).isSome
def lM(x:zN):=o2 (o9 x)
def znt:=FT [aC] [Q6,Q7] λx=>o9 x.1
theorem zii:FK 58 znt:=GD.T1 (f:=Tryz.f58) (keep:=k0) (e:=e0)
def LH:=zf5.add 58 znt
theorem GF:zw LH:=GD.add zii
abbrev nj:List CP:=[.d .str,.d .str,.d .str,.vec .str,.nil,.d .str,.nil,.nil,.d .expr,.nil,.nil,.d .str,.d zj,.d zj,.d .str,.d .str,.nil,.d .str]
abbrev zcz:List CP:=[.d .str,.d .str,.d .str,.vec .str,.nil,.d .str,.nil,.nil,.d .str,.d zj,.d zj,.d .str,.d .str,.nil,.nil,.nil,.d .str,.d zj,.d zj,.d .str,.d .str,.nil,.d .str]
abbrev Pa:Nat->aP:=λj=>if j=14 then{slots:=[0,1,4],prom:=[(1,Q1 3,.str)]}else if j=1000000 then{prom:=[(1,Q1 3,.str)]}else{ }
inductive sI where
 |h14 (z0:zo aH) (z1:zo zcz)
 |h14b (b4:Sem Q7) (z0:zo aH) (z1:zo zcz)
abbrev Ld:sI->Nat×St
 |.h14 h z=>(14,⟨tm 117 [(0,Qf 0 0),(1,Qf 1 0),(4,kb Q3)],[Qa (bI [] aH h),Qa (bI [2] zcz z),AO.vec Q6 z.2.2.2.1]⟩)
 |.h14b b h z=>(14,⟨tm 117 [(0,Qf 0 0),(1,Qf 1 0),(4,AV.bool b)],[Qa (bI [] aH h),Qa (bI [2] zcz z),AO.vec Q6 z.2.2.2.1]⟩)
theorem zls:zM LH.P 77 Tryz.f77 2:=bL kw
def Xn(y:zo aH)(z:zo kl):Tr (sI⊕au):=
 let a0:=(y.1,y.2.1,y.2.2.1,())
 let a1:=fD a0 Tj
 let a2:=(a1.2.1,a1.2.2.1,a1.2.2.2.1,())
 let a3:=cu a2
 let a4:=(a3.2.1,a3.2.2.1,a3.2.2.2.1,())
 let a5:=bN a4 uC
 let a6:=(a5.1,a5.2.1,a5.2.2.1,())
 let a7:=cu a6
 let a8:=(a7.2.1,a7.2.2.1,a7.2.2.2.1,())
 let a9:=([],z.2.2.2)
 let h4:=bN a8 [44]
 let i3:=(h4.1,h4.2.1,h4.2.2.1,())
 let v:=cu i3
 let i4:=(v.2.1,v.2.2.1,v.2.2.2.1,())
 let h5:=bN i4 Ft
 let i5:=(h5.1,h5.2.1,h5.2.2.1,())
 let A:=cu i5
 let i6:=(A.2.1,A.2.2.1,A.2.2.2.1,())
 let i7:=fe i6 iv
 let h6:=bN a8 Fr
 let i8:=(h6.1,h6.2.1,h6.2.2.1,())
 let B:=cu i8
 let h7:=[B.1]
 let i9:=(B.2.1,B.2.2.1,B.2.2.2.1,())
 let h8:=bN i9 Fu
 let j0:=(h8.1,h8.2.1,h8.2.2.1,())
 let C:=cu j0
 let j1:=[C.1]
 let j2:=(C.2.1,C.2.2.1,C.2.2.2.1,())
 let j3:=fe j2 iv
 let j4:=fe a8 iv
 let D:=fD a2 Tl
 let E:=(D.2.1,D.2.2.1,D.2.2.2.1,())
 let b:=cu E
 let j5:=(b.2.1,b.2.2.1,b.2.2.2.1,())
 let h9:=bN j5 uC
 let j6:=(h9.1,h9.2.1,h9.2.2.1,())
 let c:=cu j6
 let a:=(c.2.1,c.2.2.1,c.2.2.2.1,())
 let x0:=bN a [44]
 let j7:=(x0.1,x0.2.1,x0.2.2.1,())
 let F:=cu j7
 let j8:=(F.2.1,F.2.2.1,F.2.2.2.1,())
 let x1:=bN j8 Ft
 let j9:=(x1.1,x1.2.1,x1.2.2.1,())
 let H:=cu j9
 let k1:=(H.2.1,H.2.2.1,H.2.2.2.1,())
 let k2:=fe k1 iv
 let x2:=bN a Fr
 let k3:=(x2.1,x2.2.1,x2.2.2.1,())
 let I:=cu k3
 let x3:=[I.1]
 let k4:=(I.2.1,I.2.2.1,I.2.2.2.1,())
 let x4:=bN k4 Fu
 let k5:=(x4.1,x4.2.1,x4.2.2.1,())
 let J:=cu k5
 let k6:=[J.1]
 let k7:=(J.2.1,J.2.2.1,J.2.2.2.1,())
 let k8:=fe k7 iv
 let k9:=fe a iv
 let n:=fD E Tk
 let l0:=(n.2.1,n.2.2.1,n.2.2.2.1,())
 let d:=cu l0
 let l1:=(d.2.1,d.2.2.1,d.2.2.2.1,())
 let x5:=bN l1 uC
 let l2:=(x5.1,x5.2.1,x5.2.2.1,())
 let g:=cu l2
 let h:=(g.2.1,g.2.2.1,g.2.2.2.1,())
 let x6:=bN h [44]
 let l3:=(x6.1,x6.2.1,x6.2.2.1,())
 let L:=cu l3
 let l4:=(L.2.1,L.2.2.1,L.2.2.2.1,())
 let x7:=bN l4 Ft
 let l5:=(x7.1,x7.2.1,x7.2.2.1,())
 let M:=cu l5
 let l6:=(M.2.1,M.2.2.1,M.2.2.2.1,())
 let l7:=fe l6 iv
 let x8:=bN h Fr
 let l8:=(x8.1,x8.2.1,x8.2.2.1,())
 let N:=cu l8
 let x9:=[N.1]
 let l9:=(N.2.1,N.2.2.1,N.2.2.2.1,())
 let i0:=bN l9 Fu
 let m1:=(i0.1,i0.2.1,i0.2.2.1,())
 let O:=cu m1
 let m2:=[O.1]
 let m3:=(O.2.1,O.2.2.1,O.2.2.2.1,())
 let m4:=fe m3 iv
 let m6:=fe h iv
 let m7:=(n.2.1,n.2.2.1,Q4,())
 let i:=cu m7
 let m8:=(i.2.1,i.2.2.1,i.2.2.2.1,())
 let i1:=bN m8 uC
 let m9:=(i1.1,i1.2.1,i1.2.2.1,())
 let j:=cu m9
 let x:=(j.2.1,j.2.2.1,j.2.2.2.1,())
 let i2:=bN x [44]
 let n1:=(i2.1,i2.2.1,i2.2.2.1,())
 let P:=cu n1
 let n2:=(P.2.1,P.2.2.1,P.2.2.2.1,())
 let o:=bN n2 Ft
 let S:=(o.1,o.2.1,o.2.2.1,())
 let k:=cu S
 let T:=(k.2.1,k.2.2.1,k.2.2.2.1,())
 let W:=fe T iv
 let p:=bN x Fr
 let X:=(p.1,p.2.1,p.2.2.1,())
 let l:=cu X
 let s:=[l.1]
 let Y:=(l.2.1,l.2.2.1,l.2.2.2.1,())
 let u:=bN Y Fu
 let Z:=(u.1,u.2.1,u.2.2.1,())
 let m:=cu Z
 let h0:=[m.1]
 let h1:=(m.2.1,m.2.2.1,m.2.2.2.1,())
 let h2:=fe h1 iv
 let h3:=fe x iv
 Qc (ej a0 Tj)
 (br a1.1
  (Qc (bH a2) (Qc (bb a4 uC) (Qc (bH a6) (br Q3 (Qc (bb a8 [40]) (Q9 (sI.h14 (bN a8 [40]) (dm,a3.1,a7.1,a9)))) (br Q4 (Qc (bb a8 [44]) (Qc (bH i3) (Qc (bb i4 Ft) (Qc (bH i5) (Qc (ec i6 iv) (re (Qe []) (cE aH nj i7.2
  (dm,a3.1,a7.1,[],A.1,i7.1,z.t.t.2.1,z.t.t.q.1,z.t.t.q.2.1,z.t.t.t.1,z.t.t.t.2.1,v.1,())))))))) (br Q4 (Qc (bb a8 Fr) (Qc (bH i8) (Qc (Q0 (Io h7<=1073741824)) (Qc (bb i9 Fu) (Qc (bH j0)
  (Qc (Q0 (Io h7+Io j1<=1073741824)) (Qc (ec j2 iv) (re (Qe []) (cE aH nj j3.2 (dm,a3.1,a7.1,h7++j1,z.2.2.2.1,j3.1,z.t.t.2)))))))))) (Qc (ec a8 iv) (re (Qe []) (cE aH nj j4.2
  (dm,a3.1,a7.1,[],z.2.2.2.1,j4.1,z.t.t.2))))))))))
  (Qc (ej a2 Tl) (br D.1 (Qc (bH E) (Qc (bb j5 uC) (Qc (bH j6) (br Q4 (Qc (bb a [40]) (Q9 (sI.h14 (bN a [40]) (gm,b.1,c.1,a9)))) (br Q3 (Qc (bb a [44]) (Qc (bH j7) (Qc (bb j8 Ft) (Qc (bH j9)
  (Qc (ec k1 iv) (re (Qe []) (cE aH nj k2.2 (gm,b.1,c.1,[],H.1,k2.1,z.t.t.2.1,z.t.t.q.1,z.t.t.q.2.1,z.t.t.t.1,z.t.t.t.2.1,F.1,())))))))) (br Q4 (Qc (bb a Fr) (Qc (bH k3)
  (Qc (Q0 (Io x3<=1073741824)) (Qc (bb k4 Fu) (Qc (bH k5) (Qc (Q0 (Io x3+Io k6<=1073741824)) (Qc (ec k7 iv) (re (Qe []) (cE aH nj k8.2 (gm,b.1,c.1,x3++k6,z.2.2.2.1,k8.1,z.t.t.2)))))))))) (Qc (ec a iv)
  (re (Qe []) (cE aH nj k9.2 (gm,b.1,c.1,[],z.2.2.2.1,k9.1,z.t.t.2)))))))))) (Qc (ej E Tk) (br n.1 (Qc (bH l0) (Qc (bb l1 uC) (Qc (bH l2) (br Q4 (Qc (bb h [40]) (Q9 (sI.h14 (bN h [40]) (mU,d.1,g.1,a9))))
  (br Q4 (Qc (bb h [44]) (Qc (bH l3) (Qc (bb l4 Ft) (Qc (bH l5) (Qc (ec l6 iv) (re (Qe []) (cE aH nj l7.2 (mU,d.1,g.1,[],M.1,l7.1,z.t.t.2.1,z.t.t.q.1,z.t.t.q.2.1,
  z.t.t.t.1,z.t.t.t.2.1,L.1,())))))))) (br Q3 (Qc (bb h Fr) (Qc (bH l8) (Qc (Q0 (Io x9<=1073741824)) (Qc (bb l9 Fu) (Qc (bH m1) (Qc (Q0 (Io x9+Io m2<=1073741824)) (Qc (ec m3 iv) (re (Qe []) (cE aH nj m4.2
  (mU,d.1,g.1,x9++m2,z.2.2.2.1,m4.1,z.t.t.2)))))))))) (Qc (ec h iv) (re (Qe []) (cE aH nj m6.2 (mU,d.1,g.1,[],z.2.2.2.1,m6.1,z.t.t.2)))))))))) (Qc (bH m7) (Qc (bb m8 uC) (Qc (bH m9)
  (br (z.1==dm) (Qc (bb x [40]) (Q9 (sI.h14 (bN x [40]) (z.1,i.1,j.1,a9)))) (br (z.1==gm) (Qc (bb x [44]) (Qc (bH n1) (Qc (bb n2 Ft) (Qc (bH S) (Qc (ec T iv) (re (Qe []) (cE aH nj W.2
  (z.1,i.1,j.1,[],k.1,W.1,z.t.t.2.1,z.t.t.q.1,z.t.t.q.2.1,z.t.t.t.1,z.t.t.t.2.1,P.1,())))))))) (br (z.1==mU) (Qc (bb x Fr) (Qc (bH X) (Qc (Q0 (Io s<=1073741824)) (Qc (bb Y Fu) (Qc (bH Z)
  (Qc (Q0 (Io s+Io h0<=1073741824)) (Qc (ec h1 iv) (re (Qe []) (cE aH nj h2.2 (z.1,i.1,j.1,s++h0,z.2.2.2.1,h2.1,z.t.t.2)))))))))) (Qc (ec x iv) (re (Qe []) (cE aH nj h3.2 (z.1,i.1,j.1,[],z.2.2.2.1,h3.1,z.t.t.2)))))))))))))))
theorem zj7(y:zo aH)(z:zo kl):rn LH 2 Pa Tryz.f77 [Qf 0 0,Qf 1 0] (cE aH kl y z)=(Xn y z).map (lf Tryz.f77 Ld):=kw
def Z6:sI->Tr (sI⊕au)
 | .h14 x z=>
  let a:=(x.1,x.2.1,x.2.2.1,())
  let h:=cu a
  let c:=[h.1]
  let d:=(h.2.1,h.2.2.1,h.2.2.2.1,())
  let g:=fD d [44]
  let b:=bN a [41]
  let i:=(b.1,b.2.1,b.2.2.1,())
  let j:=fe i iv
  br x.2.2.1
  (Qc (bH a)
   (Qc (Q0 (Io z.2.2.2.1+Io c<=1073741824)) (Qc (ej d [44]) (Q9 (sI.h14b g.1 g.2 (z.1,z.2.1,z.2.2.1,z.2.2.2.1++c,z.t))))))
  (Qc (bb a [41])
   (Qc (ec i iv) (re (Qe []) (cE aH nj j.2 (z.1,z.2.1,z.2.2.1,z.2.2.2.1,z.t.1,j.1,z.t.t.q)))))
 | .h14b k x z=>
  let a:=(x.1,x.2.1,x.2.2.1,())
  let h:=cu a
  let c:=[h.1]
  let d:=(h.2.1,h.2.2.1,h.2.2.2.1,())
  let g:=fD d [44]
  let b:=bN a [41]
  let i:=(b.1,b.2.1,b.2.2.1,())
  let j:=fe i iv
  br (cond k x.2.2.1 Q4)
  (Qc (bH a)
   (Qc (Q0 (Io z.2.2.2.1+Io c<=1073741824)) (Qc (ej d [44]) (Q9 (sI.h14b g.1 g.2 (z.1,z.2.1,z.2.2.1,z.2.2.2.1++c,z.t))))))
  (Qc (bb a [41])
   (Qc (ec i iv) (re (Qe []) (cE aH nj j.2 (z.1,z.2.1,z.2.2.1,z.2.2.2.1,z.t.1,j.1,z.t.t.q)))))
theorem zlG:∀s,run LH 2 Pa (Func.results Tryz.f77).toList 400 (ab Tryz.f77 (Ld s).1) (Ld s).2=(Z6 s).map (lf Tryz.f77 Ld)
 |.h14 z h=>by kernel_rfl
 |.h14b b z h=>by kernel_rfl
def ZI(y:zo aH)(z:zo kl):Option (zD (Qi Q1 [])×zo aH×zo nj):=R7 [] aH nj Z6 100000000 (Xn y z)
def ZH(y:zo aH)(z:zo kl):Bool:=(ZI y z).isSome
def zg8(y:zo aH)(z:zo kl):zo aH×zo nj:=(λr:zD (Qi Q1 [])×zo aH×zo nj=>r.2) ((ZI y z).getD (cA [],fU aH,fU nj))
def zeE:z8:=VU aH kl [] [] aH nj (λy z _=>ZH y z) λy z _=>((),zg8 y z)
theorem zaO:FK 77 zeE:=zjg (ps:=aH) (qs:=kl) (ks:=[]) (outs:=[]) (keep:=Pa) (gas:=400) (n:=100000000) (e:=Ld) (t:=Z6) (i:=λy z x=>Xn y z) GF zls (λy z x=>zj7 y z) zlG (λ_ _ _=>by kernel_rfl) (λ_ _ _=>by kernel_rfl)
def zf6:=LH.add 77 zeE
theorem GG:zw zf6:=GF.add zaO
abbrev zrL:=kJ [(17,[2,4,6,7,8]),(25,[2,4,6,7,9])]
inductive S3 where
 |h17 (l4:LF) (z0:zo kl) (z1:zo aH) (z2:zo kl)
 |h25 (l4:LF) (z0:zo kl) (z1:zo aH) (z2:zo kl)
abbrev zuv:S3->Nat×St
 |.h17 l z h x=>(17,⟨tm 172 [(2,Qf 0 0),(4,sl zB l),(6,Qf 1 0),(7,Qf 2 0),(8,kb Q3)],[Qa (bI [] kl z),Qa (bI [] aH h),Qa (bI [] kl x)]⟩)
 |.h25 l z h x=>(25,⟨tm 172 [(2,Qf 0 0),(4,sl zB l),(6,Qf 1 0),(7,Qf 2 0),(9,kb Q3)],[Qa (bI [] kl z),Qa (bI [] aH h),Qa (bI [] kl x)]⟩)
def zvK(J:TS):Tr (S3⊕au):=
 let a0:=((As J).1,0,Q3,())
 let a1:=fD a0 zcg
 let a2:=(a1.2.1,a1.2.2.1,a1.2.2.2.1,())
 let a3:=fD a2 zck
 let a4:=(a3.2.1,a3.2.2.1,a3.2.2.2.1,())
 let a5:=bN a4 zcs
 let a6:=(a5.1,a5.2.1,a5.2.2.1,())
 let a7:=cu a6
 let a8:=(↑(Io (As J).1):Int)
 let a9:=(bl1,a7.1,[],[],[],[],[],[],za.mk [] (0,0,[]) [] [],[],[],za.mk [] (0,0,[]) [] [],[])
 let h2:=lM a9
 let g:=fD a4 zcm
 let i:=(g.2.1,g.2.2.1,g.2.2.2.1,())
 let D:=bN i zcn
 let L:=(D.1,D.2.1,D.2.2.1,())
 let j:=cu L
 let M:=(j.2.1,j.2.2.1,j.2.2.2.1,())
 let E:=bN M zcu
 let N:=(E.1,E.2.1,E.2.2.1,())
 let k:=fD i zct
 let m:=(k.2.1,k.2.2.1,k.2.2.2.1,())
 let n:=cu m
 let O:=(n.2.1,n.2.2.1,n.2.2.2.1,())
 let o:=fD m zci
 let p:=(o.2.1,o.2.2.1,o.2.2.2.1,())
 let F:=bN p uC
 let P:=(F.1,F.2.1,F.2.2.1,())
 let c:=cu P
 let S:=(c.2.1,c.2.2.1,c.2.2.2.1,())
 let h:=fe S md
 let T:=(bl0,c.1,[],[],[],[],[],[],za.mk [] (0,0,[]) [] [],[],[],zr h.1,[])
 let h3:=lM T
 let u:=fD p zcr
 let y:=(u.2.1,u.2.2.1,u.2.2.2.1,())
 let H:=bN y [42]
 let W:=(H.1,H.2.1,H.2.2.1,())
 let I:=bN W uC
 let X:=(I.1,I.2.1,I.2.2.1,())
 let d:=cu X
 let Y:=(d.2.1,d.2.2.1,d.2.2.2.1,())
 let x:=fe Y md
 let Z:=(Ig,d.1,[],[],[],[],[],[],za.mk [] (0,0,[]) [] [],[],[],zr x.1,[])
 let h4:=lM Z
 let z:=fD y zcl
 let A:=(z.2.1,z.2.2.1,z.2.2.2.1,())
 let h5:=Nf A Tm
 let B:=fD A zcp
 let C:=(B.2.1,B.2.2.1,B.2.2.2.1,())
 let h6:=Nf C Tm
 let b:=fD C zco
 let h0:=(b.2.1,b.2.2.1,b.2.2.2.1,())
 let a:=zg8 h0 ([],[],[],[],[],0,0,[],[],[],0,0,[],[],[],())
 let h1:=(a.2.1,a.2.2.1,a.2.2.2.1,a.t.1,[],a.t.2.1,[],[],zr a.t.q.1,[],[],za.mk a.t.q.2.1 (a.t.t.1,a.t.t.2.1,a.t.t.q.1) a.t.t.q.2.1 [],a.t.t.t.1)
 let h7:=lM h1
 Qc (Jz J)
 (br (!(As J).2)
  (re (Qe [Qd [str [],str [],str [],Qb,Qb,str [],Qb,Qb,str [],ai 0,ai 0,str [],str [],Qb,Qb,Qb,str [],ai 0,ai 0,str [],str [],Qb,str []],kb Q4]) [])
  (Qc (ej a0 zcg) (br a1.1 Tr.err (Qc (ej a2 zck) (br a3.1 (Qc (bb a4 zcs) (Qc (bH a6) (br (cond (!a7.2.2.2.1) Q3 (a7.2.2.1!=a8)) (re (Qe [Qd [str [],str [],str [],Qb,Qb,str [],Qb,Qb,str [],ai 0,
  ai 0,str [],str [],Qb,Qb,Qb,str [],ai 0,ai 0,str [],str [],Qb,str []],kb Q4]) []) (Qc (iS a9) (br (!h2.2) (re (Qe [Qd [str [],str [],str [],Qb,Qb,str [],Qb,Qb,str [],ai 0,
  ai 0,str [],str [],Qb,Qb,Qb,str [],ai 0,ai 0,str [],str [],Qb,str []],kb Q4]) []) (re (Qe [Qd [str bl1,str a7.1,str [],Qb,Qb,str [],Qb,Qb,str [],
  ai 0,ai 0,str [],str [],Qb,Qb,Qb,str [],ai 0,ai 0,str [],str [],Qb,str []],kb Q3]) [])))))) (Qc (ej a4 zcm) (br g.1 (Qc (bb i zcn) (Qc (bH L) (Qc (bb M zcu) (Qc (bb N [40]) (Q9
  (S3.h17 (As J).1 ([],[],[],[],[],0,0,[],[],[],0,0,[],[],[],()) (bN N [40]) (bl3,j.1,[],[],[],0,0,[],[],[],0,0,[],[],[],()))))))) (Qc (ej i zct) (br k.1 (Qc (bH m) (Qc (bb O [83,69,84]) (Q9
  (S3.h25 (As J).1 ([],[],[],[],[],0,0,[],[],[],0,0,[],[],[],()) (bN O [83,69,84]) (K2,n.1,[],[],[],0,0,[],[],[],0,0,[],[],[],()))))) (Qc (ej m zci) (br o.1 (Qc (bb p uC) (Qc (bH P) (Qc (ec S md)
  (br (cond (!h.2.2.2.1) Q3 (h.2.2.1!=a8)) (re (Qe [Qd [str [],str [],str [],Qb,Qb,str [],Qb,Qb,str [],ai 0,ai 0,str [],str [],Qb,Qb,Qb,str [],ai 0,ai 0,str [],str [],Qb,str []],kb Q4]) []) (Qc (iS T) (br (!h3.2)
  (re (Qe [Qd [str [],str [],str [],Qb,Qb,str [],Qb,Qb,str [],ai 0,ai 0,str [],str [],Qb,Qb,Qb,str [],ai 0,ai 0,str [],str [],Qb,str []],kb Q4]) []) (re (Qe [Qd
  [str bl0,str c.1,str [],Qb,Qb,str [],Qb,Qb,str [],ai 0,ai 0,str [],str [],Qb,Qb,Qb,str (za.op h.1),ai (za.v h.1).1,ai (za.v h.1).2.1,str (za.v h.1).2.2,str (za.s h.1),sl Q5 (za.l h.1),str []],
  kb Q3]) []))))))) (Qc (ej p zcr) (br u.1 (Qc (bb y [42]) (Qc (bb W uC) (Qc (bH X) (Qc (ec Y md) (br (cond (!x.2.2.2.1) Q3 (x.2.2.1!=a8)) (re (Qe [Qd
  [str [],str [],str [],Qb,Qb,str [],Qb,Qb,str [],ai 0,ai 0,str [],str [],Qb,Qb,Qb,str [],ai 0,ai 0,str [],str [],Qb,str []],kb Q4]) []) (Qc (iS Z) (br (!h4.2) (re (Qe [Qd
  [str [],str [],str [],Qb,Qb,str [],Qb,Qb,str [],ai 0,ai 0,str [],str [],Qb,Qb,Qb,str [],ai 0,ai 0,str [],str [],Qb,str []],kb Q4]) []) (re (Qe [Qd
  [str Ig,str d.1,str [],Qb,Qb,str [],Qb,Qb,str [],ai 0,ai 0,str [],str [],Qb,Qb,Qb,str (za.op x.1),ai (za.v x.1).1,ai (za.v x.1).2.1,str (za.v x.1).2.2,str (za.s x.1),sl Q5 (za.l x.1),str []],
  kb Q3]) [])))))))) (Qc (ej y zcl) (br z.1 (Qc (JN A Tm) (br h5.1 Tr.err Tr.err)) (Qc (ej A zcp) (br B.1 (Qc (JN C Tm) (br h6.1 Tr.err Tr.err)) (Qc (ej C zco) (br b.1
  (Qc (ZH h0 ([],[],[],[],[],0,0,[],[],[],0,0,[],[],[],())) (br (cond (!a.1.2.2.1) Q3 (a.1.2.1!=a8)) (re (Qe [Qd [str [],str [],str [],Qb,Qb,str [],Qb,Qb,str [],ai 0,ai 0,str [],str [],Qb,Qb,Qb,str [],
  ai 0,ai 0,str [],str [],Qb,str []],kb Q4]) []) (Qc (iS h1) (br (!h7.2) (re (Qe [Qd [str [],str [],str [],Qb,Qb,str [],Qb,Qb,str [],ai 0,ai 0,str [],str [],Qb,Qb,Qb,
  str [],ai 0,ai 0,str [],str [],Qb,str []],kb Q4]) []) (re (Qe [Qd [str a.2.1,str a.2.2.1,str a.2.2.2.1,AV.vec 0,Qb,str a.t.2.1,Qb,Qb,str (za.op a.t.q.1),ai (za.v a.t.q.1).1,ai (za.v a.t.q.1).2.1,
  str (za.v a.t.q.1).2.2,str (za.s a.t.q.1),sl Q5 (za.l a.t.q.1),Qb,Qb,str a.t.q.2.1,ai a.t.t.1,ai a.t.t.2.1,str a.t.t.q.1,str a.t.t.q.2.1,Qb,str a.t.t.t.1],kb Q3])
  [AO.vec Q6 a.t.1]))))) (br (cond (!b.2.2.2.1) Q3 (b.2.2.1!=a8)) (re (Qe [Qd [str [],str [],str [],Qb,Qb,str [],Qb,Qb,str [],ai 0,ai 0,str [],str [],Qb,Qb,Qb,str [],ai 0,ai 0,str [],str [],Qb,str []],kb Q4]) [])
  (Qc Q3 (br Q3 (re (Qe [Qd [str [],str [],str [],Qb,Qb,str [],Qb,Qb,str [],ai 0,ai 0,str [],str [],Qb,Qb,Qb,str [],ai 0,ai 0,str [],str [],Qb,str []],kb Q4]) []) (re (Qe [Qd
  [str [],str [],str [],Qb,Qb,str [],Qb,Qb,str [],ai 0,ai 0,str [],str [],Qb,Qb,Qb,str [],ai 0,ai 0,str [],str [],Qb,str []],kb Q3]) [])))))))))))))))))))))))
def zwm:S3->Tr (S3⊕au)
 | .h17 d _ h z=>
  let x:=(h.1,h.2.1,h.2.2.1,())
  let b:=bN x [41]
  let a:=(z.1,z.2.1,z.2.2.1,[],[],z.2.2.2.1,[],[],za.mk z.t.1 (z.t.2.1,z.t.q.1,z.t.q.2.1) z.t.t.1 [],[],[],za.mk z.t.t.2.1 (z.t.t.q.1,z.t.t.q.2.1,z.t.t.t.1) z.t.t.t.2.1 [],z.t.t.t.q.1)
  let c:=lM a
  br h.2.2.1 Tr.err
  (Qc (bb x [41])
   (br (cond (!b.2.2.1) Q3 (b.2.1!=(↑d.length:Int))) (re (Qe [Qd [str [],str [],str [],Qb,Qb,str [],Qb,Qb,str [],ai 0,ai 0,str [],str [],Qb,Qb,Qb,str [],ai 0,ai 0,str [],str [],Qb,str []],kb Q4]) []) (Qc (iS a)
   (br (!c.2) (re (Qe [Qd [str [],str [],str [],Qb,Qb,str [],Qb,Qb,str [],ai 0,ai 0,str [],str [],Qb,Qb,Qb,str [],ai 0,ai 0,str [],str [],Qb,str []],kb Q4]) []) (re (Qe [Qd
   [str z.1,str z.2.1,str z.2.2.1,Qb,Qb,str z.2.2.2.1,Qb,Qb,str z.t.1,ai z.t.2.1,ai z.t.q.1,str z.t.q.2.1,str z.t.t.1,Qb,Qb,Qb,str z.t.t.2.1,ai z.t.t.q.1,
   ai z.t.t.q.2.1,str z.t.t.t.1,str z.t.t.t.2.1,Qb,str z.t.t.t.q.1],kb Q3]) [])))))
 | .h25 d _ h z=>
  let x:=(h.1,h.2.1,h.2.2.1,())
  let b:=cu x
  let a:=fe x md
  let c:=(z.1,z.2.1,z.2.2.1,[],[],z.2.2.2.1,[],[],za.mk z.t.1 (z.t.2.1,z.t.q.1,z.t.q.2.1) z.t.t.1 [],[],[],zr a.1,z.t.t.t.q.1)
  let g:=lM c
  br h.2.2.1 (Qc (bH x) (Qc (bb (b.2.1,b.2.2.1,b.2.2.2.1,()) [61]) Tr.err))
  (Qc (ec x md)
   (br (cond (!a.2.2.2.1) Q3 (a.2.2.1!=(↑d.length:Int))) (re (Qe [Qd [str [],str [],str [],Qb,Qb,str [],Qb,Qb,str [],ai 0,ai 0,str [],str [],Qb,Qb,Qb,str [],ai 0,ai 0,str [],str [],Qb,str []],kb Q4]) []) (Qc (iS c)
   (br (!g.2) (re (Qe [Qd [str [],str [],str [],Qb,Qb,str [],Qb,Qb,str [],ai 0,ai 0,str [],str [],Qb,Qb,Qb,str [],ai 0,ai 0,str [],str [],Qb,str []],kb Q4]) []) (re (Qe [Qd
   [str z.1,str z.2.1,str z.2.2.1,Qb,Qb,str z.2.2.2.1,Qb,Qb,str z.t.1,ai z.t.2.1,ai z.t.q.1,str z.t.q.2.1,str z.t.t.1,Qb,Qb,Qb,str (za.op a.1),ai (za.v a.1).1,ai (za.v a.1).2.1,
   str (za.v a.1).2.2,str (za.s a.1),sl Q5 (za.l a.1),str z.t.t.t.q.1],kb Q3]) [])))))
def El(x:TS):=an [aC,Q7] zwm 100000000 (zvK x)
def ZD(x:TS):=(El x).isSome
def cT(x:TS):=o2 (El x)
def znO:=FT [Q6] [aC,Q7] λx=>El x.1
theorem ziH:FK 29 znO:=GG.T1 (f:=Tryz.f29) (keep:=zrL) (e:=zuv)
def zf7:=zf6.add 29 znO
theorem GH:zw zf7:=GG.add ziH
def zvG(x:TS):Tr (Empty⊕au):=
 Qc (ZD x)
 (re
  (Qd [str (cT x).1.1,str (cT x).1.2.1,str (cT x).1.2.2.1,sl Q6 (cT x).1.2.2.2.1,sl zl (cT x).1.t.1,str (cT x).1.t.2.1,sl Q6 (cT x).1.t.q.1,sl (Sh.str.pr Q6) (cT x).1.t.q.2.1,str (za.op (cT x).1.t.t.1),
  ai (za.v (cT x).1.t.t.1).1,ai (za.v (cT x).1.t.t.1).2.1,str (za.v (cT x).1.t.t.1).2.2,str (za.s (cT x).1.t.t.1),sl Q5 (za.l (cT x).1.t.t.1),sl zf (cT x).1.t.t.2.1,sl (Sh.str.pr Q5) (cT x).1.t.t.q.1,
  str (za.op (cT x).1.t.t.q.2.1),ai (za.v (cT x).1.t.t.q.2.1).1,ai (za.v (cT x).1.t.t.q.2.1).2.1,str (za.v (cT x).1.t.t.q.2.1).2.2,str (za.s (cT x).1.t.t.q.2.1),sl Q5 (za.l (cT x).1.t.t.q.2.1),
  str (cT x).1.t.t.t])
  [])
def Yi(x:TS):=an [aC] t0 100000000 (zvG x)
def zr2(x:TS):=o1 (Yi x)
def znf:=FT [Q6] [aC] λx=>Yi x.1
theorem zh2:FK 9 znf:=GH.T1 (f:=Tryz.f9) (keep:=k0) (e:=e0)
def zf8:=zf7.add 9 znf
theorem kX:zw zf8:=GH.add zh2
def zgC(x h:zp):Tr (Empty⊕au):=
 let b:=x.1==h.1&&(x.2.1==h.2.1&&(x.2.2==h.2.2&&Q3))
 let a:=bn b
 Qc (nJ x h)
 (br (rL x h) (re (Qd [ai 0,ai 0,str []]) [])
  (Qc (lJ b) (re (Qd [ai a.1,ai a.2.1,str a.2.2]) [])))
def qw(x h:zp):=an [zf] t0 100000000 (zgC x h)
def vF(x h:zp):=(qw x h).isSome
def rJ(x h:zp):=o1 (qw x h)
def ze6:=FT [zf,zf] [zf] λx=>qw x.1 x.2.1
theorem zbg:FK 170 ze6:=kX.T1 (f:=Tryz.f170) (keep:=k0) (e:=e0)
def zgD(x h:zp):Tr (Empty⊕au):=
 let b:=Op.bytesLess x.2.2 h.2.2
 let a:=bn b
 Qc (nJ x h)
 (br (rL x h) (re (Qd [ai 0,ai 0,str []]) [])
  (br (Q0 (x.2.1<h.2.1)) (Qc Q3 (re (Qd [ai (bn Q3).1,ai (bn Q3).2.1,str (bn Q3).2.2]) [])) (Qc (lJ b) (re (Qd [ai a.1,ai a.2.1,str a.2.2]) []))))
def vG(x h:zp):=an [zf] t0 100000000 (zgD x h)
def Bg(x h:zp):=(vG x h).isSome
def xW(x h:zp):=o1 (vG x h)
def ze8:=FT [zf,zf] [zf] λx=>vG x.1 x.2.1
theorem zbi:FK 171 ze8:=kX.T1 (f:=Tryz.f171) (keep:=k0) (e:=e0)
def zgE(h x:zp):Tr (Empty⊕au):=
 let b:=Γ Δ (9223372036854775807-x.2.1)
 let c:=Γ Δ (-9223372036854775808-x.2.1)
 let a:=bif Q0 (x.2.1<0)then Q0 (h.2.1<c)else Q4
 Qc (nJ h x)
 (br (cond (rL h x) Q3 (h.1!=1)) (re (Qd [ai 0,ai 0,str []]) [])
  (br (cond (Q0 (x.2.1>0)) (cond (Q0 (h.2.1>b)) Q3 a) a) (re (Qd [ai 0,ai 0,str []]) []) (re (Qd [ai 1,ai (Γ Δ (h.2.1+x.2.1)),str []]) [])))
def vJ(x h:zp):=an [zf] t0 100000000 (zgE x h)
def Bh(x h:zp):=(vJ x h).isSome
def xX(x h:zp):=o1 (vJ x h)
def ze9:=FT [zf,zf] [zf] λx=>vJ x.1 x.2.1
theorem zbj:FK 102 ze9:=kX.T1 (f:=Tryz.f102) (keep:=k0) (e:=e0)
def zgF(h x:zp):Tr (Empty⊕au):=
 let b:=Γ Δ (-9223372036854775808+x.2.1)
 let c:=Γ Δ (9223372036854775807+x.2.1)
 let a:=bif Q0 (x.2.1<0)then Q0 (h.2.1>c)else Q4
 Qc (nJ h x)
 (br (cond (rL h x) Q3 (h.1!=1)) (re (Qd [ai 0,ai 0,str []]) [])
  (br (cond (Q0 (x.2.1>0)) (cond (Q0 (h.2.1<b)) Q3 a) a) (re (Qd [ai 0,ai 0,str []]) []) (re (Qd [ai 1,ai (Γ Δ (h.2.1-x.2.1)),str []]) [])))
def qy(x h:zp):=an [zf] t0 100000000 (zgF x h)
def vH(x h:zp):=(qy x h).isSome
def rK(x h:zp):=o1 (qy x h)
def zfa:=FT [zf,zf] [zf] λx=>qy x.1 x.2.1
theorem zbk:FK 172 zfa:=kX.T1 (f:=Tryz.f172) (keep:=k0) (e:=e0)
def zgr(x:Sem Q5)(h:Sem zl.sl):Tr (Empty⊕au):=
 br (za.op x==[])
 (Qc (hA (zr x) (za.mk [] (0,0,[]) [] []))
  (br (!fB (zr x) (za.mk [] (0,0,[]) [] [])) (re (ai 1) []) (re (ai 0) [])))
 (Qc (tY (zr x))
  (br (!D1 (zr x)) (re (ai 1) []) (Qc (oW (zr x) h) (br ((iQ (zr x) h).2!=0) (re (ai (iQ (zr x) h).2) []) (br (cond ((iQ (zr x) h).1!=0) ((iQ (zr x) h).1!=3) Q4) (re (ai 5) []) (re (ai 0) []))))))
def qD(x:Sem Q5)(h:Sem zl.sl):=an [zj] t0 100000000 (zgr x h)
def D7(x:Sem Q5)(h:Sem zl.sl):=(qD x h).isSome
def Jp(x:Sem Q5)(h:Sem zl.sl):=o1 (qD x h)
def zet:=FT [Q5,zl.sl] [zj] λx=>qD x.1 x.2.1
theorem zaC:FK 163 zet:=kX.T1 (f:=Tryz.f163) (keep:=k0) (e:=e0)
def Iu:=zf8.addL [(170,ze6),(171,ze8),(102,ze9),(172,zfa),(163,zet)]
theorem tz:zw Iu:=kX.addL<|fc zbg<|fc zbi<|fc zbj<|fc zbk<|fc zaC iH
def Ct(g:Sem Q5->bZ->ii->zp)(c:Sem Q5->bZ->ii->Bool):cg:=Iu.add 106 (zZ [Q5,Sh.sl zl,Sh.sl zf] [zf] (λx=>c x.1 x.2.1 x.2.2.1) λx=>(g x.1 x.2.1 x.2.2.1,()))
theorem Oq{g:Sem Q5->bZ->ii->zp}{c:Sem Q5->bZ->ii->Bool}(h:FK 106 (zZ [Q5,Sh.sl zl,Sh.sl zf] [zf] (λx=>c x.1 x.2.1 x.2.2.1) λx=>(g x.1 x.2.1 x.2.2.1,()))):zw (Ct g c):=tz.add h
abbrev O9:Nat->aP:=λj=>if j=6 then{slots:=[1,2,3,6,7]}else{ }
inductive FO where
 |h6 (l1:LC) (l2:LV) (i7:Int) (z0:zo [CP.d Q5]) (z1:zo [CP.d zf])
abbrev Lc:FO->Nat×St
 |.h6 l h i z x=>(6,⟨tm 103 [(1,sl zl l),(2,sl zf h),(3,Qf 0 0),(6,Qf 1 0),(7,ai i)],[Qa (bI [] [CP.d Q5] z),Qa (bI [] [CP.d zf] x)]⟩)
theorem zlm(g:Sem Q5->Sem zl.sl->Sem zf.sl->zp)(c:Sem Q5->Sem zl.sl->Sem zf.sl->Bool):zM (Ct g c).P 106 Tryz.f106 3:=bL kw
def qj(g:Sem Q5->Sem zl.sl->Sem zf.sl->zp)(c:Sem Q5->Sem zl.sl->Sem zf.sl->Bool)(x:Sem Q5)(j:Sem zl.sl)(k:Sem zf.sl):Tr (FO⊕au):=
 let s:=zr ((za.l x).getD (toNat 0) (zi Q5))
 let a:=g s j k
 let m:=Hs a
 let t:=a.1==0
 let n:=bn t
 let u:=zr ((za.l x).getD (toNat 1) (zi Q5))
 let h:=g u j k
 let o:=Hq a h
 let p:=Uy a h
 let q:=rJ a h
 let b:=xW a h
 let d:=xX a h
 let i:=rK a h
 br (za.op x==ou)
 (re (Qd [ai (za.v x).1,ai (za.v x).2.1,str (za.v x).2.2]) [])
 (br (za.op x==eL) (Q9 (FO.h6 j k 0 (x,()) ((0,0,[]),())))
  (Qc (zK 0 (za.l x).length) (Qc (c s j k) (br (za.op x==ni) (Qc (Je a) (re (Qd [ai m.1,ai m.2.1,str m.2.2]) [])) (br (za.op x==po) (Qc (mK a) (br (!sY a) (Qc Q3
  (re (Qd [ai (bn Q3).1,ai (bn Q3).2.1,str (bn Q3).2.2]) [])) (Qc (lJ t) (re (Qd [ai n.1,ai n.2.1,str n.2.2]) [])))) (Qc (zK 1 (za.l x).length) (Qc (c u j k) (br (za.op x==iw)
  (Qc (Jb a h) (re (Qd [ai o.1,ai o.2.1,str o.2.2]) [])) (br (za.op x==uD) (Qc (Si a h) (re (Qd [ai p.1,ai p.2.1,str p.2.2]) [])) (br (za.op x==[61]) (Qc (vF a h) (re (Qd [ai q.1,ai q.2.1,str q.2.2]) [])) (br (za.op x==[60])
  (Qc (Bg a h) (re (Qd [ai b.1,ai b.2.1,str b.2.2]) [])) (br (za.op x==[43]) (Qc (Bh a h) (re (Qd [ai d.1,ai d.2.1,str d.2.2]) [])) (Qc (vH a h) (re (Qd [ai i.1,ai i.2.1,str i.2.2]) []))))))))))))))
theorem zj1(g:Sem Q5->Sem zl.sl->Sem zf.sl->zp)(c:Sem Q5->Sem zl.sl->Sem zf.sl->Bool)(x:Sem Q5)(h:Sem zl.sl)(a:Sem zf.sl):rn (Ct g c) 0 O9 Tryz.f106 [zL Q5 x,zL zl.sl h,zL zf.sl a] []=(qj g c x h a).map (lf Tryz.f106 Lc):=kw
def Az(_:Sem Q5->Sem zl.sl->Sem zf.sl->zp)(_:Sem Q5->Sem zl.sl->Sem zf.sl->Bool):FO->Tr (FO⊕au)
 | .h6 l h i z b=>
  let x:=l.getD i.toNat (zi zl)
  let a:=h.getD i.toNat (zi zf)
  br (Q0 (i<(↑l.length:Int)))
  (Qc (zK i (Io l))
   (br (x.1==za.s z.1) (br (Q0 (i<(↑h.length:Int))) (Qc (zK i (Io h)) (re (Qd [ai a.1,ai a.2.1,str a.2.2]) [])) (re (Qd [ai 0,ai 0,str []]) [])) (Q9 (FO.h6 l h (Γ Δ (i+1)) z b))))
  (re (Qd [ai 0,ai 0,str []]) [])
theorem zlF(g:Sem Q5->Sem zl.sl->Sem zf.sl->zp)(c:Sem Q5->Sem zl.sl->Sem zf.sl->Bool):∀s,run (Ct g c) 0 O9 (Func.results Tryz.f106).toList 400 (ab Tryz.f106 (Lc s).1) (Lc s).2=(Az g c s).map (lf Tryz.f106 Lc)
 |.h6 l h i z x=>by kernel_rfl
def g9(o:Option (zD (Qi Q1 [zf]))):zp:=(λr:zD (Qi Q1 [zf])=>r.1) (o.getD (cA [zf]))
def Sk(g:Sem Q5->Sem zl.sl->Sem zf.sl->zp)(c:Sem Q5->Sem zl.sl->Sem zf.sl->Bool)(x:Sem Q5)(h:Sem zl.sl)(a:Sem zf.sl):Option (zD (Qi Q1 [zf])):=an [zf] (Az g c) 100000000 (qj g c x h a)
def cG:Nat->Sem Q5->Sem zl.sl->Sem zf.sl->Option (zD (Qi Q1 [zf]))
 |0=>λ_ _ _=>Q2
 |n+1=>Sk (λx h a=>g9 (cG n x h a)) λx h a=>(cG n x h a).isSome
theorem XL:zM Iu.P 106 Tryz.f106 3:=bL kw
theorem Ky:∀n,FK 106 (zZ [Q5,zl.sl,zf.sl] [zf] (λx=>(cG n x.1 x.2.1 x.2.2.1).isSome) λx=>(g9 (cG n x.1 x.2.1 x.2.2.1),()))
 |0=>eI ⟨Tryz.f106,XL.1,XL.2.1,XL.2.2.1⟩ (λ_=>rfl)
 |n+1=>lj (E:=Ct (λh a b=>g9 (cG n h a b)) (λh a b=>(cG n h a b).isSome)) (ks:=[Q5,zl.sl,zf.sl]) (outs:=[zf]) (keep:=O9) (gas:=400) (n:=100000000) (e:=Lc) (t:=Az (λh a b=>g9 (cG n h a b)) (λh a b=>(cG n h a b).isSome)) (i:=λx=>qj (λh a b=>g9 (cG n h a b)) (λh a b=>(cG n h a b).isSome) x.1 x.2.1 x.2.2.1) (Oq (Ky n)) (zlm _ _) (λx=>zj1 _ _ x.1 x.2.1 x.2.2.1) (zlF _ _) (λ_=>by kernel_rfl) (λ_=>by kernel_rfl)
def Bk(x:Sem Q5)(h:Sem zl.sl)(a:Sem zf.sl):Option (zD (Qi Q1 [zf])):=cG 16 x h a
def Bj(x:Sem Q5)(h:Sem zl.sl)(a:Sem zf.sl):Bool:=(Bk x h a).isSome
def Jg(x:Sem Q5)(h:Sem zl.sl)(a:Sem zf.sl):zp:=g9 (Bk x h a)
def zew:z8:=zZ [Q5,zl.sl,zf.sl] [zf] (λx=>Bj x.1 x.2.1 x.2.2.1) λx=>(Jg x.1 x.2.1 x.2.2.1,())
theorem zaF:FK 106 zew:=Ky 16
abbrev zrG:=kJ [(5,[1,3,4]),(11,[1,3,6]),(16,[1,3,7])]
inductive Fo where
 |h5 (i3:Int) (i4:Int) (z0:zo [CP.d aj])
 |h11 (i3:Int) (i6:Int) (z0:zo [CP.d aj])
 |h16 (i3:Int) (i7:Int) (z0:zo [CP.d aj])
abbrev zuq:Fo->Nat×St
 |.h5 i h z=>(5,⟨tm 139 [(1,Qf 0 0),(3,ai i),(4,ai h)],[Qa (bI [] [CP.d aj] z)]⟩)
 |.h11 i x z=>(11,⟨tm 139 [(1,Qf 0 0),(3,ai i),(6,ai x)],[Qa (bI [] [CP.d aj] z)]⟩)
 |.h16 i a z=>(16,⟨tm 139 [(1,Qf 0 0),(3,ai i),(7,ai a)],[Qa (bI [] [CP.d aj] z)]⟩)
def zkF(x:ao):Tr (Fo⊕au):=
 let a:=(↑(Io x.2.1):Int)
 let h:=Q0 (a<1)
 let b:=Q0 (a>8)
 let c:=Q0 (x.2.2.1<0)
 let d:=Q0 (x.2.2.1>=a)
 let g:=getD x.2.1 (toNat x.2.2.1) (zi zl)
 Qc
 (eb x.1&&
  bif !bM x.1 then Q3
  else bif h then Q3 else bif b then Q3 else bif c then Q3 else bif d then Q3 else zK x.2.2.1 (Io x.2.1))
 (br (cond (!bM x.1) Q3 (cond h Q3 (cond b Q3 (cond c Q3 (cond d Q3 (!g.2.2))))))
  (re (kb Q4) []) (Q9 (Fo.h5 a 0 (x,()))))
def sF:Fo->Tr (Fo⊕au)
 | .h5 i c z=>
  let a:=getD z.1.2.1 c.toNat (zi zl)
  let x:=!bM a.1
  let h:=Q0 (a.2.1<1)
  let b:=Q0 (a.2.1>3)
  br (Q0 (c<i))
  (Qc (zK c (Io z.1.2.1))
   (Qc (eb a.1&&bif x then Q3 else bif h then Q3 else bif b then Q3 else eQ z.1.2.1 a.1) (br (cond x Q3 (cond h Q3 (cond b Q3 (gz z.1.2.1 a.1!=c)))) (re (kb Q4) []) (Q9 (Fo.h5 i (Γ Δ (c+1)) z)))))
  (Q9 (Fo.h11 i 0 z))
 | .h11 i d z=>
  let a:=(↑(Io z.1.2.2.2.1):Int)
  let x:=zK d (Io z.1.2.2.2.1)
  let h:=getD z.1.2.2.2.1 d.toNat (zi zj)
  let b:=Q0 (h<0)
  br (Q0 (d<a))
  (Qc (x&&bif b then Q3 else x)
   (br (cond b Q3 (Q0 (h>=i))) (re (kb Q4) []) (Q9 (Fo.h11 i (Γ Δ (d+1)) z))))
  (Q9 (Fo.h16 i 0 z))
 | .h16 i g z=>
  let a:=(↑(Io z.1.t.1):Int)
  let x:=zK g (Io z.1.t.1)
  let h:=getD z.1.t.1 g.toNat (zi zB)
  let b:=Q0 (h.1<0)
  let j:=Q0 (h.1>=i)
  let k:=zr z.1.t.2
  br (Q0 (g<a))
  (Qc (x&&bif b then Q3 else x&&bif j then Q3 else x&&eb h.2)
   (br (cond b Q3 (cond j Q3 (!bM h.2))) (re (kb Q4) []) (Q9 (Fo.h16 i (Γ Δ (g+1)) z))))
  (Qc (D7 k z.1.2.1) (re (AV.bool (Jp k z.1.2.1==0)) []))
def Jo(x:ao):=an [Q7] sF 100000000 (zkF x)
def xY(x:ao):=(Jo x).isSome
def Hz(x:ao):=o1 (Jo x)
def znH:=FT [aj] [Q7] λx=>Jo x.1
theorem ziz:FK 97 znH:=tz.T1 (f:=Tryz.f97) (keep:=zrG) (e:=zuq)
def Wo:=Iu.addL [(106,zew),(97,znH)]
theorem lw:zw Wo:=tz.addL<|fc zaF<|fc ziz iH
abbrev zrI:=kJ [(4,[1,2,5]),(9,[1,2,6])]
inductive H2 where
 |h4 (l1:LV) (i5:Int) (z0:zo [CP.d aj])
 |h9 (l1:LV) (i6:Int) (z0:zo [CP.d aj])
abbrev zus:H2->Nat×St
 |.h4 l i z=>(4,⟨tm 83 [(1,sl zf l),(2,Qf 0 0),(5,ai i)],[Qa (bI [] [CP.d aj] z)]⟩)
 |.h9 l h z=>(9,⟨tm 83 [(1,sl zf l),(2,Qf 0 0),(6,ai h)],[Qa (bI [] [CP.d aj] z)]⟩)
def zkG(x:ao)(h:Sem zf.sl):Tr (H2⊕au):=
 let a:=(x.1,x.2.1,x.2.2.1,x.2.2.2.1,x.t.1,zr x.t.2)
 Qc (xY a)
 (br (cond (!Hz a) Q3 ((↑(Io h):Int)!=(↑(Io x.2.1):Int))) (re (ai 1) [])
  (Q9 (H2.h4 h 0 (x,()))))
def E4:H2->Tr (H2⊕au)
 | .h4 l h z=>
  let a:=l.getD h.toNat (zi zf)
  br (Q0 (h<(↑l.length:Int)))
  (Qc (zK h (Io l)) (Qc (mK a) (br (!sY a) (re (ai 1) []) (Q9 (H2.h4 l (Γ Δ (h+1)) z)))))
  (Q9 (H2.h9 l 0 z))
 | .h9 l i z=>
  let a:=l.getD i.toNat (zi zf)
  let x:=a.1==0
  let b:=zK i (Io z.1.2.1)
  let c:=getD z.1.2.1 i.toNat (zi zl)
  let d:=a.1!=0
  let g:=!za.op z.1.t.2==[]
  let j:=zr z.1.t.2
  let k:=Jg j z.1.2.1 l
  br (Q0 (i<(↑l.length:Int)))
  (Qc (zK i (Io l)&&bif x then b else Q3)
   (br (cond x c.2.2 Q4) (re (ai 8) []) (Qc (zK i (Io l)&&bif d then zK i (Io l)&&b else Q3) (br (cond d (a.1!=c.2.1) Q4) (re (ai 5) []) (Q9 (H2.h9 l (Γ Δ (i+1)) z))))))
  (Qc (cond g (Bj j z.1.2.1 l&&nI k Q4) Q3)
   (br (cond g (qx k Q4) Q4) (re (ai 9) []) (re (ai 0) [])))
def Bp(x:ao)(h:Sem zf.sl):=an [zj] E4 100000000 (zkG x h)
def Jn(x:ao)(h:Sem zf.sl):=(Bp x h).isSome
def PI(x:ao)(h:Sem zf.sl):=o1 (Bp x h)
def znJ:=FT [aj,zf.sl] [zj] λx=>Bp x.1 x.2.1
theorem ziB:FK 45 znJ:=lw.T1 (f:=Tryz.f45) (keep:=zrI) (e:=zus)
abbrev zrJ:=kJ [(2,[0,1,5]),(5,[0,1,5,6])]
inductive KI where
 |h2 (l0:List (Sem zf.sl)) (i1:zq) (i5:Int)
 |h5 (l0:List (Sem zf.sl)) (i1:zq) (i5:Int) (i6:Int)
abbrev zut:KI->Nat×St
 |.h2 l i h=>(2,⟨tm 44 [(0,sl zf.sl l),(1,ai i),(5,ai h)],[]⟩)
 |.h5 l i h x=>(5,⟨tm 44 [(0,sl zf.sl l),(1,ai i),(5,ai h),(6,ai x)],[]⟩)
def zq7(x:Sem zf.sl.sl)(h:zq):Tr (KI⊕au):=
 Q9 (KI.h2 x h 0)
def FF:KI->Tr (KI⊕au)
 | .h2 l h i=>
  br (Q0 (i<(↑l.length:Int))) (Q9 (KI.h5 l h i 0)) (re (kb Q4) [])
 | .h5 l h i x=>
  let c:=l.getD i.toNat (zi zf.sl)
  let d:=zK h (Io c)
  let a:=getD c (toNat h) (zi zf)
  let g:=a.1!=0
  let j:=l.getD x.toNat (zi zf.sl)
  let b:=getD j (toNat h) (zi zf)
  br (Q0 (x<i))
  (Qc (zK i (Io l)&&(d&&bif g then zK i (Io l)&&(d&&(zK x (Io l)&&zK h (Io j)))else Q3))
   (br (cond g (a.1==b.1&&(a.2.1==b.2.1&&(a.2.2==b.2.2&&Q3))) Q4) (re (kb Q3) []) (Q9 (KI.h5 l h i (Γ Δ (x+1))))))
  (Q9 (KI.h2 l h (Γ Δ (i+1))))
def vO(x:Sem zf.sl.sl)(h:zq):=an [Q7] FF 100000000 (zq7 x h)
def nO(x:Sem zf.sl.sl)(h:zq):=(vO x h).isSome
def r7(x:Sem zf.sl.sl)(h:zq):=o1 (vO x h)
def znK:=FT [zf.sl.sl,zj] [Q7] λx=>vO x.1 x.2.1
theorem ziC:FK 192 znK:=lw.T1 (f:=Tryz.f192) (keep:=zrJ) (e:=zut)
def zq9(x:ao)(h:Sem zf.sl):Tr (Empty⊕au):=
 let b:=(x.1,x.2.1,x.2.2.1,x.2.2.2.1,x.t.1,zr x.t.2)
 let a:=getD h (toNat x.2.2.1) (zi zf)
 Qc (xY b)
 (br (cond (Hz b) (Q0 (x.2.2.1<(↑(Io h):Int))) Q4)
  (Qc (zK x.2.2.1 (Io h)) (re (Qd [ai a.1,ai a.2.1,str a.2.2]) []))
  (re (Qd [ai 0,ai 0,str []]) []))
def Ea(x:ao)(h:Sem zf.sl):=an [zf] t0 100000000 (zq9 x h)
def Jt(x:ao)(h:Sem zf.sl):=(Ea x h).isSome
def So(x:ao)(h:Sem zf.sl):=o1 (Ea x h)
def znM:=FT [aj,zf.sl] [zf] λx=>Ea x.1 x.2.1
theorem ziF:FK 38 znM:=lw.T1 (f:=Tryz.f38) (keep:=k0) (e:=e0)
abbrev zrK:=kJ [(2,[2,3,5])]
inductive S2 where
 |h2 (i5:Int) (z0:zo [CP.d zk]) (z1:zo [CP.d zf])
abbrev zuu:S2->Nat×St
 |.h2 i z h=>(2,⟨tm 43 [(2,Qf 0 0),(3,Qf 1 0),(5,ai i)],[Qa (bI [] [CP.d zk] z),Qa (bI [] [CP.d zf] h)]⟩)
def zra(x:am)(h:zp):Tr (S2⊕au):=
 Q9 (S2.h2 0 (x,()) (h,()))
def Z8:S2->Tr (S2⊕au)
 | .h2 i z h=>
  let j:=(↑(Io z.1.2):Int)
  let b:=Q0 (i<j)
  let c:=(z.1.1.1,z.1.1.2.1,z.1.1.2.2.1,z.1.1.2.2.2.1,z.1.1.t.1,zr z.1.1.t.2)
  let d:=zK i (Io z.1.2)
  let a:=getD z.1.2 i.toNat (zi zf.sl)
  let k:=(↑(Io a):Int)
  let g:=Q0 (z.1.1.2.2.1<k)
  let x:=getD a (toNat z.1.1.2.2.1) (zi zf)
  Qc (cond b (xY c) Q3)
  (br (cond b (Hz c) Q4)
   (Qc (d&&bif g then d&&zK z.1.1.2.2.1 (Io a)else Q3) (br (cond g (x.1==h.1.1&&(x.2.1==h.1.2.1&&(x.2.2==h.1.2.2&&Q3))) Q4) (re (ai i) []) (Q9 (S2.h2 (Γ Δ (i+1)) z h))))
   (re (ai (-1)) []))
def Br(x:am)(h:zp):=an [zj] Z8 100000000 (zra x h)
def Js(x:am)(h:zp):=(Br x h).isSome
def PJ(x:am)(h:zp):=o1 (Br x h)
def znN:=FT [zk,zf] [zj] λx=>Br x.1 x.2.1
theorem ziG:FK 103 znN:=lw.T1 (f:=Tryz.f103) (keep:=zrK) (e:=zuu)
def Wp:=Wo.addL [(45,znJ),(192,znK),(38,znM),(103,znN)]
theorem tA:zw Wp:=lw.addL<|fc ziB<|fc ziC<|fc ziF<|fc ziG iH
abbrev zrp:=kJ [(6,[1,3]),(14,[1,5]),(19,[1,6])]
inductive Fk where
 |h6 (i3:Int) (z0:zo [CP.d zk])
 |h14 (i5:Int) (z0:zo [CP.d zk])
 |h19 (i6:Int) (z0:zo [CP.d zk])
abbrev zuf:Fk->Nat×St
 |.h6 i z=>(6,⟨tm 82 [(1,Qf 0 0),(3,ai i)],[Qa (bI [] [CP.d zk] z)]⟩)
 |.h14 h z=>(14,⟨tm 82 [(1,Qf 0 0),(5,ai h)],[Qa (bI [] [CP.d zk] z)]⟩)
 |.h19 x z=>(19,⟨tm 82 [(1,Qf 0 0),(6,ai x)],[Qa (bI [] [CP.d zk] z)]⟩)
def Xv(x:am):Tr (Fk⊕au):=
 let a:=(x.1.1,x.1.2.1,x.1.2.2.1,x.1.2.2.2.1,x.1.t.1,zr x.1.t.2)
 Qc (xY a)
 (br (!Hz a) (re (ai 1) [])
  (br (Q0 ((↑(Io x.2):Int)>200)) (re (ai 13) []) (Q9 (Fk.h6 0 (x,())))))
def qM:Fk->Tr (Fk⊕au)
 | .h6 c z=>
  let x:=(↑(Io z.1.2):Int)
  let a:=(z.1.1.1,z.1.1.2.1,z.1.1.2.2.1,z.1.1.2.2.2.1,z.1.1.t.1,zr z.1.1.t.2)
  let h:=getD z.1.2 c.toNat (zi zf.sl)
  let b:=PI a h
  br (Q0 (c<x))
  (Qc (zK c (Io z.1.2))
   (Qc (Jn a h) (br (b !=0) (re (ai b) []) (Q9 (Fk.h6 (Γ Δ (c+1)) z)))))
  (Qc (nO z.1.2 z.1.1.2.2.1)
   (br (r7 z.1.2 z.1.1.2.2.1) (re (ai 7) []) (Q9 (Fk.h14 0 z))))
 | .h14 d z=>
  let x:=(↑(Io z.1.1.2.2.2.1):Int)
  let a:=getD z.1.1.2.2.2.1 d.toNat (zi zj)
  br (Q0 (d<x))
  (Qc (zK d (Io z.1.1.2.2.2.1))
   (Qc (nO z.1.2 a) (br (r7 z.1.2 a) (re (ai 7) []) (Q9 (Fk.h14 (Γ Δ (d+1)) z)))))
  (Q9 (Fk.h19 1 z))
 | .h19 i z=>
  let x:=(↑(Io z.1.2):Int)
  let a:=Γ Δ (i-1)
  let h:=(z.1.1.1,z.1.1.2.1,z.1.1.2.2.1,z.1.1.2.2.2.1,z.1.1.t.1,zr z.1.1.t.2)
  let b:=getD z.1.2 a.toNat (zi zf.sl)
  let g:=getD z.1.2 i.toNat (zi zf.sl)
  let j:=So h b
  let k:=So h g
  let l:=Jf j k
  br (Q0 (i<x))
  (Qc (zK a (Io z.1.2))
   (Qc (Jt h b) (Qc (zK i (Io z.1.2)) (Qc (Jt h g) (Qc (DW j k) (br (Q0 (l>0)) (re (ai 15) []) (Q9 (Fk.h19 (Γ Δ (i+1)) z))))))))
  (re (ai 0) [])
def nN(x:am):=an [zj] qM 100000000 (Xv x)
def D9(x:am):=(nN x).isSome
def Jq(x:am):=o1 (nN x)
def znc:=FT [zk] [zj] λx=>nN x.1
theorem zhZ:FK 126 znc:=tA.T1 (f:=Tryz.f126) (keep:=zrp) (e:=zuf)
abbrev zrr:=kJ [(2,[0,3]),(5,[0,3,4]),(12,[0,3,4,5,6,7])]
inductive Fl where
 |h2 (l0:zR) (i3:Int)
 |h5 (l0:zR) (i3:Int) (i4:Int)
 |h12 (l0:zR) (i3:Int) (i4:Int) (i6:zq) (i7:Int) (z0:zo [CP.d zB])
abbrev zuh:Fl->Nat×St
 |.h2 l i=>(2,⟨tm 75 [(0,sl zk l),(3,ai i)],[]⟩)
 |.h5 l i h=>(5,⟨tm 75 [(0,sl zk l),(3,ai i),(4,ai h)],[]⟩)
 |.h12 l i h x a z=>(12,⟨tm 75 [(0,sl zk l),(3,ai i),(4,ai h),(5,Qf 0 0),(6,ai x),(7,ai a)],[Qa (bI [] [CP.d zB] z)]⟩)
def zq1(x:Sem zk.sl):Tr (Fl⊕au):=
 Q9 (Fl.h2 x 0)
def sE:Fl->Tr (Fl⊕au)
 | .h2 l i=>
  br (Q0 (i<(↑l.length:Int))) (Q9 (Fl.h5 l i 0)) (re (kb Q3) [])
 | .h5 l i x=>
  let a:=l.getD i.toNat (zi zk)
  let g:=(↑(Io a.1.t.1):Int)
  let c:=getD a.1.t.1 x.toNat (zi zB)
  let b:=lN l c.2
  Qc (zK i (Io l))
  (br (Q0 (x<g))
   (Qc (zK i (Io l)) (Qc (zK x (Io a.1.t.1)) (br (Q0 (b<0)) (re (kb Q4) []) (Q9 (Fl.h12 l i x b 0 (c,()))))))
   (Q9 (Fl.h2 l (Γ Δ (i+1)))))
 | .h12 l i x j d z=>
  let a:=l.getD i.toNat (zi zk)
  let g:=(↑(Io a.2):Int)
  let c:=getD a.2 d.toNat (zi zf.sl)
  let b:=getD c (toNat z.1.1) (zi zf)
  let k:=b.1!=0
  let h:=l.getD (toNat j) (zi zk)
  let m:=((h.1.1,h.1.2.1,h.1.2.2.1,h.1.2.2.2.1,h.1.t.1,zr h.1.t.2),h.2)
  let n:=PJ m b
  Qc (zK i (Io l))
  (br (Q0 (d<g))
   (Qc (zK i (Io l)) (Qc (zK d (Io a.2)) (Qc (zK z.1.1 (Io c)) (Qc (cond k (zK j (Io l)&&Js m b) Q3) (br (cond k (Q0 (n<0)) Q4) (re (kb Q4) []) (Q9 (Fl.h12 l i x j (Γ Δ (d+1)) z)))))))
   (Q9 (Fl.h5 l i (Γ Δ (x+1)))))
def vQ(x:Sem zk.sl):=an [Q7] sE 100000000 (zq1 x)
def Eb(x:Sem zk.sl):=(vQ x).isSome
def Ju(x:Sem zk.sl):=o1 (vQ x)
def zne:=FT [zk.sl] [Q7] λx=>vQ x.1
theorem zh1:FK 127 zne:=tA.T1 (f:=Tryz.f127) (keep:=zrr) (e:=zuh)
def Wq:=Wp.addL [(126,znc),(127,zne)]
theorem CE:zw Wq:=tA.addL<|fc zhZ<|fc zh1 iH
abbrev zv6:=kJ [(4,[0,3]),(9,[0,4])]
inductive H9p where
 |h4 (l0:zR) (i3:Int)
 |h9 (l0:zR) (i4:Int)
abbrev e9p:H9p->Nat×St
 |.h4 l i=>(4,⟨tm 46 [(0,sl zk l),(3,ai i)],[]⟩)
 |.h9 l h=>(9,⟨tm 46 [(0,sl zk l),(4,ai h)],[]⟩)
def i9p(x:Sem zk.sl):Tr (H9p⊕au):=
 br (Q0 ((↑(Io x):Int)>12)) (re (ai 13) []) (Q9 (H9p.h4 x 1))
def Z9:H9p->Tr (H9p⊕au)
 | .h4 l i=>
  let a:=Γ Δ (i-1)
  let h:=l.getD a.toNat (zi zk)
  let x:=l.getD i.toNat (zi zk)
  br (Q0 (i<(↑l.length:Int)))
  (Qc (zK a (Io l))
   (Qc (zK i (Io l)) (br (!Op.bytesLess h.1.1 x.1.1) (re (ai 15) []) (Q9 (H9p.h4 l (Γ Δ (i+1)))))))
  (Q9 (H9p.h9 l 0))
 | .h9 l b=>
  let a:=l.getD b.toNat (zi zk)
  let h:=((a.1.1,a.1.2.1,a.1.2.2.1,a.1.2.2.2.1,a.1.t.1,zr a.1.t.2),a.2)
  let x:=Jq h
  br (Q0 (b<(↑l.length:Int)))
  (Qc (zK b (Io l)) (Qc (D9 h) (br (x !=0) (re (ai x) []) (Q9 (H9p.h9 l (Γ Δ (b+1)))))))
  (Qc (Eb l) (br (!Ju l) (re (ai 10) []) (re (ai 0) [])))
def qF(x:Sem zk.sl):=an [zj] Z9 100000000 (i9p x)
def Ec(x:Sem zk.sl):=(qF x).isSome
def Jw(x:Sem zk.sl):=o1 (qF x)
def F9p:=FT [zk.sl] [zj] λx=>qF x.1
theorem zpv:FK 59 F9p:=CE.T1 (f:=Tryz.f59) (keep:=zv6) (e:=e9p)
def Wr:=Wq.add 59 F9p
theorem oA:zw Wr:=CE.add zpv
abbrev zrA:=kJ [(4,[0,1,12,13])]
inductive S0 where
 |h4 (l0:dA) (l1:dA) (i12:Int) (i13:Int)
abbrev zuo:S0->Nat×St
 |.h4 l x i h=>(4,⟨tm 26 [(0,sl zj l),(1,sl zj x),(12,ai i),(13,ai h)],[]⟩)
def zda(x h:Sem zj.sl):Tr (S0⊕au):=
 br ((↑(Io x):Int)!=(↑(Io h):Int)) (re (kb Q4) []) (Q9 (S0.h4 x h (↑(Io x):Int) 0))
def ztF:S0->Tr (S0⊕au)
 | .h4 l x h i=>
  br (Q0 (i<h))
  (Qc (zK i (Io l))
   (Qc (zK i (Io x)) (br (l.getD i.toNat (zi zj)!=x.getD i.toNat (zi zj)) (re (kb Q4) []) (Q9 (S0.h4 l x h (Γ Δ (i+1)))))))
  (re (kb Q3) [])
def J1(x h:Sem zj.sl):=an [Q7] ztF 100000000 (zda x h)
def J0(x h:Sem zj.sl):=(J1 x h).isSome
def pA(x h:Sem zj.sl):=o1 (J1 x h)
def znA:=FT [zj.sl,zj.sl] [Q7] λx=>J1 x.1 x.2.1
theorem zio:FK 150 znA:=oA.T1 (f:=Tryz.f150) (keep:=zrA) (e:=zuo)
abbrev zrW:=kJ [(4,[0,1,12,13])]
inductive S6 where
 |h4 (l0:aN) (l1:aN) (i12:Int) (i13:Int)
abbrev zuD:S6->Nat×St
 |.h4 l x i h=>(4,⟨tm 26 [(0,sl zl l),(1,sl zl x),(12,ai i),(13,ai h)],[]⟩)
def zdf(x h:Sem zl.sl):Tr (S6⊕au):=
 br ((↑(Io x):Int)!=(↑(Io h):Int)) (re (kb Q4) []) (Q9 (S6.h4 x h (↑(Io x):Int) 0))
def ztG:S6->Tr (S6⊕au)
 | .h4 l b h i=>
  let a:=l.getD i.toNat (zi zl)
  let x:=b.getD i.toNat (zi zl)
  br (Q0 (i<h))
  (Qc (zK i (Io l))
   (Qc (zK i (Io b)) (br (!(a.1==x.1&&(a.2.1==x.2.1&&(a.2.2==x.2.2&&Q3)))) (re (kb Q4) []) (Q9 (S6.h4 l b h (Γ Δ (i+1)))))))
  (re (kb Q3) [])
def JY(x h:Sem zl.sl):=an [Q7] ztG 100000000 (zdf x h)
def PY(x h:Sem zl.sl):=(JY x h).isSome
def Ax(x h:Sem zl.sl):=o1 (JY x h)
def zn9:=FT [zl.sl,zl.sl] [Q7] λx=>JY x.1 x.2.1
theorem zi1:FK 209 zn9:=oA.T1 (f:=Tryz.f209) (keep:=zrW) (e:=zuD)
abbrev zrX:=kJ [(4,[0,1,12,13])]
inductive S7 where
 |h4 (l0:dr) (l1:dr) (i12:Int) (i13:Int)
abbrev zuE:S7->Nat×St
 |.h4 l x i h=>(4,⟨tm 26 [(0,sl zB l),(1,sl zB x),(12,ai i),(13,ai h)],[]⟩)
def zdg(x h:Sem zB.sl):Tr (S7⊕au):=
 br ((↑(Io x):Int)!=(↑(Io h):Int)) (re (kb Q4) []) (Q9 (S7.h4 x h (↑(Io x):Int) 0))
def ztH:S7->Tr (S7⊕au)
 | .h4 l x h i=>
  let a:=l.getD i.toNat (zi zB)
  let b:=x.getD i.toNat (zi zB)
  br (Q0 (i<h))
  (Qc (zK i (Io l))
   (Qc (zK i (Io x)) (br (!(a.1==b.1&&(a.2==b.2&&Q3))) (re (kb Q4) []) (Q9 (S7.h4 l x h (Γ Δ (i+1)))))))
  (re (kb Q3) [])
def JZ(x h:Sem zB.sl):=an [Q7] ztH 100000000 (zdg x h)
def PZ(x h:Sem zB.sl):=(JZ x h).isSome
def Ay(x h:Sem zB.sl):=o1 (JZ x h)
def zoa:=FT [zB.sl,zB.sl] [Q7] λx=>JZ x.1 x.2.1
theorem zi2:FK 210 zoa:=oA.T1 (f:=Tryz.f210) (keep:=zrX) (e:=zuE)
def Wu:=Wr.addL [(150,znA),(209,zn9),(210,zoa)]
theorem CH:zw Wu:=oA.addL<|fc zio<|fc zi1<|fc zi2 iH
def zq6(x h:ao):Tr (Empty⊕au):=
 let a:=x.1==h.1
 let b:=x.2.2.1==h.2.2.1
 let c:=Ax x.2.1 h.2.1
 let d:=pA x.2.2.2.1 h.2.2.2.1
 let g:=Ay x.t.1 h.t.1
 let i:=zr x.t.2
 let j:=zr h.t.2
 Qc
 (bif a then
  bif b then PY x.2.1 h.2.1&&bif c then J0 x.2.2.2.1 h.2.2.2.1&&bif d then PZ x.t.1 h.t.1&&bif g then jB 16 i j else Q3 else Q3 else Q3
  else Q3
 else Q3)
 (re (AV.bool (cond a (cond b (cond c (cond d (cond g (fK 16 i j) Q4) Q4) Q4) Q4) Q4)) [])
def Km(x h:ao):=an [Q7] t0 100000000 (zq6 x h)
def Kl(x h:ao):=(Km x h).isSome
def tc(x h:ao):=o1 (Km x h)
def znz:=FT [aj,aj] [Q7] λx=>Km x.1 x.2.1
theorem zin:FK 149 znz:=CH.T1 (f:=Tryz.f149) (keep:=k0) (e:=e0)
def Wv:=Wu.add 149 znz
theorem Oy:zw Wv:=CH.add zin
def zjW:cg:={zcF with own:=Q3}
theorem OB:zw zjW:=⟨⟨uQ.sh⟩,uQ.fs,uQ.mix⟩
def zkx(x:ar):Tr (Empty⊕au):=
 let a:=[x.2.1]
 let h:=[x.2.2.1]
 br (!x.2.2.1==[]) (Qc (Q0 (Io a+Io h<=1073741824)) (re (AV.vec 0) [AO.vec Q6 (a++h)]))
 (re (AV.vec 0) [AO.vec Q6 a])
def my(x:ar):=an [Sh.str.sl] t0 100000000 (zkx x)
def jU(x:ar):=(my x).isSome
def lH(x:ar):=o1 (my x)
def zhj:=FT [aq] [Sh.str.sl] λx=>my x.1
theorem zhP:FK 60 zhj:=OB.T1 (f:=Tryz.f60) (keep:=k0) (e:=e0)
theorem zhQ:FK 60 zhj:=zhP
def Ww:=Wv.add 60 zhj
theorem tB:zw Ww:=Oy.add zhQ
abbrev kk:List CP:=[.d .str,.d .str,.d .str,.d .str,.nil,.d zj,.nil,.nil,.d .str,.d zj,.d zj,.d .str,.d .str,.nil,.nil,.d zj]
abbrev K9:List CP:=[.d .str,.d .str,.d .str,.d .str,.nil,.d zj,.nil,.nil,.d .expr,.nil,.d zj]
abbrev Tu:List CP:=[.d .str,.d .str,.d .str,.d .str,.vec zl,.d zj,.nil,.nil,.d .expr,.d (.sl zj),.d zj]
abbrev zjU:List CP:=[.d .str,.d .str,.d .str,.d .str,.d (.sl zl),.d zj,.nil,.nil,.d .expr,.d (.sl zj),.d zj]
abbrev V1:List CP:=[.d .str,.d .str,.d .str,.d .str,.vec zl,.d zj,.nil,.nil,.d .expr,.vec zj,.d zj]
def zqV(x h:ar):Tr (Empty⊕au):=
 let a:=x.1==h.1
 let b:=x.2.1==h.2.1
 let c:=x.2.2.1==h.2.2.1
 let d:=x.t.2==h.t.2
 let g:=(x.2.2.2.1.1,x.2.2.2.1.2.1,x.2.2.2.1.2.2.1,x.2.2.2.1.2.2.2.1,x.2.2.2.1.t.1,zr x.2.2.2.1.t.2)
 let i:=(h.2.2.2.1.1,h.2.2.2.1.2.1,h.2.2.2.1.2.2.1,h.2.2.2.1.2.2.2.1,h.2.2.2.1.t.1,zr h.2.2.2.1.t.2)
 let j:=tc g i
 Qc
 (bif a then
  bif b then bif c then bif d then Kl g i&&bif j then J0 x.t.1 h.t.1 else Q3 else Q3 else Q3 else Q3
 else Q3)
 (re
  (AV.bool (cond a (cond b (cond c (cond d (cond j (pA x.t.1 h.t.1) Q4) Q4) Q4) Q4) Q4))
  [])
def I4(x h:ar):=an [Q7] t0 100000000 (zqV x h)
def I3(x h:ar):=(I4 x h).isSome
def MD(x h:ar):=o1 (I4 x h)
def zm4:=FT [aq,aq] [Q7] λx=>I4 x.1 x.2.1
theorem zhN:FK 86 zm4:=tB.T1 (f:=Tryz.f86) (keep:=k0) (e:=e0)
abbrev zPl:AV:=.agg [str [],str [],str [],str [],Qb,ai 0,Qb,Qb,str [],ai 0,ai 0,str [],str [],Qb,Qb,ai 0]
abbrev rE{h:Type}(e:Int):Tr (h⊕au):=.re (.tup [zPl,.int .i64 e]) []
abbrev zrk:Nat->aP:=λj=>if j=7 then{slots:=[0,3,4,8,9,10]}else if j=24 then{slots:=[3,4,8,11,13],prom:=[(8,Q1 4,zl)]}else if j=38 then{slots:=[3,4,8,11,14,15,16]}else if j=48 then{slots:=[3,4,8,14,17],prom:=[(8,Q1 14,.int .i64)]}else if j=64 then{slots:=[3,4,8,20]}else{ }
inductive lk where
 |h7 (l0:zR) (l9:List (Sem Q6)) (i10:Int) (z0:zo [CP.d aC]) (z1:zo kk) (z2:zo K9)
 |h24 (i13:Int) (z0:zo [CP.d aC]) (z1:zo kk) (z2:zo Tu) (z3:zo [CP.d aj])
 |h38 (i16:Int) (z0:zo [CP.d aC]) (z1:zo kk) (z2:zo K9) (z3:zo [CP.d aj]) (z4:zo [CP.d aj])
 |h64 (i20:Int) (z0:zo [CP.d aC]) (z1:zo kk) (z2:zo zjU)
 |h64b (i20:Int) (z0:zo [CP.d aC]) (z1:zo kk) (z2:zo K9)
 |h64bb (i20:Int) (z0:zo [CP.d aC]) (z1:zo kk) (z2:zo Tu)
 |h38b (b15:Bool) (i16:Int) (z0:zo [CP.d aC]) (z1:zo kk) (z2:zo K9) (z3:zo [CP.d aj]) (z4:zo [CP.d aj])
 |h48 (i17:Int) (z0:zo [CP.d aC]) (z1:zo kk) (z2:zo V1) (z3:zo [CP.d aj])
 |h64bbb (i20:Int) (z0:zo [CP.d aC]) (z1:zo kk) (z2:zo V1)
abbrev zuc:lk->Nat×St
 |.h7 m n g h x z=>(7,⟨tm 339 [(0,sl zk m),(3,Qf 0 0),(4,Qf 1 0),(8,Qf 2 0),(9,sl Q6 n),(10,ai g)],[Qa (bI [] [CP.d aC] h),Qa (bI [] kk x),Qa (bI [] K9 z)]⟩)
 |.h24 j h x z b=>(24,⟨tm 339 [(3,Qf 0 0),(4,Qf 1 0),(8,Qf 2 0),(11,Qf 3 0),(13,ai j)],[Qa (bI [] [CP.d aC] h),Qa (bI [] kk x),Qa (bI [4] Tu z),Qa (bI [] [CP.d aj] b),AO.vec zl z.t.1]⟩)
 |.h38 a h x z b l=>(38,⟨tm 339 [(3,Qf 0 0),(4,Qf 1 0),(8,Qf 2 0),(11,Qf 3 0),(14,Qf 4 0),(15,kb Q4),(16,ai a)],[Qa (bI [] [CP.d aC] h),Qa (bI [] kk x),Qa (bI [] K9 z),Qa (bI [] [CP.d aj] b),Qa (bI [] [CP.d aj] l)]⟩)
 |.h64 i h x z=>(64,⟨tm 339 [(3,Qf 0 0),(4,Qf 1 0),(8,Qf 2 0),(20,ai i)],[Qa (bI [] [CP.d aC] h),Qa (bI [] kk x),Qa (bI [] zjU z)]⟩)
 |.h64b i h x z=>(64,⟨tm 339 [(3,Qf 0 0),(4,Qf 1 0),(8,Qf 2 0),(20,ai i)],[Qa (bI [] [CP.d aC] h),Qa (bI [] kk x),Qa (bI [] K9 z)]⟩)
 |.h64bb i h x z=>(64,⟨tm 339 [(3,Qf 0 0),(4,Qf 1 0),(8,Qf 2 0),(20,ai i)],[Qa (bI [] [CP.d aC] h),Qa (bI [] kk x),Qa (bI [3] Tu z),AO.vec zl z.t.1]⟩)
 |.h38b c a h x z b l=>(38,⟨tm 339 [(3,Qf 0 0),(4,Qf 1 0),(8,Qf 2 0),(11,Qf 3 0),(14,Qf 4 0),(15,AV.bool c),(16,ai a)],[Qa (bI [] [CP.d aC] h),Qa (bI [] kk x),Qa (bI [] K9 z),Qa (bI [] [CP.d aj] b),Qa (bI [] [CP.d aj] l)]⟩)
 |.h48 k h x z b=>(48,⟨tm 339 [(3,Qf 0 0),(4,Qf 1 0),(8,Qf 2 0),(14,Qf 3 0),(17,ai k)],[Qa (bI [] [CP.d aC] h),Qa (bI [] kk x),Qa (bI [4,5] V1 z),Qa (bI [] [CP.d aj] b),AO.vec zl z.t.1,AO.vec zj z.t.q.2.1]⟩)
 |.h64bbb i h x z=>(64,⟨tm 339 [(3,Qf 0 0),(4,Qf 1 0),(8,Qf 2 0),(20,ai i)],[Qa (bI [] [CP.d aC] h),Qa (bI [] kk x),Qa (bI [3,4] V1 z),AO.vec zl z.t.1,AO.vec zj z.t.q.2.1]⟩)
def T5(h:Sem zk.sl)(x:zN):Tr (lk⊕au):=
 let a:=zr x.t.t.1
 let b:=(x.1,x.2.1,x.2.2.1,x.2.2.2.1,x.t.1,x.t.2.1,x.t.q.1,x.t.q.2.1,a,x.t.t.2.1,x.t.t.q.1,zr x.t.t.q.2.1,x.t.t.t)
 let g:=lM b
 let c:=!g.2
 let d:=(x.1,x.2.2.1,x.t.t.t,(x.2.1,[],0,[],[],a),[],0)
 Qc (iS b)
 (Qc (cond c Q3 (Ec h))
  (br (cond c Q3 (cond (Jw h !=0) Q3 (cond (!x.1==dm) (cond (!x.1==gm) (!x.1==mU) Q4) Q4))) (rE 1) (Qc (jU d) (Q9 (lk.h7 h (lH d) 0 (x,()) ([],[],[],[],0,[],0,0,[],[],0,()) (x.1,x.2.2.1,x.t.t.t,x.2.1,0,x.t.t.1,0,()))))))
def dY:lk->Tr (lk⊕au)
 | .h7 o B p h c z=>
  let j:=lN o (B.getD p.toNat (zi Q6))
  let x:=lN o h.1.2.1
  let d:=lN o h.1.2.2.1
  let a:=o.getD (toNat d) (zi zk)
  let y:=oP a.1.2.1 h.1.2.2.2.1
  let m:=rI a.1.2.1 h.1.2.2.2.1
  let H:=m.2!=0
  let I:=(z.t.2.1,m.1,z.t.q)
  let M:=(a.1,())
  let N:=lN o h.1.t.t.t
  let C:=gz a.1.2.1 h.1.t.2.1
  let L:=o.getD (toNat N) (zi zk)
  let D:=getD m.1 (toNat 0) (zi zj)
  let E:=getD m.1 (toNat 1) (zi zj)
  let u:=getD a.1.2.1 (toNat E) (zi zl)
  let F:=getD a.1.2.1 (toNat D) (zi zl)
  br (Q0 (p<(↑B.length:Int)))
  (Qc (zK p (Io B)) (br (Q0 (j<0)) (rE 6) (Q9 (lk.h7 o B (Γ Δ (p+1)) h c z))))
  (br (cond (Q0 (x>=0)) Q3 (h.1.2.2.1==h.1.t.t.t)) (rE 7) (Qc (tX o B) (br (xV o B) (rE 10) (Qc (zK d (Io o)) (br (h.1.1==dm) (Qc y (br H (rE m.2) (Q9 (lk.h24 0 h c (z.1,z.2.1,z.2.2.1,z.2.2.2.1,[],-1,I) M)))) (br (h.1.1==gm) (Qc (zK N (Io o))
  (Qc (eQ a.1.2.1 h.1.t.2.1) (br (Q0 (C<0)) (rE 4) (Q9
  (lk.h38 0 h c (z.1,z.2.1,z.2.2.1,z.2.2.2.1,z.t.1,z.t.2.1,C,()) M (L.1,())))))) (br (h.1.1==mU) (Qc y (br H (rE m.2) (Qc (zK 0 (Io m.1)) (Qc (zK D (Io a.1.2.1)) (Qc (zK 1 (Io m.1)) (Qc (zK E (Io a.1.2.1)) (br (u.2.1!=1) (rE 5) (Q9 (lk.h64 0 h c (z.1,z.2.1,z.2.2.1,z.2.2.2.1,[(F.1,F.2.1,Q3),(u.1,u.2.1,Q4)],z.t.1,I)))))))))) (Q9 (lk.h64b 0 h c z)))))))))
 | .h24 n h c z b=>
  let j:=(↑(Io z.t.q.2.1):Int)
  let x:=zK n (Io z.t.q.2.1)
  let d:=getD z.t.q.2.1 n.toNat (zi zj)
  let a:=zK d (Io b.1.2.1)
  let y:=[getD b.1.2.1 (toNat d) (zi zl)]
  let m:=Q0 (Io z.t.1+Io y<=1073741824)
  let H:=Γ Δ (n+1)
  let I:=z.t.1++y
  br (Q0 (n<j))
  (Qc x (br (d==b.1.2.2.1) (Qc x (Qc a (Qc m (Q9 (lk.h24 H h c (z.1,z.2.1,z.2.2.1,z.2.2.2.1,I,n,z.t.q) b))))) (Qc x (Qc a (Qc m (Q9 (lk.h24 H h c (z.1,z.2.1,z.2.2.1,z.2.2.2.1,I,z.t.2) b)))))))
  (br (Q0 (z.t.2.1<0)) (rE 1) (Q9 (lk.h64bb 0 h c z)))
 | .h38 g h c z b J=>
  let j:=(↑(Io b.1.t.1):Int)
  let x:=zK g (Io b.1.t.1)
  let d:=getD b.1.t.1 g.toNat (zi zB)
  let a:=d.1==z.t.q.1
  br (Q0 (g<j))
  (Qc (x&&bif a then x else Q3) (Q9 (lk.h38b (cond a (d.2==h.1.t.t.t) Q4) (Γ Δ (g+1)) h c z b J)))
  (rE 10)
 | .h64 i h c z=>
  let j:=(↑(Io z.t.1):Int)
  let x:=getD z.t.1 i.toNat (zi zl)
  let d:=zr h.1.t.t.1
  let a:=qE d z.t.1
  br (Q0 (i<j))
  (Qc (zK i (Io z.t.1)) (Qc (eQ z.t.1 x.1) (br (gz z.t.1 x.1!=i) (rE 7)
  (Q9 (lk.h64 (Γ Δ (i+1)) h c z)))))
  (Qc (o6 d z.t.1) (br (a !=0) (rE a) (re (Qe [Qd [str z.1,str z.2.1,str z.2.2.1,str z.2.2.2.1,
  sl zl z.t.1,ai z.t.2.1,Qb,Qb,str (za.op z.t.q.1),ai (za.v z.t.q.1).1,ai (za.v z.t.q.1).2.1,str (za.v z.t.q.1).2.2,str (za.s z.t.q.1),sl Q5 (za.l z.t.q.1),sl zj z.t.q.2.1,ai z.t.t.1],ai 0])
  [])))
 | .h64b i h _ z=>
  let j:=zr h.1.t.t.1
  let x:=qE j []
  br (Q0 (i<0)) Tr.err
  (Qc (o6 j []) (br (x !=0) (rE x) (re (Qe [Qd
  [str z.1,str z.2.1,str z.2.2.1,str z.2.2.2.1,Qb,ai z.t.1,Qb,Qb,str (za.op z.t.2.1),ai (za.v z.t.2.1).1,ai (za.v z.t.2.1).2.1,str (za.v z.t.2.1).2.2,str (za.s z.t.2.1),sl Q5 (za.l z.t.2.1),Qb,ai z.t.q.1],
  ai 0]) [])))
 | .h64bb i h c z=>
  let j:=(↑z.t.1.length:Int)
  let x:=z.t.1.getD i.toNat (zi zl)
  let d:=zr h.1.t.t.1
  let a:=qE d z.t.1
  br (Q0 (i<j))
  (Qc (zK i (Io z.t.1)) (Qc (Q0 (i.toNat<Io z.t.1)) (Qc (eQ z.t.1 x.1) (br (gz z.t.1 x.1!=i) (rE 7)
  (Q9 (lk.h64bb (Γ Δ (i+1)) h c z))))))
  (Qc (o6 d z.t.1) (br (a !=0) (rE a) (re (Qe [Qd
  [str z.1,str z.2.1,str z.2.2.1,str z.2.2.2.1,AV.vec 0,ai z.t.2.1,Qb,Qb,str (za.op z.t.q.1),ai (za.v z.t.q.1).1,ai (za.v z.t.q.1).2.1,str (za.v z.t.q.1).2.2,str (za.s z.t.q.1),sl Q5 (za.l z.t.q.1),
  sl zj z.t.q.2.1,ai z.t.t.1],ai 0]) [AO.vec zl z.t.1])))
 | .h38b A g h c z b J=>
  let j:=(↑(Io b.1.t.1):Int)
  let x:=zK g (Io b.1.t.1)
  let d:=getD b.1.t.1 g.toNat (zi zB)
  let a:=d.1==z.t.q.1
  let y:=Γ Δ ((↑(Io b.1.2.1):Int)+(↑(Io J.1.2.1):Int))
  br (Q0 (g<j))
  (Qc (cond A Q3 (x&&bif a then x else Q3)) (Q9 (lk.h38b (cond A Q3 (cond a (d.2==h.1.t.t.t) Q4)) (Γ Δ (g+1)) h c z b J)))
  (br (!A) (rE 10) (br (Q0 (y>9)) (rE 13) (Qc (Q0 (Io b.1.2.1<=1073741824)) (Q9 (lk.h48 0 h c (z.1,z.2.1,z.2.2.1,z.2.2.2.1,b.1.2.1,b.1.2.2.1,z.t.2.1,[],z.t.q) J)))))
 | .h48 k h c z b=>
  let j:=(↑(Io b.1.2.1):Int)
  let x:=[getD b.1.2.1 k.toNat (zi zl)]
  let d:=Γ Δ (k+1)
  br (Q0 (k<j))
  (br (k !=b.1.2.2.1) (Qc (Q0 (Io z.t.q.2.1+[k].length<=1073741824)) (Qc (zK k (Io b.1.2.1)) (Qc (Q0 (Io z.t.1+Io x<=1073741824)) (Q9 (lk.h48 d h c (z.1,z.2.1,z.2.2.1,z.2.2.2.1,z.t.1++x,z.t.2.1,z.t.q.1,z.t.q.2.1++[k],z.t.t) b)))))
  (Q9 (lk.h48 d h c z b)))
  (Q9 (lk.h64bbb 0 h c z))
 | .h64bbb i h c z=>
  let j:=(↑z.t.1.length:Int)
  let x:=z.t.1.getD i.toNat (zi zl)
  let d:=zr h.1.t.t.1
  let a:=qE d z.t.1
  br (Q0 (i<j))
  (Qc (zK i (Io z.t.1)) (Qc (Q0 (i.toNat<Io z.t.1)) (Qc (eQ z.t.1 x.1) (br (gz z.t.1 x.1!=i) (rE 7)
  (Q9 (lk.h64bbb (Γ Δ (i+1)) h c z))))))
  (Qc (o6 d z.t.1) (br (a !=0) (rE a) (re (Qe [Qd
  [str z.1,str z.2.1,str z.2.2.1,str z.2.2.2.1,AV.vec 0,ai z.t.2.1,Qb,Qb,str (za.op z.t.q.1),ai (za.v z.t.q.1).1,ai (za.v z.t.q.1).2.1,str (za.v z.t.q.1).2.2,str (za.s z.t.q.1),sl Q5 (za.l z.t.q.1),AV.vec 1,
  ai z.t.t.1],ai 0]) [AO.vec zl z.t.1,AO.vec zj z.t.q.2.1])))
def DQ(x:Sem zk.sl)(h:zN):=an [aq,zj] dY 100000000 (T5 x h)
def Py(x:Sem zk.sl)(h:zN):=(DQ x h).isSome
def Zl(x:Sem zk.sl)(h:zN):=o2 (DQ x h)
def zm1:=FT [zk.sl,aC] [aq,zj] λx=>DQ x.1 x.2.1
theorem zhL:FK 27 zm1:=tB.T1 (f:=Tryz.f27) (keep:=zrk) (e:=zuc)
def Iv:=Ww.addL [(86,zm4),(27,zm1)]
theorem Oz:zw Iv:=tB.addL<|fc zhN<|fc zhL<|iH
open Go.RowKit Go.Lib in
theorem zbG:FK 83 (zZ [.str,.str] [zj] (λ_=>Q3) λx=>(Lib.compareBytes x.1 x.2.1,())):=by
 refine fu (E:=Iv) ⟨Tryz.f83,kw,kw,kw⟩ λx A o d=>?_
 unfold fI at d;split at d
 .simp only[Tr.val,zh,bg]at d;subst d;obtain⟨s,t,u⟩:=x;intro C w U ρ v _ c k h j l;have m:=c.len
  match v,m,c with
  | [p,z],_,c=>
   have g:=c.rv 0 (.str s) p rfl rfl;have i:=c.rv 1 (.str t) z rfl rfl;cases g with
   |str _ B=>
   cases i with
   |str _ D=>
   refine(Tryz.strings_Compare ⟨s.toArray⟩ ⟨t.toArray⟩ w).mono ?_;rintro e F ⟨rfl,rfl⟩;refine fb k h j l (Below.refl _ _) (.int _ _ ?_);have:∀a b:List UInt8,-1<=Lib.compareBytes a b/\Lib.compareBytes a b<=1:=by
    intro a
    induction a with
    |nil=>intro b;cases b<;>simp[Lib.compareBytes]
    | cons x r n=>
     intro b;cases b with
     |nil=>simp[Lib.compareBytes]
     | cons y q=>
      unfold Lib.compareBytes;split
      .simp
      .split
       .simp
       .exact n q
   obtain⟨g,i⟩:=this s t;exact⟨Int.le_trans (by decide:(-9223372036854775808:Int)<=-1) g,Int.le_trans i (by decide:(1:Int)<=9223372036854775807)⟩
 .simp at d
def znG:z8:=aK [.str,.str] [zj] λx=>(Lib.compareBytes x.1 x.2.1,())
theorem ziy:FK 83 znG:=QC zbG
theorem uA:∀(f x:Nat),Lib.bitLenAux f x<=f
 |0,_=>ah _
 | f+1,x=>by
  unfold Lib.bitLenAux;split
  .omega
  .have:=uA f (x/2);omega
open Go.RowKit Go.Lib in
theorem zaI:FK 152 (zZ [.int .u64] [zj] (λx=>Q0 (0<=x.1/\x.1<=1000000)) λx=>((Lib.bitLen x.1.toNat:Nat),())):=by
 refine fu (E:=Iv) ⟨Tryz.f152,kw,kw,kw⟩ λx o l h=>?_
 unfold fI at h;split at h
 .simp only[Tr.val]at h;split at h
  .rename_i c;simp only[bg]at h;subst h;obtain⟨n,u⟩:=x;simp only[aQ]at c;intro C w U ρ v _ b i a d j;have k:=b.len
   match v,k,b with
   | [m],_,b=>
    have g:=b.rv 0 (.int .u64 n) m rfl rfl;cases g with
    |int _ _ p=>
    refine(Tryz.bits_Len n w c.1 (Int.le_trans c.2 (by decide))).mono ?_;rintro e q ⟨rfl,rfl⟩;refine fb i a d j (Below.refl _ _) (.int _ _ ?_);have:=uA 64 n.toNat;exact⟨Int.le_trans (by decide:(-9223372036854775808:Int)<=0) (Int.natCast_nonneg _),Int.le_trans (Int.ofNat_le.2 this) (by decide:((64:Nat):Int)<=9223372036854775807)⟩
  .simp at h
 .simp at h
def zez:z8:=zZ [.int .u64] [zj] (λx=>Q0 (0<=x.1/\x.1<=1000000)) λx=>((Lib.bitLen x.1.toNat:Nat),())
theorem zaJ:FK 152 zez:=zaI
def zgh:=Iv.addL [(137,F91),(83,znG),(152,zez)]
theorem rm:zw zgh:=Oz.addL<|fc zpp<|fc ziy<|fc zaJ iH
end
end Cad
namespace Go.Proofs
open Go.RowKit Go.Shelf Go.Sort
open List renaming map→Qi
open Bool renaming false→Q4,true→Q3
open Option renaming none→Q2,some→Q1
open Decidable renaming decide→Q0
open Int (toNat)
open List (getD length)
set_option maxHeartbeats 1000000 in
theorem Tryz.name52(s:ByteArray)(v1 v2 v3 v4 v5 v6 v7 v8 v9 v10 v11:Value)(W:World):Calls Tryz.prog 78 #[.agg #[.string s,v1,v2,v3,v4,v5,v6,v7,v8,v9,v10,v11]] W λe w'=>e=.returned (.string s)/\w'=W.alloc (.cells #[.string s,v1,v2,v3,v4,v5,v6,v7,v8,v9,v10,v11] 38):=by
 go_enter Tryz.func78,Tryz.ntmps78
 go_wp2
 go_ret
 exact⟨rfl,rfl⟩
set_option maxHeartbeats 4000000 in
theorem Tryz.cmp56(s t:ByteArray)(v1 v2 v3 v4 v5 v6 v7 v8 v9 v10 v11 u1 u2 u3 u4 u5 u6 u7 u8 u9 u10 u11:Value)(nb:Nat)(W:World)(hn:W.cell? ⟨nb,0,Q2⟩=Q1 (.func (.func 78) #[] #[]))(hnb:nb<W.heap.size):
  Calls Tryz.prog 82 #[.agg #[.string s,v1,v2,v3,v4,v5,v6,v7,v8,v9,v10,v11],.agg #[.string t,u1,u2,u3,u4,u5,u6,u7,u8,u9,u10,u11],.pointer (Q1 ⟨nb,0,Q2⟩)] W λe w'=>e=.returned (.int .i64 (Lib.compareBytes s.data.toList t.data.toList))/\∃q os',w'=grow (W.drewN q) os':=by
 have h52:∀(s:ByteArray)(v1 v2 v3 v4 v5 v6 v7 v8 v9 v10 v11:Value)(W':World),Calls Tryz.prog 78 #[.agg #[.string s,v1,v2,v3,v4,v5,v6,v7,v8,v9,v10,v11]] W' λe w'=>e=.returned (.string s)/\∃q os',w'=grow (W'.drewN q) os':=λs v1 v2 v3 v4 v5 v6 v7 v8 v9 v10 v11 W'=>(Tryz.name52 s v1 v2 v3 v4 v5 v6 v7 v8 v9 v10 v11 W').mono λe w' h=>⟨h.1,0,_,h.2.trans (alloc_eq_grow _ _)⟩
 have h57:∀W',Calls Tryz.prog 83 #[.string s,.string t] W' λe w'=>e=.returned (.int .i64 (Lib.compareBytes s.data.toList t.data.toList))/\∃q os',w'=grow (W'.drewN q) os':=λW'=>(Tryz.strings_Compare s t W').mono λe w' h=>⟨h.1,0,#[],by rw[h.2,grow_empty];rfl⟩
 have mixed:Tryz.prog.follows .mixedOrders=Q3:=by kernel_rfl
 generalize Lib.compareBytes s.data.toList t.data.toList=r at h57|-
 go_enter Tryz.func82,Tryz.ntmps82
 go_wp2
 obtain⟨W2,hW2⟩:∃W2,(W.alloc (.cells #[.string s,v1,v2,v3,v4,v5,v6,v7,v8,v9,v10,v11] 38)).alloc (.cells #[.string t,u1,u2,u3,u4,u5,u6,u7,u8,u9,u10,u11] 38)=W2:=⟨_,rfl⟩;rw[hW2];have hnn:∀n os,(grow (W2.drewN n) os).cell? ⟨nb,0,Q2⟩=Q1 (.func (.func 78) #[] #[]):=cell_grown (by rw[<-hW2];simp;omega) (by rw[<-hW2,World.cell?_alloc_past _ _ _ (by simp;omega),World.cell?_alloc_past _ _ _ hnb];exact hn);have x0:∀n os,(grow (W2.drewN n) os).cell? ⟨W.heap.size,0,Q2⟩=Q1 (.string s):=cell_grown (by rw[<-hW2];simp<;>omega) (by rw[<-hW2];simp);have y0:∀n os,(grow (W2.drewN n) os).cell? ⟨W.heap.size+1,0,Q2⟩=Q1 (.string t):=cell_grown (by rw[<-hW2];simp<;>omega) (by rw[<-hW2];simp);have x1:∀n os,(grow (W2.drewN n) os).cell? ⟨W.heap.size,1,Q2⟩=Q1 v1:=cell_grown (by rw[<-hW2];simp<;>omega) (by rw[<-hW2];simp);have y1:∀n os,(grow (W2.drewN n) os).cell? ⟨W.heap.size+1,1,Q2⟩=Q1 u1:=cell_grown (by rw[<-hW2];simp<;>omega) (by rw[<-hW2];simp);have x2:∀n os,(grow (W2.drewN n) os).cell? ⟨W.heap.size,2,Q2⟩=Q1 v2:=cell_grown (by rw[<-hW2];simp<;>omega) (by rw[<-hW2];simp);have y2:∀n os,(grow (W2.drewN n) os).cell? ⟨W.heap.size+1,2,Q2⟩=Q1 u2:=cell_grown (by rw[<-hW2];simp<;>omega) (by rw[<-hW2];simp);have x3:∀n os,(grow (W2.drewN n) os).cell? ⟨W.heap.size,3,Q2⟩=Q1 v3:=cell_grown (by rw[<-hW2];simp<;>omega) (by rw[<-hW2];simp);have y3:∀n os,(grow (W2.drewN n) os).cell? ⟨W.heap.size+1,3,Q2⟩=Q1 u3:=cell_grown (by rw[<-hW2];simp<;>omega) (by rw[<-hW2];simp);have x4:∀n os,(grow (W2.drewN n) os).cell? ⟨W.heap.size,4,Q2⟩=Q1 v4:=cell_grown (by rw[<-hW2];simp<;>omega) (by rw[<-hW2];simp);have y4:∀n os,(grow (W2.drewN n) os).cell? ⟨W.heap.size+1,4,Q2⟩=Q1 u4:=cell_grown (by rw[<-hW2];simp<;>omega) (by rw[<-hW2];simp);have x5:∀n os,(grow (W2.drewN n) os).cell? ⟨W.heap.size,5,Q2⟩=Q1 v5:=cell_grown (by rw[<-hW2];simp<;>omega) (by rw[<-hW2];simp);have y5:∀n os,(grow (W2.drewN n) os).cell? ⟨W.heap.size+1,5,Q2⟩=Q1 u5:=cell_grown (by rw[<-hW2];simp<;>omega) (by rw[<-hW2];simp);have x6:∀n os,(grow (W2.drewN n) os).cell? ⟨W.heap.size,6,Q2⟩=Q1 v6:=cell_grown (by rw[<-hW2];simp<;>omega) (by rw[<-hW2];simp);have y6:∀n os,(grow (W2.drewN n) os).cell? ⟨W.heap.size+1,6,Q2⟩=Q1 u6:=cell_grown (by rw[<-hW2];simp<;>omega) (by rw[<-hW2];simp);have x7:∀n os,(grow (W2.drewN n) os).cell? ⟨W.heap.size,7,Q2⟩=Q1 v7:=cell_grown (by rw[<-hW2];simp<;>omega) (by rw[<-hW2];simp);have y7:∀n os,(grow (W2.drewN n) os).cell? ⟨W.heap.size+1,7,Q2⟩=Q1 u7:=cell_grown (by rw[<-hW2];simp<;>omega) (by rw[<-hW2];simp);have x8:∀n os,(grow (W2.drewN n) os).cell? ⟨W.heap.size,8,Q2⟩=Q1 v8:=cell_grown (by rw[<-hW2];simp<;>omega) (by rw[<-hW2];simp);have y8:∀n os,(grow (W2.drewN n) os).cell? ⟨W.heap.size+1,8,Q2⟩=Q1 u8:=cell_grown (by rw[<-hW2];simp<;>omega) (by rw[<-hW2];simp);have x9:∀n os,(grow (W2.drewN n) os).cell? ⟨W.heap.size,9,Q2⟩=Q1 v9:=cell_grown (by rw[<-hW2];simp<;>omega) (by rw[<-hW2];simp);have y9:∀n os,(grow (W2.drewN n) os).cell? ⟨W.heap.size+1,9,Q2⟩=Q1 u9:=cell_grown (by rw[<-hW2];simp<;>omega) (by rw[<-hW2];simp);have x10:∀n os,(grow (W2.drewN n) os).cell? ⟨W.heap.size,10,Q2⟩=Q1 v10:=cell_grown (by rw[<-hW2];simp<;>omega) (by rw[<-hW2];simp);have y10:∀n os,(grow (W2.drewN n) os).cell? ⟨W.heap.size+1,10,Q2⟩=Q1 u10:=cell_grown (by rw[<-hW2];simp<;>omega) (by rw[<-hW2];simp);have x11:∀n os,(grow (W2.drewN n) os).cell? ⟨W.heap.size,11,Q2⟩=Q1 v11:=cell_grown (by rw[<-hW2];simp<;>omega) (by rw[<-hW2];simp);have y11:∀n os,(grow (W2.drewN n) os).cell? ⟨W.heap.size+1,11,Q2⟩=Q1 u11:=cell_grown (by rw[<-hW2];simp<;>omega) (by rw[<-hW2];simp);have hgr:∃os0,W2=grow W os0:=⟨_,by rw[<-hW2,alloc_eq_grow,alloc_eq_grow,grow_grow]⟩;clear hW2 hn
 go_quiet_grown (first|(go_at_call 78;refine Calls.grown_of (h52 _ _ _ _ _ _ _ _ _ _ _ _ _))|(go_at_call 83;refine Calls.grown_of (h57 _)))
 obtain⟨os0,rfl⟩:=hgr
 go_wp2
 go_ret
 exact⟨rfl,nq,os0++osq,by show grow (grow (W.drewN nq) os0) osq=_;rw[grow_grow]⟩
end Go.Proofs
namespace Cad
open Go Go.Proofs Go.Sort
open List renaming length→Io,map→Qi
open IntKind renaming wrap→Γ,i64→Δ
open AV renaming ptr→Qf,tup→Qe,agg→Qd,nils→Qb
open Tr renaming chk→Qc,«to»→Q9
open AO renaming box→Qa
open Sh renaming bool→Q7,str→Q6,expr→Q5
open Bool renaming false→Q4,true→Q3
open Option renaming none→Q2,some→Q1
open Decidable renaming decide→Q0
open Int (toNat)
open List (getD)
set_option maxHeartbeats 4000000
open Tr (chk br)
open AV (nils agg tup ptr kb str sl)
abbrev Pl(w:World)(U:Nat->Prop)(ρ:Nat->Option Value)(e:Sh)(G:Sem e->Prop):={p:List Value×Sem e//Io p.1=e.size/\(∀v∈p.1,v.oneCell'=Q3)/\(∀(j:Nat)(c:AV),(zz e p.2)[j]?=Q1 c->∃v,p.1[j]?=Q1 v/\Rv w U ρ c v)/\G p.2}
section
variable {w:World} {U:Nat->Prop} {ρ:Nat->Option Value} {e:Sh} {G:Sem e->Prop}
variable {α:Type}{n:Nat}{os:Array Obj}
theorem ve[Inhabited α]{enc:α->List Value}{k g:Nat}{c:Array Value}{T:TypeId}(d:Array α)(h:w.heap[g]?=Q1 (.cells c T (0,0))):
  (sortWorldK enc k w g 0 n d os).heap[g]?=Q1 (.cells (putCells id 0 (flatK enc k d) c) T (0,0)):=by have x:g<w.heap.size:=(mc.1 h).1;unfold sortWorldK;rw[heap_grow_old _ _ (by simpa[putRowK]using x)];simp[putRowK,putRow,mapBlock,Sort.ahead,pP,h,onCells]
theorem ic[Inhabited α]{h:α->List Value}{k g:Nat}(d:Array α){b:Nat}(a:b<w.heap.size)(x:b≠g):(sortWorldK h k w g 0 n d os).heap[b]?=w.heap[b]?:=by
 unfold sortWorldK;rw[heap_grow_old _ _ (by simpa[putRowK]using a)];have:g≠b:=λe=>x e.symm
 simp[putRowK,putRow,mapBlock,Sort.ahead,pP,this]
variable {l:List (Sem e)}{v:Value}
theorem UX{id:Nat}(_:0<e.size)(S:bl w U ρ id (.vec e l))(X:ρ id=Q1 v)(O:l≠[])(M:∀x∈l,G x):
  ∃(B m:Nat)(T:TypeId)(b:Array Value)(d:Array (Pl w U ρ e G)),v=.slice (Q1 ⟨B,0,Q2⟩) (Io l) m/\U B/\w.heap[B]?=Q1 (.cells b T (0,0))/\b.size=m*e.size/\Io l<=m/\Io l<=aI/\0<m/\
   d.size=Io l/\d.toList.map (λp=>p.1.2)=l/\∀i(u:i<d.size)(j:Nat),j<e.size->b[i*e.size+j]?=d[i].1.1[j]?:=by
 obtain⟨a,c,n,P,z⟩:=S;rw[X]at n;cases n;rcases z with⟨h,_⟩|⟨B,T,b,rfl,N,C,L,F,E,W⟩
 .exact zC h O
 have q:∀i(u:i<Io l) j,j<e.size->∃s x,(zz e l[i])[j]?=Q1 s/\b[i*e.size+j]?=Q1 x/\Rv w U ρ s x/\x.oneCell'=Q3:=by
  intro i u j o;have g:(zz e l[i])[j]?=Q1 ((zz e l[i])[j]'(by rw[ag];exact o)):=z6 _;obtain⟨x,n,k⟩:=W i u j _ g;exact⟨_,x,g,n,k,fW e l[i] j _ x g k⟩
 refine⟨B,c,T,b,Array.ofFn λi:Fin (Io l)=>⟨((List.range e.size).map λj=>(b[i.1*e.size+j]?).getD undef,l[i.1]),sw,λx Y=>?_,λj s t=>?_,M _ (bp _)⟩,rfl,C,L,F,E,P,N,sw,?_,λi u j o=>?_⟩
 .obtain⟨j,o,rfl⟩:=bh.1 Y;obtain⟨s,y,_,k,_,J⟩:=q i.1 i.2 j (by simpa using o);rw[k];exact J
 .have o:j<e.size:=by have:=(dc.1 t).1;rwa [ag]at this
  obtain⟨I,y,n,k,z,_⟩:=q i.1 i.2 j o;have A:(zz e l[i.1])[j]?=Q1 s:=t;rw[A]at n;cases n;refine⟨y,?_,z⟩;rw[du,uu o];simp[k]
 .apply List.ext_getElem
  .simp
  .intro i n k;simp
 .have D:i<Io l:=by simpa using u
  obtain⟨I,y,n,k,z,_⟩:=q i D j o;rw[k];simp only[Array.getElem_ofFn];rw[du,uu o];simp[k]
theorem zao{hp:Nat->AO}{id f:Nat}{fv:Value}(h4:Sem e->Sem e->Int)(z:0<e.size)(x5:∀b,U b->b<w.heap.size)(ho:hp id=.vec e l)(a7:bl w U ρ id (.vec e l))(hv:ρ id=Q1 v)(hl:l≠[])(hG:∀x∈l,G x)
  (X:∀(_:Inhabited (Pl w U ρ e G))(B A:Nat)(d:Array (Pl w U ρ e G)),d.size=Io l->HoldsK (λp=>p.1.1) e.size w B 0 d->B<w.heap.size->af ρ id (.vec e l) B->
   Calls Tryz.prog f #[.slice (Q1 ⟨B,0,Q2⟩) d.size A,fv] w λe' w'=>e'=.returned (.tuple #[])/\∃(g:Array (Pl w U ρ e G))(m:Nat)(os:Array Obj),PermIn 0 d.size d g/\SortedIn (ltOf λp q=>h4 p.1.2 q.1.2) 0 d.size g/\w'=sortWorldK (λp=>p.1.1) e.size w B 0 m g os):
  Calls Tryz.prog f #[v,fv] w λe' w'=>∃l',List.Perm l' l/\l'.Pairwise (λx y=>¬h4 y x<0)/\∃v' U' ρ',e'=.returned v'/\Ef n hp {val:=.tup [],wr:=[(id,.vec e l')]} w U ρ v' w' U' ρ':=by
 obtain⟨B,A,T,x6,d,rfl,S,hB,x4,x0,hm,a0,E,a2,a1⟩:=UX (G:=G) z a7 hv hl hG;have i1:0<d.size:=by rw[E];exact List.length_pos_iff.2 hl
 have h5:=x5 B S;have H:af ρ id (.vec e l) B:=⟨rfl,_,hv,by simp[bJ];omega⟩
 letI O:Inhabited (Pl w U ρ e G):=⟨d[0]⟩
 have hH:HoldsK (λp:Pl w U ρ e G=>p.1.1) e.size w B 0 d:=by
  intro t ht;rw[size_flatK]at ht;have hq:t/e.size<d.size:=(Nat.div_lt_iff_lt_mul z).2 ht;have hr:t%e.size<e.size:=Nat.mod_lt _ z;have hk:=a1 _ hq _ hr;have h8:t/e.size*e.size+t%e.size=t:=by have:=Nat.div_add_mod t e.size;rw[Nat.mul_comm]at this;exact this
  rw[h8]at hk;have N:d[t/e.size].1.1.length=e.size:=d[t/e.size].2.1;rw[z6 (by rw[N];exact hr)]at hk;refine⟨?_,by simp[World.frozen?,hB]⟩;rw[get_flatK _ _ _ _ ht,getElem!_pos d _ hq,getElem!_pos _ _ (by rw[N];exact hr)];simp[World.cell?,hB,hk]
 have h7:=X O B A d E hH h5 H;rw[E]at h7;refine h7.mono ?_;rintro e' w' ⟨rfl,g,m,os,x2,x3,rfl⟩;rw[<-E]at x2 x3;obtain⟨h3,_,h0⟩:=x2;have F:g.size=Io l:=by rw[h3,E]
 have a8:g.toList.Perm d.toList:=by
  have e1:g.extract 0 d.size=g:=by rw[<-h3];simp
  have e2:d.extract 0 d.size=d:=by simp
  rwa [e1,e2]at h0
 have P:=ve (enc:=λp:Pl w U ρ e G=>p.1.1) (k:=e.size) (n:=m) (os:=os) g hB;have u:∀b,b<w.heap.size->b≠B->(sortWorldK (λp:Pl w U ρ e G=>p.1.1) e.size w B 0 m g os).heap[b]?=w.heap[b]?:=λb W a5=>ic g W a5
 have s:w.heap.size<=(sortWorldK (λp:Pl w U ρ e G=>p.1.1) e.size w B 0 m g os).heap.size:=by
  unfold sortWorldK grow putRowK;simp[Sort.ahead]
 have M:kF w (sortWorldK (λp:Pl w U ρ e G=>p.1.1) e.size w B 0 m g os):=⟨s,rfl,rfl,rfl,λa ha=>by
  by_cases h6:a.block=B
  .unfold World.frozen?;rw[h6,P,hB]
  .exact yI (u a.block ha h6)⟩
 generalize sortWorldK (λp:Pl w U ρ e G=>p.1.1) e.size w B 0 m g os=w' at P u s M;have Y:∀{c:AV}{x:Value},Rv w U ρ c x->Rv w' U ρ c x:=λh=>h.mono s (λb W hU=>u b W λhe=>hU (he▸S)) (λ_ _ h=>h) (λ_ _ h=>h)
 have L:(g.toList.map λp=>p.1.2).length=Io l:=by simp[F]
 refine⟨g.toList.map λp=>p.1.2,by rw[<-a2];exact a8.map _,?_,_,U,ρ,rfl,?_⟩
 .rw[List.pairwise_map];refine List.pairwise_iff_getElem.2 λi j hi hj a3=>?_
  have J:i<g.size:=by simpa using hi
  have h9:j<g.size:=by simpa using hj
  have:=x3 i j (aM _) a3 (by rw[<-h3];exact h9);rw[getElem!_pos g _ h9,getElem!_pos g _ J]at this;simp only[ltOf,dZ]at this;simpa using this
 .have x1:bl w' U ρ id (.vec e (g.toList.map λp=>p.1.2)):=by
   refine⟨Q1 ⟨B,0,Q2⟩,A,by rw[L];exact hv,by rw[L];exact hm,.inr ⟨B,T,_,rfl,a0,S,P,by simp[putCells,x4],by rw[L];exact x0,?_⟩⟩;intro i hi j c hc;have J:i<g.size:=by rw[F,<-L];exact hi
   have hj:j<e.size:=by have:=(dc.1 hc).1;rwa [ag]at this
   have x9:(zz e g[i].1.2)[j]?=Q1 c:=by simpa using hc
   obtain⟨x,C,D⟩:=g[i].2.2.2.1 j c x9;refine⟨x,?_,Y D⟩;have ht:i*e.size+j<g.size*e.size:=by
    have:=gE e.size (yK J);rw[hV]at this;omega
   have a9:i*e.size+j<x6.size:=by
    rw[x4];have:=gE e.size (show g.size<=A by rw[F];exact x0);omega
   have x7:(i*e.size+j)/e.size=i:=by
    rw[kf,Nat.add_mul_div_right _ _ z,Nat.div_eq_of_lt hj];omega
   have x8:(i*e.size+j)%e.size=j:=by
    rw[kf,Nat.add_mul_mod_self_right,Nat.mod_eq_of_lt hj]
   have I:=get_flatK (λp:Pl w U ρ e G=>p.1.1) e.size g _ ht;rw[x7,x8,getElem!_pos g _ J]at I;have hx:g[i].1.1[j]! =x:=by
    obtain⟨a4,he⟩:=dc.1 C;rw[getElem!_pos g[i].1.1 j a4];exact he
   rw[hx]at I;rw[getElem!_pos _ _ (by simpa using ht)]at I;simp[putCells,a9,ht,I]
  have Z:∀b,af ρ id (.vec e (g.toList.map λp=>p.1.2)) b->b=B:=by
   rintro b ⟨_,v,C,D⟩;rw[hv]at C;cases C;simp[bJ]at D;exact D.2.symm
  refine⟨M,.tup [] [] rfl sw,λi0 o h=>?_,sw,λ_ _=>rfl,λ_ _ h=>h,λb W a6=>u b W λhe=>a6 id (.vec e (g.toList.map λp=>p.1.2)) sw (by rw[ho,he];exact H),λb h=>gF (x5 b h) s,λ_ _ h=>h,λ_ _ h _=>h,?_,?_⟩
  .simp at h;obtain⟨rfl,rfl⟩:=h;exact x1
  .intro i0 o b h W;refine .inr ⟨id,.vec e (g.toList.map λp=>p.1.2),sw,?_⟩;rcases h with h|⟨_,h⟩
   .simp at h;obtain⟨rfl,rfl⟩:=h;rw[Z b W,ho];exact H
   .simp at h
  .intro i2 o1 i3 o2 b C D _ _;rcases C with C|⟨_,C⟩
   .rcases D with D|⟨_,D⟩
    .simp at C D;rw[C.1,D.1]
    .simp at D
   .simp at C
end
end Cad
